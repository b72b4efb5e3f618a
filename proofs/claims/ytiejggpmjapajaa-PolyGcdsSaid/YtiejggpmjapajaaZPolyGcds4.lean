/- Proved: for every input the law PolyGcds returns true and leaves its arguments as they were; no conditions. Part 5 of 6 of the proof. -/
import Derived.Test.YtiejggpmjapajaaZPolyGcds3
set_option linter.unusedSectionVars false
set_option linter.unusedSimpArgs false
set_option linter.unusedVariables false
section
namespace Go.Proofs.Ytiejggpmjapajaa.PA
open Go.RowKit Go.Proofs.YtiejggpmjapajaaW.PrintWords Go.Proofs.YtiejggpmjapajaaW.PrintLast Go.Proofs.YtiejggpmjapajaaW.PrintMore
attribute [local go_sem] max2_int min2_int max_two min_two max_three min_three max_four min_four
set_option linter.unusedVariables false
set_option linter.unusedSimpArgs false
mutual
def codewrightref05_Mul.l0 : Nat → List Int → List Int → List Int → Int → Int → Int → List Int → Option (List Int)
 | 0, _, _, _, _, _, _, _ => none
 | k + 1, x1, x2, x7, x8, x450000, x450001, x450002 => if x8 < (x1.length : Int) then (codewrightref05_Mul.l1 k x1 x2 x7 x8 0 x450000 x450001 x450002) else ((codewrightref05_Canon.f k x450000 x450001 x450002 x7).bind fun t459 => (some t459))
def codewrightref05_Mul.l1 : Nat → List Int → List Int → List Int → Int → Int → Int → Int → List Int → Option (List Int)
 | 0, _, _, _, _, _, _, _, _ => none
 | k + 1, x1, x2, x7, x8, x9, x450000, x450001, x450002 => if x9 < (x2.length : Int) then (if 0 ≤ (wrap64 (x8 + x9)) then (if (wrap64 (x8 + x9)) < (x7.length : Int) then (if 0 ≤ x8 then (if x8 < (x1.length : Int) then (if 0 ≤ x9 then ((codewrightref04_Mul.f k x450000 x450001 x450002 (rd x1 x8) (rd x2 x9)).bind fun t465 => ((codewrightref04_Add.f k x450000 x450001 x450002 (rd x7 (wrap64 (x8 + x9))) t465).bind fun t466 => (codewrightref05_Mul.l1 k x1 x2 (x7.set ((wrap64 (x8 + x9)) : Int).toNat t466) x8 (wrap64 (x9 + 1)) x450000 x450001 x450002))) else (none)) else (none)) else (none)) else (none)) else (none)) else (codewrightref05_Mul.l0 k x1 x2 x7 (wrap64 (x8 + 1)) x450000 x450001 x450002)
end
def codewrightref05_Mul.f (k : Nat) (a0_0 : Int) (a0_1 : Int) (l0_2 : List Int) (l1 : List Int) (l2 : List Int) : Option (List Int) := (codewrightref05_Canon.f k a0_0 a0_1 l0_2 l1).bind fun t450 => ((codewrightref05_Canon.f k a0_0 a0_1 l0_2 l2).bind fun t453 => (if 0 ≤ (wrap64 ((t450.length : Int) + (t453.length : Int))) then (if (wrap64 ((t450.length : Int) + (t453.length : Int)) : Int).toNat ≤ 35184372088832 then (codewrightref05_Mul.l0 k t450 t453 (List.replicate (wrap64 ((t450.length : Int) + (t453.length : Int)) : Int).toNat 0) 0 a0_0 a0_1 l0_2) else (none)) else (none)))
def codewrightref05_Mul.T10 : Bool × List (List Nat × List Nat) := (true, [([], []), ([], []), ([], []), ([1, 2], [1, 2]), ([], []), ([], []), ([], []), ([], []), ([6, 7], [6, 7]), ([5, 8], [5, 8]), ([9], [9]), ([], []), ([], []), ([], []), ([12, 13], [12, 13]), ([14], [14]), ([], []), ([], []), ([16, 17], [16, 17]), ([18], [18]), ([11, 15, 19], [11, 15, 19]), ([4, 10, 20, 20], [4, 10, 20]), ([0, 3, 0, 1, 2, 3, 4, 5, 6, 7, 8, 9, 10, 11, 12, 13, 14, 15, 16, 17, 18, 19, 20, 21], [0, 3]), ([22, 21, 21, 0, 1, 2, 3, 4, 5, 6, 7, 8, 9, 10, 11, 12, 13, 14, 15, 16, 17, 18, 19, 20, 21], [21, 22])])
def codewrightref05_Mul.B10 : List Nat := [0, 0, 0, 6, 0, 0, 0, 0, 192, 480, 992, 0, 0, 0, 12288, 28672, 0, 0, 196608, 458752, 1046528, 2097136, 4194303, 8388607]
theorem codewrightref05_Mul.tab10 : rtab .any (opsOf Try.f36 10) = codewrightref05_Mul.T10 := by kernel_rfl
theorem codewrightref05_Mul.bits10 : waitsOk codewrightref05_Mul.T10.2 codewrightref05_Mul.B10 = true := by kernel_rfl
set_option maxHeartbeats 8000000 in
set_option maxRecDepth 100000 in
theorem codewrightref05_Mul.calls (k : Nat) (a0_0 : Int) (a0_1 : Int) (A0_2 : Option Addr) (c0_2 : Nat) (l0_2 : List Int) (A1 : Option Addr) (c1 : Nat) (l1 : List Int) (A2 : Option Addr) (c2 : Nat) (l2 : List Int) (r : List Int) (w : World) (hr0_2 : Kd.C (Kd.int .i64) w A0_2 l0_2.length l0_2) (hc0_2 : l0_2.length ≤ c0_2) (hr1 : Kd.C (Kd.int .i64) w A1 l1.length l1) (hc1 : l1.length ≤ c1) (hr2 : Kd.C (Kd.int .i64) w A2 l2.length l2) (hc2 : l2.length ≤ c2) (h : codewrightref05_Mul.f k a0_0 a0_1 l0_2 l1 l2 = some r) :
  Calls Try.prog 36 #[.agg #[.int .i64 a0_0, .int .i64 a0_1, .slice A0_2 l0_2.length c0_2], .slice A1 l1.length c1, .slice A2 l2.length c2] w fun e w' => ∃ v0_ : Value, e = .returned (v0_) ∧ Kd.R (Kd.int .i64) 3 w' w.heap.size (fun _ => True) v0_ r ∧ Below w.heap.size w w' := by
 have hu24 := Try.underlying24
 have HR0_2 := Aside0.mk hr0_2
 have HC0_2 := Aside0.mk hc0_2
 clear hr0_2 hc0_2
 have HR1 := Aside0.mk hr1
 have HC1 := Aside0.mk hc1
 clear hr1 hc1
 have HR2 := Aside0.mk hr2
 have HC2 := Aside0.mk hc2
 clear hr2 hc2
 have HB := Aside0.mk (Below.refl w.heap.size w)
 have H : ((codewrightref05_Canon.f k a0_0 a0_1 l0_2 l1).bind fun t450 => ((codewrightref05_Canon.f k a0_0 a0_1 l0_2 l2).bind fun t453 => (if 0 ≤ (wrap64 ((t450.length : Int) + (t453.length : Int))) then (if (wrap64 ((t450.length : Int) + (t453.length : Int)) : Int).toNat ≤ 35184372088832 then (codewrightref05_Mul.l0 k t450 t453 (List.replicate (wrap64 ((t450.length : Int) + (t453.length : Int)) : Int).toNat 0) 0 a0_0 a0_1 l0_2) else (none)) else (none)))) = some r := h
 clear h
 obtain ⟨t450, A40, H⟩ := Option.bind_eq_some_iff.mp H
 replace H : ((codewrightref05_Canon.f k a0_0 a0_1 l0_2 l2).bind fun t453 => (if 0 ≤ (wrap64 ((t450.length : Int) + (t453.length : Int))) then (if (wrap64 ((t450.length : Int) + (t453.length : Int)) : Int).toNat ≤ 35184372088832 then (codewrightref05_Mul.l0 k t450 t453 (List.replicate (wrap64 ((t450.length : Int) + (t453.length : Int)) : Int).toNat 0) 0 a0_0 a0_1 l0_2) else (none)) else (none))) = some r := H
 have A4 := Aside0.mk A40
 clear A40
 obtain ⟨t453, A50, H⟩ := Option.bind_eq_some_iff.mp H
 replace H : (if 0 ≤ (wrap64 ((t450.length : Int) + (t453.length : Int))) then (if (wrap64 ((t450.length : Int) + (t453.length : Int)) : Int).toNat ≤ 35184372088832 then (codewrightref05_Mul.l0 k t450 t453 (List.replicate (wrap64 ((t450.length : Int) + (t453.length : Int)) : Int).toNat 0) 0 a0_0 a0_1 l0_2) else (none)) else (none)) = some r := H
 have A5 := Aside0.mk A50
 clear A50
 obtain ⟨ji6, hji6⟩ : ∃ j_ : Int, (wrap64 ((t450.length : Int) + (t453.length : Int))) = j_ := ⟨_, rfl⟩
 replace H : (if 0 ≤ (ji6) then (if (ji6 : Int).toNat ≤ 35184372088832 then (codewrightref05_Mul.l0 k t450 t453 (List.replicate (ji6 : Int).toNat 0) 0 a0_0 a0_1 l0_2) else (none)) else (none)) = some r := by (rw [hji6] at H; exact H)
 have hji6w : (IntKind.i64.wrap ((t450.length : Int) + (t453.length : Int))) = ji6 := (i64_w _).trans hji6
 by_cases c7 : 0 ≤ (ji6)
 ·rw [if_pos c7] at H
  have c7b0 := eq_true c7
  have c7b1 : decide (0 ≤ (ji6)) = true := decide_eq_true c7
  clear c7
  by_cases c8 : (ji6 : Int).toNat ≤ 35184372088832
  ·rw [if_pos c8] at H
   have c8b0 := eq_true c8
   have c8b1 : decide ((ji6 : Int).toNat ≤ 35184372088832) = true := decide_eq_true c8
   clear c8
   obtain ⟨y456, hy456⟩ : ∃ y_ : List Int, y_ = (List.replicate (ji6 : Int).toNat 0) := ⟨_, rfl⟩
   replace H : (codewrightref05_Mul.l0 k t450 t453 y456 0 a0_0 a0_1 l0_2) = some r := by (rw [hy456]; with_reducible exact H)
   have Ny456 := Aside0.mk hy456
   clear hy456
   have H' := Aside0.mk H
   clear H
   go_enter Try.func36, Try.ntmps36
   go_wp2_with (first | ((with_reducible refine gate_dst (N := 3) rfl ?_); refine box_event ?hg (N := 3) ?hd (cs := #[.int .i64 a0_0, .int .i64 a0_1, .slice A0_2 l0_2.length c0_2]) (t := 24) ?hr ?_; (case hd => rfl); (case hg => rfl); (case hr => (go_simp; done)); intro gb449 hg w9 hbox hb; have n0_ := Aside0.mk (below_step HB.out hb); have n1_ := Aside0.mk (hbox); have n2_ := Aside0.mk ((by rw [hg]; exact (below_size HB.out) : w.heap.size ≤ gb449)); have n3_ := Aside0.mk ((by rw [hg]; exact (below_size HB.out) : w.heap.size ≤ gb449)); clear HB; have HB := n0_; have BK449 := n1_; have GW449 := n2_; have GE449 := n3_; clear n0_ n1_ n2_ n3_; clear hb hbox hg; have hcz10_0 : w9.cell? ⟨gb449, 0, none⟩ = some (.int .i64 a0_0) := (blk_cell BK449.out 0).trans rfl; have hcz10_1 : w9.cell? ⟨gb449, 1, none⟩ = some (.int .i64 a0_1) := (blk_cell BK449.out 1).trans rfl; have hcz10_2 : w9.cell? ⟨gb449, 2, none⟩ = some (.slice A0_2 l0_2.length c0_2) := (blk_cell BK449.out 2).trans rfl; have hfz10_0 := blk_frozen BK449.out 0; have hfz10_1 := blk_frozen BK449.out 1; have hfz10_2 := blk_frozen BK449.out 2) | ((with_reducible refine gate_callee (f := 32) rfl ?_); refine goesL_ (some 12) rfl rfl Try.func32 (by kernel_rfl) rfl #[.agg #[.int .i64 a0_0, .int .i64 a0_1, .slice A0_2 l0_2.length c0_2], .slice A1 l1.length c1] rfl (by ((simp only [List.map_toArray, List.map_cons, List.map_nil])); (rfl)) ?_; (with_reducible refine (codewrightref05_Canon.calls k a0_0 a0_1 _ _ l0_2 _ _ l1 t450 _ ?side1 ?side2 ?side3 ?side4 A4.out).mono ?_); (case side1 => repeat ((exact (Kd.C_below HR0_2.out HB.out)))); (case side2 => exact HC0_2.out); (case side3 => repeat ((exact (Kd.C_below HR1.out HB.out)))); (case side4 => exact HC1.out); rintro e w11 ⟨v451, rfl, ho0, hb⟩; refine ⟨_, rfl, ?_⟩; have n0_ := Aside0.mk (Kd.R_lower ho0 (below_size HB.out)); have n1_ := Aside0.mk (blk_below (g := gb449) (o := .cells #[.int .i64 a0_0, .int .i64 a0_1, .slice A0_2 l0_2.length c0_2] 24 (0, 0)) BK449.out hb); have n2_ := Aside0.mk (below_step HB.out hb); clear BK449; clear HB; have HO452 := n0_; have BK449 := n1_; have HB := n2_; clear n0_ n1_ n2_; ((clear hb)); (skip); (skip); (skip); ((clear ho0)); have hcz12_0 : w11.cell? ⟨gb449, 0, none⟩ = some (.int .i64 a0_0) := (blk_cell BK449.out 0).trans rfl; have hcz12_1 : w11.cell? ⟨gb449, 1, none⟩ = some (.int .i64 a0_1) := (blk_cell BK449.out 1).trans rfl; have hcz12_2 : w11.cell? ⟨gb449, 2, none⟩ = some (.slice A0_2 l0_2.length c0_2) := (blk_cell BK449.out 2).trans rfl; have hfz12_0 := blk_frozen BK449.out 0; have hfz12_1 := blk_frozen BK449.out 1; have hfz12_2 := blk_frozen BK449.out 2) | ((with_reducible refine gate_callee (f := 32) rfl ?_); refine goesL_ (some 15) rfl rfl Try.func32 (by kernel_rfl) rfl #[.agg #[.int .i64 a0_0, .int .i64 a0_1, .slice A0_2 l0_2.length c0_2], .slice A2 l2.length c2] rfl (by ((simp only [List.map_toArray, List.map_cons, List.map_nil])); (rfl)) ?_; (with_reducible refine (codewrightref05_Canon.calls k a0_0 a0_1 _ _ l0_2 _ _ l2 t453 _ ?side1 ?side2 ?side3 ?side4 A5.out).mono ?_); (case side1 => repeat ((exact (Kd.C_below HR0_2.out HB.out)))); (case side2 => exact HC0_2.out); (case side3 => repeat ((exact (Kd.C_below HR2.out HB.out)))); (case side4 => exact HC2.out); rintro e w13 ⟨v454, rfl, ho0, hb⟩; refine ⟨_, rfl, ?_⟩; have n0_ := Aside0.mk (Kd.R_elder' HO452.out (Kd.R_base ho0) hb); have n1_ := Aside0.mk (Kd.R_lower (Kd.R_new' ho0 (Kd.R_lt HO452.out)) (below_size HB.out)); have n2_ := Aside0.mk (blk_below (g := gb449) (o := .cells #[.int .i64 a0_0, .int .i64 a0_1, .slice A0_2 l0_2.length c0_2] 24 (0, 0)) BK449.out hb); have n3_ := Aside0.mk (below_step HB.out hb); clear HO452; clear BK449; clear HB; have HO452 := n0_; have HO455 := n1_; have BK449 := n2_; have HB := n3_; clear n0_ n1_ n2_ n3_; ((clear hb)); (skip); (skip); (skip); ((clear ho0)); obtain ⟨Ao14, co14, eo14⟩ := Kd.R_slice HO452.out; subst eo14; obtain ⟨Ao15, co15, eo15⟩ := Kd.R_slice HO455.out; subst eo15) | ((with_reducible refine gate_dst (N := 21) rfl ?_); refine Kd.R_make (Kd.int .i64) _ 3 rfl (N := 21) rfl 22 _ _ rfl ji6 rfl rfl Try.underlying22 (.int .i64 0) 8 info3 rfl (by decide) (by omega) 0 (ok := fun _ => True) (okp := fun _ => True) rfl (fun _ hk => hk) trivial (of_decide_eq_true (by (with_reducible assumption))) (Nat.le_trans (Nat.mul_le_mul_right _ (of_decide_eq_true (by (with_reducible assumption)) : ji6.toNat ≤ 35184372088832)) (by omega)) (Below.refl _ _) (Nat.le_refl _) ?_; intro v457 w16 ho17 hb hg_ hnew_; clear hg_ hnew_; ((rw [← Ny456.out] at ho17)); have n0_ := Aside0.mk (Kd.R_elder' HO452.out (Kd.R_base ho17) hb); have n1_ := Aside0.mk (Kd.R_elder' HO455.out (Kd.R_base ho17) hb); have n2_ := Aside0.mk (Kd.R_lower (Kd.R_new' (Kd.R_new' ho17 (Kd.R_lt HO452.out)) (Kd.R_lt HO455.out)) (below_size HB.out)); have n3_ := Aside0.mk (blk_below (g := gb449) (o := .cells #[.int .i64 a0_0, .int .i64 a0_1, .slice A0_2 l0_2.length c0_2] 24 (0, 0)) BK449.out hb); have n4_ := Aside0.mk (below_step HB.out hb); clear HO452; clear HO455; clear BK449; clear HB; have HO452 := n0_; have HO455 := n1_; have HO458 := n2_; have BK449 := n3_; have HB := n4_; clear n0_ n1_ n2_ n3_ n4_; clear hb ho17))
   go_loopg [8] k (fun kq v8 w' => ∃ (x7_1 : List Int) (x8_1 : Int), v8 = .int .i64 x8_1 ∧ Aside0 (codewrightref05_Mul.l0 kq t450 t453 x7_1 x8_1 a0_0 a0_1 l0_2 = some r) ∧ Aside0 (kq ≤ k) ∧ Aside0 (Kd.R (Kd.int .i64) 3 w' w.heap.size (fun k_ => some k_ ≠ ((.slice Ao15 t453.length co15) : Value).ownBlock ∧ some k_ ≠ (v457 : Value).ownBlock) (.slice Ao14 t450.length co14) t450) ∧ Aside0 (Kd.R (Kd.int .i64) 3 w' w.heap.size (fun k_ => some k_ ≠ ((.slice Ao14 t450.length co14) : Value).ownBlock ∧ some k_ ≠ (v457 : Value).ownBlock) (.slice Ao15 t453.length co15) t453) ∧ Aside0 (Kd.R (Kd.int .i64) 3 w' w.heap.size (fun k_ => some k_ ≠ ((.slice Ao14 t450.length co14) : Value).ownBlock ∧ some k_ ≠ ((.slice Ao15 t453.length co15) : Value).ownBlock) v457 x7_1) ∧ Aside0 (w'.heap[gb449]? = some (.cells #[.int .i64 a0_0, .int .i64 a0_1, (.slice A0_2 l0_2.length c0_2)] 24 (0, 0))) ∧ Aside0 (Below w.heap.size w w'))
   case atStart => exact ⟨(y456), (0), (by rfl), H', ⟨Nat.le_refl _⟩, ⟨by exact Kd.R_mono HO452.out (fun _ hk => ⟨hk.1.2, hk.2⟩)⟩, ⟨by exact Kd.R_mono HO455.out (fun _ hk => ⟨hk.1.2, hk.2⟩)⟩, ⟨by exact Kd.R_mono HO458.out (fun _ hk => ⟨hk.1.2, hk.2⟩)⟩, ⟨BK449.out⟩, ⟨by exact HB.out⟩⟩
   case round =>
    clear H' c7b0 c7b1 c8b0 c8b1 hcz10_0 hcz10_1 hcz10_2 hcz12_0 hcz12_1 hcz12_2 hfz10_0 hfz10_1 hfz10_2 hfz12_0 hfz12_1 hfz12_2
    obtain ⟨x7_1, x8_1, rfl, HA, HK1, HO_1, HO_2, HO_7, BK449, HB⟩ := hrel
    cases gk with
    | zero => exact absurd HA.out (by simp [codewrightref05_Mul.l0])
    | succ k1 =>
     have H := HA.out
     clear HA
     simp only [codewrightref05_Mul.l0] at H
     by_cases c18 : x8_1 < (t450.length : Int)
     ·rw [if_pos c18] at H
      have c18b0 : decide (x8_1 < (t450.length : Int)) = true := decide_eq_true c18
      clear c18
      have H' := Aside0.mk H
      clear H
      go_wp2
      go_loopg [9] k1 (fun kq v9 w' => ∃ (x7_2 : List Int) (x9_2 : Int), v9 = .int .i64 x9_2 ∧ Aside0 (codewrightref05_Mul.l1 kq t450 t453 x7_2 x8_1 x9_2 a0_0 a0_1 l0_2 = some r) ∧ Aside0 (kq ≤ k1) ∧ Aside0 (Kd.R (Kd.int .i64) 3 w' w.heap.size (fun k_ => some k_ ≠ ((.slice Ao15 t453.length co15) : Value).ownBlock ∧ some k_ ≠ (v457 : Value).ownBlock) (.slice Ao14 t450.length co14) t450) ∧ Aside0 (Kd.R (Kd.int .i64) 3 w' w.heap.size (fun k_ => some k_ ≠ ((.slice Ao14 t450.length co14) : Value).ownBlock ∧ some k_ ≠ (v457 : Value).ownBlock) (.slice Ao15 t453.length co15) t453) ∧ Aside0 (Kd.R (Kd.int .i64) 3 w' w.heap.size (fun k_ => some k_ ≠ ((.slice Ao14 t450.length co14) : Value).ownBlock ∧ some k_ ≠ ((.slice Ao15 t453.length co15) : Value).ownBlock) v457 x7_2) ∧ Aside0 (w'.heap[gb449]? = some (.cells #[.int .i64 a0_0, .int .i64 a0_1, (.slice A0_2 l0_2.length c0_2)] 24 (0, 0))) ∧ Aside0 (Below w.heap.size w w'))
      case atStart => exact ⟨(x7_1), (0), (by rfl), H', ⟨Nat.le_refl _⟩, ⟨HO_1.out⟩, ⟨HO_2.out⟩, ⟨HO_7.out⟩, ⟨BK449.out⟩, ⟨by exact HB.out⟩⟩
      case round =>
       clear H' c18b0
       obtain ⟨x7_2, x9_2, rfl, HA, HK2, HO_1, HO_2, HO_7, BK449, HB⟩ := hrel
       cases gk with
       | zero => exact absurd HA.out (by simp [codewrightref05_Mul.l1])
       | succ k2 =>
        have H := HA.out
        clear HA
        simp only [codewrightref05_Mul.l1] at H
        by_cases c19 : x9_2 < (t453.length : Int)
        ·rw [if_pos c19] at H
         have c19b0 : decide (x9_2 < (t453.length : Int)) = true := decide_eq_true c19
         clear c19
         obtain ⟨ji20, hji20⟩ : ∃ j_ : Int, (wrap64 (x8_1 + x9_2)) = j_ := ⟨_, rfl⟩
         replace H : (if 0 ≤ (ji20) then (if (ji20) < (x7_2.length : Int) then (if 0 ≤ x8_1 then (if x8_1 < (t450.length : Int) then (if 0 ≤ x9_2 then ((codewrightref04_Mul.f k2 a0_0 a0_1 l0_2 (rd t450 x8_1) (rd t453 x9_2)).bind fun t465 => ((codewrightref04_Add.f k2 a0_0 a0_1 l0_2 (rd x7_2 (ji20)) t465).bind fun t466 => (codewrightref05_Mul.l1 k2 t450 t453 (x7_2.set ((ji20) : Int).toNat t466) x8_1 (wrap64 (x9_2 + 1)) a0_0 a0_1 l0_2))) else (none)) else (none)) else (none)) else (none)) else (none)) = some r := by (rw [hji20] at H; exact H)
         have hji20w : (IntKind.i64.wrap (x8_1 + x9_2)) = ji20 := (i64_w _).trans hji20
         by_cases c21 : 0 ≤ (ji20)
         ·rw [if_pos c21] at H
          have c21b0 : decide (0 ≤ (ji20)) = true := decide_eq_true c21
          clear c21
          by_cases c22 : (ji20) < (x7_2.length : Int)
          ·rw [if_pos c22] at H
           have c22b0 : decide ((ji20) < (x7_2.length : Int)) = true := decide_eq_true c22
           clear c22
           by_cases c23 : 0 ≤ x8_1
           ·rw [if_pos c23] at H
            have c23b0 : decide (0 ≤ x8_1) = true := decide_eq_true c23
            clear c23
            by_cases c24 : x8_1 < (t450.length : Int)
            ·rw [if_pos c24] at H
             have c24b0 : decide (x8_1 < (t450.length : Int)) = true := decide_eq_true c24
             clear c24
             by_cases c25 : 0 ≤ x9_2
             ·rw [if_pos c25] at H
              have c25b0 : decide (0 ≤ x9_2) = true := decide_eq_true c25
              clear c25
              obtain ⟨t465, A260, H⟩ := Option.bind_eq_some_iff.mp H
              replace H : ((codewrightref04_Add.f k2 a0_0 a0_1 l0_2 (rd x7_2 (ji20)) t465).bind fun t466 => (codewrightref05_Mul.l1 k2 t450 t453 (x7_2.set ((ji20) : Int).toNat t466) x8_1 (wrap64 (x9_2 + 1)) a0_0 a0_1 l0_2)) = some r := H
              have A26 := Aside0.mk A260
              clear A260
              obtain ⟨t466, A270, H⟩ := Option.bind_eq_some_iff.mp H
              replace H : (codewrightref05_Mul.l1 k2 t450 t453 (x7_2.set ((ji20) : Int).toNat t466) x8_1 (wrap64 (x9_2 + 1)) a0_0 a0_1 l0_2) = some r := H
              have A27 := Aside0.mk A270
              clear A270
              obtain ⟨y467, hy467⟩ : ∃ y_ : List Int, y_ = (x7_2.set ((ji20) : Int).toNat t466) := ⟨_, rfl⟩
              replace H : (codewrightref05_Mul.l1 k2 t450 t453 y467 x8_1 (wrap64 (x9_2 + 1)) a0_0 a0_1 l0_2) = some r := by (rw [hy467]; with_reducible exact H)
              have Ny467 := Aside0.mk hy467
              clear hy467
              have H' := Aside0.mk H
              clear H
              (go_wp2)
              have n0_ := Aside0.mk (Kd.R_drew HO_1.out)
              have n1_ := Aside0.mk (Kd.R_drew HO_2.out)
              have n2_ := Aside0.mk (Kd.R_drew HO_7.out)
              have n3_ := Aside0.mk (blk_drew BK449.out)
              have n4_ := Aside0.mk (below_drew1 HB.out)
              clear HO_1 HO_2 HO_7 BK449 HB
              have HO_1 := n0_
              have HO_2 := n1_
              have HO_7 := n2_
              have BK449 := n3_
              have HB := n4_
              clear n0_ n1_ n2_ n3_ n4_
              obtain ⟨Ao30, co30, eo30⟩ := Kd.R_slice HO_7.out
              ((subst eo30))
              have p462 : 0 ≤ ((ji20) : Int) := of_decide_eq_true (by (with_reducible assumption))
              have q462 : (ji20) < (x7_2.length : Int) := of_decide_eq_true (by (with_reducible assumption))
              obtain ⟨ad462, e462, hx462_0⟩ := Kd.at_int (Kd.R_reads' HO_7.out).2.2 (ji20) p462 q462
              cases e462
              replace p462 := eq_true p462
              replace q462 := eq_true q462
              have p463 : 0 ≤ (x8_1 : Int) := of_decide_eq_true (by (with_reducible assumption))
              have q463 : x8_1 < (t450.length : Int) := of_decide_eq_true (by (with_reducible assumption))
              obtain ⟨ad463, e463, hx463_0⟩ := Kd.at_int (Kd.R_reads' HO_1.out).2.2 x8_1 p463 q463
              cases e463
              replace p463 := eq_true p463
              replace q463 := eq_true q463
              have p464 : 0 ≤ (x9_2 : Int) := of_decide_eq_true (by (with_reducible assumption))
              have q464 : x9_2 < (t453.length : Int) := of_decide_eq_true (by (with_reducible assumption))
              obtain ⟨ad464, e464, hx464_0⟩ := Kd.at_int (Kd.R_reads' HO_2.out).2.2 x9_2 p464 q464
              cases e464
              replace p464 := eq_true p464
              replace q464 := eq_true q464
              refine start_ (n := 24) (S := fun w' => w'.cell? ⟨gb449, 0, none⟩ = some (.int .i64 a0_0) ∧ w'.cell? ⟨gb449, 1, none⟩ = some (.int .i64 a0_1) ∧ w'.cell? ⟨gb449, 2, none⟩ = some (.slice A0_2 l0_2.length c0_2) ∧ w'.cell? (ad462.add ((ji20)).toNat) = some (.int .i64 (rd x7_2 (ji20))) ∧ w'.cell? (ad463.add (x8_1).toNat) = some (.int .i64 (rd t450 x8_1)) ∧ w'.cell? (ad464.add (x9_2).toNat) = some (.int .i64 (rd t453 x9_2))) (ds := [23]) #[false, false, false, false, false, false, false, false, false, false, false, false, false, false, false, false, false, false, false, false, false, false, false, false] (by kernel_rfl) rfl rfl ⟨(blk_cell BK449.out 0).trans rfl, (blk_cell BK449.out 1).trans rfl, (blk_cell BK449.out 2).trans rfl, hx462_0, hx463_0, hx464_0⟩ (fun hHeld => ?_); refine with_tabW codewrightref05_Mul.tab10 codewrightref05_Mul.bits10 (fun HT_ HW_ => ?_)
              generalize wr.drew = w29 at HO_1 HO_2 HO_7 BK449 HB hx462_0 hx463_0 hx464_0 hHeld ⊢
              refine pure_ (i := 0) (N := some 34) (v := ?_) (a' := ?_) #[true, false, false, false, false, false, false, false, false, false, false, false, false, false, false, false, false, false, false, false, false, false, false, false] rfl rfl (any_of HT_.out (by kernel_rfl)) (fun _ _ _ h => h) (Or.inl ⟨by rfl, ?_⟩) ?_ ?_
              rotate_left
              ·intro w'
               go_simp
               with_reducible rfl
              rotate_left
              ·simp only [Act.put, List.setIfInBounds_toArray, List.set_cons_zero, List.set_cons_succ, i64_w, i32_w]
               rfl
              refine pure_ (i := 1) (N := some 35) (v := ?_) (a' := ?_) #[true, true, false, false, false, false, false, false, false, false, false, false, false, false, false, false, false, false, false, false, false, false, false, false] rfl rfl (any_of HT_.out (by kernel_rfl)) (fun _ _ _ h => h) (Or.inl ⟨by rfl, ?_⟩) ?_ ?_
              rotate_left
              ·intro w'
               go_simp
               with_reducible rfl
              rotate_left
              ·simp only [Act.put, List.setIfInBounds_toArray, List.set_cons_zero, List.set_cons_succ, i64_w, i32_w]
               rfl
              refine pure_ (i := 2) (N := some 36) (v := ?_) (a' := ?_) #[true, true, true, false, false, false, false, false, false, false, false, false, false, false, false, false, false, false, false, false, false, false, false, false] rfl rfl (any_of HT_.out (by kernel_rfl)) (fun _ _ _ h => h) (Or.inl ⟨by rfl, ?_⟩) ?_ ?_
              rotate_left
              ·intro w'
               go_simp
               with_reducible rfl
              rotate_left
              ·simp only [Act.put, List.setIfInBounds_toArray, List.set_cons_zero, List.set_cons_succ, i64_w, i32_w]
               rfl
              refine pure_ (i := 3) (N := some 37) (v := ?_) (a' := ?_) #[true, true, true, true, false, false, false, false, false, false, false, false, false, false, false, false, false, false, false, false, false, false, false, false] rfl rfl (any_of HT_.out (by kernel_rfl)) (fun _ _ _ h => h) (Or.inl ⟨by rfl, ?_⟩) ?_ ?_
              rotate_left
              ·intro w'
               go_simp
               with_reducible rfl
              rotate_left
              ·simp only [Act.put, List.setIfInBounds_toArray, List.set_cons_zero, List.set_cons_succ, i64_w, i32_w]
               rfl
              refine pure_ (i := 5) (N := some 39) (v := ?_) (a' := ?_) #[true, true, true, true, false, true, false, false, false, false, false, false, false, false, false, false, false, false, false, false, false, false, false, false] rfl rfl (any_of HT_.out (by kernel_rfl)) (fun _ _ _ h => h) (Or.inl ⟨by rfl, ?_⟩) ?_ ?_
              rotate_left
              ·intro w'
               go_simp
               with_reducible rfl
              rotate_left
              ·simp only [Act.put, List.setIfInBounds_toArray, List.set_cons_zero, List.set_cons_succ, i64_w, i32_w]
               rfl
              refine pure_ (i := 6) (N := some 40) (v := ?_) (a' := ?_) #[true, true, true, true, false, true, true, false, false, false, false, false, false, false, false, false, false, false, false, false, false, false, false, false] rfl rfl (any_of HT_.out (by kernel_rfl)) (fun _ _ _ h => h) (Or.inl ⟨by rfl, ?_⟩) ?_ ?_
              rotate_left
              ·intro w'
               go_simp
               with_reducible rfl
              rotate_left
              ·simp only [Act.put, List.setIfInBounds_toArray, List.set_cons_zero, List.set_cons_succ, i64_w, i32_w]
               rfl
              refine pure_ (i := 7) (N := some 41) (v := ?_) (a' := ?_) #[true, true, true, true, false, true, true, true, false, false, false, false, false, false, false, false, false, false, false, false, false, false, false, false] rfl rfl (any_of HT_.out (by kernel_rfl)) (fun _ _ _ h => h) (Or.inl ⟨by rfl, ?_⟩) ?_ ?_
              rotate_left
              ·intro w'
               go_simp
               with_reducible rfl
              rotate_left
              ·simp only [Act.put, List.setIfInBounds_toArray, List.set_cons_zero, List.set_cons_succ, i64_w, i32_w]
               rfl
              refine pure_ (i := 8) (N := some 42) (v := ?_) (a' := ?_) #[true, true, true, true, false, true, true, true, true, false, false, false, false, false, false, false, false, false, false, false, false, false, false, false] rfl rfl (any_of HT_.out (by kernel_rfl)) (fun _ _ _ h => h) (Or.inl ⟨by rfl, ?_⟩) ?_ ?_
              rotate_left
              ·intro w'
               go_simp
               with_reducible rfl
              rotate_left
              ·simp only [Act.put, List.setIfInBounds_toArray, List.set_cons_zero, List.set_cons_succ, i64_w, i32_w]
               rfl
              refine pure_ (i := 9) (N := some 43) (v := ?_) (a' := ?_) #[true, true, true, true, false, true, true, true, true, true, false, false, false, false, false, false, false, false, false, false, false, false, false, false] rfl rfl (any_of HT_.out (by kernel_rfl)) (fun _ _ _ h => h) (Or.inl ⟨by rfl, ?_⟩) ?_ ?_
              rotate_left
              ·intro w'
               go_simp
               with_reducible rfl
              rotate_left
              ·simp only [Act.put, List.setIfInBounds_toArray, List.set_cons_zero, List.set_cons_succ, i64_w, i32_w]
               rfl
              refine pure_ (i := 12) (N := some 46) (v := ?_) (a' := ?_) #[true, true, true, true, false, true, true, true, true, true, false, false, true, false, false, false, false, false, false, false, false, false, false, false] rfl rfl (any_of HT_.out (by kernel_rfl)) (fun _ _ _ h => h) (Or.inl ⟨by rfl, ?_⟩) ?_ ?_
              rotate_left
              ·intro w'
               go_simp
               with_reducible rfl
              rotate_left
              ·simp only [Act.put, List.setIfInBounds_toArray, List.set_cons_zero, List.set_cons_succ, i64_w, i32_w]
               rfl
              refine pure_ (i := 13) (N := some 47) (v := ?_) (a' := ?_) #[true, true, true, true, false, true, true, true, true, true, false, false, true, true, false, false, false, false, false, false, false, false, false, false] rfl rfl (any_of HT_.out (by kernel_rfl)) (fun _ _ _ h => h) (Or.inl ⟨by rfl, ?_⟩) ?_ ?_
              rotate_left
              ·intro w'
               go_simp
               with_reducible rfl
              rotate_left
              ·simp only [Act.put, List.setIfInBounds_toArray, List.set_cons_zero, List.set_cons_succ, i64_w, i32_w]
               rfl
              refine pure_ (i := 14) (N := some 48) (v := ?_) (a' := ?_) #[true, true, true, true, false, true, true, true, true, true, false, false, true, true, true, false, false, false, false, false, false, false, false, false] rfl rfl (any_of HT_.out (by kernel_rfl)) (fun _ _ _ h => h) (Or.inl ⟨by rfl, ?_⟩) ?_ ?_
              rotate_left
              ·intro w'
               go_simp
               with_reducible rfl
              rotate_left
              ·simp only [Act.put, List.setIfInBounds_toArray, List.set_cons_zero, List.set_cons_succ, i64_w, i32_w]
               rfl
              refine pure_ (i := 16) (N := some 50) (v := ?_) (a' := ?_) #[true, true, true, true, false, true, true, true, true, true, false, false, true, true, true, false, true, false, false, false, false, false, false, false] rfl rfl (any_of HT_.out (by kernel_rfl)) (fun _ _ _ h => h) (Or.inl ⟨by rfl, ?_⟩) ?_ ?_
              rotate_left
              ·intro w'
               go_simp
               with_reducible rfl
              rotate_left
              ·simp only [Act.put, List.setIfInBounds_toArray, List.set_cons_zero, List.set_cons_succ, i64_w, i32_w]
               rfl
              refine pure_ (i := 17) (N := some 51) (v := ?_) (a' := ?_) #[true, true, true, true, false, true, true, true, true, true, false, false, true, true, true, false, true, true, false, false, false, false, false, false] rfl rfl (any_of HT_.out (by kernel_rfl)) (fun _ _ _ h => h) (Or.inl ⟨by rfl, ?_⟩) ?_ ?_
              rotate_left
              ·intro w'
               go_simp
               with_reducible rfl
              rotate_left
              ·simp only [Act.put, List.setIfInBounds_toArray, List.set_cons_zero, List.set_cons_succ, i64_w, i32_w]
               rfl
              refine pure_ (i := 18) (N := some 52) (v := ?_) (a' := ?_) #[true, true, true, true, false, true, true, true, true, true, false, false, true, true, true, false, true, true, true, false, false, false, false, false] rfl rfl (any_of HT_.out (by kernel_rfl)) (fun _ _ _ h => h) (Or.inl ⟨by rfl, ?_⟩) ?_ ?_
              rotate_left
              ·intro w'
               go_simp
               with_reducible rfl
              rotate_left
              ·simp only [Act.put, List.setIfInBounds_toArray, List.set_cons_zero, List.set_cons_succ, i64_w, i32_w]
               rfl
              refine take_ (i := 4) (N := some 38) (v := ?_) (a' := ?_) #[true, true, true, true, true, true, true, true, true, true, false, false, true, true, true, false, true, true, true, false, false, false, false, false] rfl rfl (take_ofW HT_.out HW_.out (by kernel_rfl)) (fun _ _ _ h => h) (Or.inl ⟨by rfl, ?_⟩) hHeld ?_ ?_
              rotate_left
              ·rintro w' ⟨s0, s1, s2, s3, s4, s5⟩
               go_simp
               with_reducible rfl
              rotate_left
              ·simp only [Act.put, List.setIfInBounds_toArray, List.set_cons_zero, List.set_cons_succ, i64_w, i32_w]
               rfl
              refine take_ (i := 10) (N := some 44) (v := ?_) (a' := ?_) #[true, true, true, true, true, true, true, true, true, true, true, false, true, true, true, false, true, true, true, false, false, false, false, false] rfl rfl (take_ofW HT_.out HW_.out (by kernel_rfl)) (fun _ _ _ h => h) (Or.inl ⟨by rfl, ?_⟩) hHeld ?_ ?_
              rotate_left
              ·rintro w' ⟨s0, s1, s2, s3, s4, s5⟩
               go_simp
               with_reducible rfl
              rotate_left
              ·simp only [Act.put, List.setIfInBounds_toArray, List.set_cons_zero, List.set_cons_succ, i64_w, i32_w]
               rfl
              refine take_ (i := 11) (N := some 45) (v := ?_) (a' := ?_) #[true, true, true, true, true, true, true, true, true, true, true, true, true, true, true, false, true, true, true, false, false, false, false, false] rfl rfl (take_ofW HT_.out HW_.out (by kernel_rfl)) (fun _ _ _ h => h) (Or.inl ⟨by rfl, ?_⟩) hHeld ?_ ?_
              rotate_left
              ·rintro w' ⟨s0, s1, s2, s3, s4, s5⟩
               go_simp
               with_reducible rfl
              rotate_left
              ·simp only [Act.put, List.setIfInBounds_toArray, List.set_cons_zero, List.set_cons_succ, i64_w, i32_w]
               rfl
              refine take_ (i := 15) (N := some 49) (v := ?_) (a' := ?_) #[true, true, true, true, true, true, true, true, true, true, true, true, true, true, true, true, true, true, true, false, false, false, false, false] rfl rfl (take_ofW HT_.out HW_.out (by kernel_rfl)) (fun _ _ _ h => h) (Or.inl ⟨by rfl, ?_⟩) hHeld ?_ ?_
              rotate_left
              ·rintro w' ⟨s0, s1, s2, s3, s4, s5⟩
               go_simp
               with_reducible rfl
              rotate_left
              ·simp only [Act.put, List.setIfInBounds_toArray, List.set_cons_zero, List.set_cons_succ, i64_w, i32_w]
               rfl
              refine take_ (i := 19) (N := some 53) (v := ?_) (a' := ?_) #[true, true, true, true, true, true, true, true, true, true, true, true, true, true, true, true, true, true, true, true, false, false, false, false] rfl rfl (take_ofW HT_.out HW_.out (by kernel_rfl)) (fun _ _ _ h => h) (Or.inl ⟨by rfl, ?_⟩) hHeld ?_ ?_
              rotate_left
              ·rintro w' ⟨s0, s1, s2, s3, s4, s5⟩
               go_simp
               with_reducible rfl
              rotate_left
              ·simp only [Act.put, List.setIfInBounds_toArray, List.set_cons_zero, List.set_cons_succ, i64_w, i32_w]
               rfl
              refine one_ (i := 20) (N := some 54) #[true, true, true, true, true, true, true, true, true, true, true, true, true, true, true, true, true, true, true, true, true, false, false, false] rfl rfl (one_of HT_.out (by kernel_rfl)) (by decide) (fun K hK => ?_)
              refine goes_ Try.func44 (by kernel_rfl) rfl #[.agg #[.int .i64 a0_0, .int .i64 a0_1, .slice A0_2 l0_2.length c0_2], .int .i64 (rd t450 x8_1), .int .i64 (rd t453 x9_2)] (by rfl) rfl rfl (by ((simp only [List.map_toArray, List.map_cons, List.map_nil])); (rfl)) ?_
              with_reducible refine (codewrightref04_Mul.calls k2 a0_0 a0_1 _ _ l0_2 (rd t450 x8_1) (rd t453 x9_2) t465 _ ?side1 ?side2 A26.out).mono ?_
              (case side1 => repeat ((exact (Kd.C_below HR0_2.out HB.out))))
              (case side2 => exact HC0_2.out)
              rintro e w31 ⟨rfl, hb⟩
              have HS3_ := (hb.cell (World.block_lt_of_cell? _ _ (hHeld.2.2.2.1))).trans (hHeld.2.2.2.1)
              have HS4_ := (hb.cell (World.block_lt_of_cell? _ _ (hHeld.2.2.2.2.1))).trans (hHeld.2.2.2.2.1)
              have HS5_ := (hb.cell (World.block_lt_of_cell? _ _ (hHeld.2.2.2.2.2))).trans (hHeld.2.2.2.2.2)
              refine ⟨_, rfl, ?_⟩
              have n0_ := Aside0.mk (Kd.R_below HO_1.out hb)
              have n1_ := Aside0.mk (Kd.R_below HO_2.out hb)
              have n2_ := Aside0.mk (Kd.R_below HO_7.out hb)
              have n3_ := Aside0.mk (blk_below (g := gb449) (o := .cells #[.int .i64 a0_0, .int .i64 a0_1, .slice A0_2 l0_2.length c0_2] 24 (0, 0)) BK449.out hb)
              have n4_ := Aside0.mk (below_step HB.out hb)
              clear HO_1 HO_2 HO_7 BK449 HB
              have HO_1 := n0_
              have HO_2 := n1_
              have HO_7 := n2_
              have BK449 := n3_
              have HB := n4_
              clear n0_ n1_ n2_ n3_ n4_
              ((clear hb))
              refine hK.out _ _ ⟨(blk_cell BK449.out 0).trans rfl, (blk_cell BK449.out 1).trans rfl, (blk_cell BK449.out 2).trans rfl, HS3_, HS4_, HS5_⟩ (fun hHeld => ?_)
              clear hK K
              refine norm_ (a' := ?_) ?_ ?_
              rotate_left
              ·show Act.put _ (some 54) _ = _
               simp only [Act.put, List.setIfInBounds_toArray, List.set_cons_zero, List.set_cons_succ, i64_w, i32_w]
               rfl
              refine one_ (i := 21) (N := some 55) #[true, true, true, true, true, true, true, true, true, true, true, true, true, true, true, true, true, true, true, true, true, true, false, false] rfl rfl (one_of HT_.out (by kernel_rfl)) (by decide) (fun K hK => ?_)
              refine goes_ Try.func43 (by kernel_rfl) rfl #[.agg #[.int .i64 a0_0, .int .i64 a0_1, .slice A0_2 l0_2.length c0_2], .int .i64 (rd x7_2 (ji20)), .int .i64 t465] (by rfl) rfl rfl (by ((simp only [List.map_toArray, List.map_cons, List.map_nil])); (rfl)) ?_
              with_reducible refine (codewrightref04_Add.calls k2 a0_0 a0_1 _ _ l0_2 (rd x7_2 (ji20)) t465 t466 _ ?side1 ?side2 A27.out).mono ?_
              (case side1 => repeat ((exact (Kd.C_below HR0_2.out HB.out))))
              (case side2 => exact HC0_2.out)
              rintro e w32 ⟨rfl, hb⟩
              have HS3_ := (hb.cell (World.block_lt_of_cell? _ _ (hHeld.2.2.2.1))).trans (hHeld.2.2.2.1)
              have HS4_ := (hb.cell (World.block_lt_of_cell? _ _ (hHeld.2.2.2.2.1))).trans (hHeld.2.2.2.2.1)
              have HS5_ := (hb.cell (World.block_lt_of_cell? _ _ (hHeld.2.2.2.2.2))).trans (hHeld.2.2.2.2.2)
              refine ⟨_, rfl, ?_⟩
              have n0_ := Aside0.mk (Kd.R_below HO_1.out hb)
              have n1_ := Aside0.mk (Kd.R_below HO_2.out hb)
              have n2_ := Aside0.mk (Kd.R_below HO_7.out hb)
              have n3_ := Aside0.mk (blk_below (g := gb449) (o := .cells #[.int .i64 a0_0, .int .i64 a0_1, .slice A0_2 l0_2.length c0_2] 24 (0, 0)) BK449.out hb)
              have n4_ := Aside0.mk (below_step HB.out hb)
              clear HO_1 HO_2 HO_7 BK449 HB
              have HO_1 := n0_
              have HO_2 := n1_
              have HO_7 := n2_
              have BK449 := n3_
              have HB := n4_
              clear n0_ n1_ n2_ n3_ n4_
              ((clear hb))
              have p28 : 0 ≤ ((ji20) : Int) := of_decide_eq_true (by (with_reducible assumption))
              have q28 : ((ji20) : Int) < ((x7_2.length : Int) : Int) := of_decide_eq_true (by (with_reducible assumption))
              obtain ⟨go28, co28, eo28, gb28, gl28, cl28, HG28⟩ := Kd.R_form HO_7.out (by omega)
              ((cases eo28))
              have GB28 := Aside0.mk gb28
              have GG28 := Aside0.mk HG28
              clear gb28 gl28 HG28
              ((simp only [add_plain] at hx462_0))
              obtain ⟨hx28_0, hf28_0⟩ := Kd.R_celln 0 HO_7.out ((ji20) : Int) p28 q28
              replace p28 := eq_true p28
              replace q28 := eq_true q28
              have HP33 := Kd.R_putn HO_7.out ((ji20) : Int) t466
              rw [← Ny467.out] at HP33
              have HQ33 := Aside0.mk HP33
              clear HP33
              refine hK.out _ _ ⟨(blk_cell BK449.out 0).trans rfl, (blk_cell BK449.out 1).trans rfl, (blk_cell BK449.out 2).trans rfl, HS3_, HS4_, HS5_⟩ (fun hHeld => ?_)
              clear hK K
              refine norm_ (a' := ?_) ?_ ?_
              rotate_left
              ·show Act.put _ (some 55) _ = _
               simp only [Act.put, List.setIfInBounds_toArray, List.set_cons_zero, List.set_cons_succ, i64_w, i32_w]
               rfl
              refine pure_ (i := 22) (N := some 56) (v := ?_) (a' := ?_) #[true, true, true, true, true, true, true, true, true, true, true, true, true, true, true, true, true, true, true, true, true, true, true, false] rfl rfl (any_of HT_.out (by kernel_rfl)) (fun _ _ _ h => h) (Or.inl ⟨by rfl, ?_⟩) ?_ ?_
              rotate_left
              ·intro w'
               go_simp
               with_reducible rfl
              rotate_left
              ·simp only [Act.put, List.setIfInBounds_toArray, List.set_cons_zero, List.set_cons_succ, i64_w, i32_w]
               rfl
              refine last_ (i := 23) (N := none) #[true, true, true, true, true, true, true, true, true, true, true, true, true, true, true, true, true, true, true, true, true, true, true, true] rfl rfl (one_of HT_.out (by kernel_rfl)) (by decide) (fun K hK => ?_)
              refine skip_ (w1 := ?_) (by rfl) rfl ?_ ?_
              rotate_left
              ·go_simp
               rfl
              refine hK.out _ _ ?_
              clear hK K
              refine done_ (done_of HT_.out (by kernel_rfl)) ?_
              (go_wp2)
              go_roundg k2
              case measure => have := HK1.out; have := HK2.out; omega
              case rel => exact ⟨(y467), (wrap64 (x9_2 + 1)), (by rfl), H', ⟨by have := HK1.out; have := HK2.out; omega⟩, ⟨by exact Kd.R_mono (Kd.R_far (p := ⟨go28, ((ji20) : Int).toNat, none⟩) (Kd.R_mono HO_1.out (fun k_ hk => (⟨hk, fun e_ => hk.2 (by rw [e_]; rfl)⟩ : _ ∧ k_ ≠ go28))) (fun _ hk => hk.2) (.int .i64 t466)) (fun _ hk => ⟨hk.1.1, hk.1.2⟩)⟩, ⟨by exact Kd.R_mono (Kd.R_far (p := ⟨go28, ((ji20) : Int).toNat, none⟩) (Kd.R_mono HO_2.out (fun k_ hk => (⟨hk, fun e_ => hk.2 (by rw [e_]; rfl)⟩ : _ ∧ k_ ≠ go28))) (fun _ hk => hk.2) (.int .i64 t466)) (fun _ hk => ⟨hk.1.1, hk.1.2⟩)⟩, ⟨HQ33.out⟩, ⟨by (with_reducible repeat (fail)); refine blk_far ?_ (by have h_ := Kd.R_ne HO_7.out BK449.out (by decide); intro e_; exact h_ (by rw [e_]; rfl)) _; (with_reducible repeat (fail)); exact BK449.out⟩, ⟨by repeat ((with_reducible first | (exact HB.out) | (refine below_set ?_ GB28.out)))⟩⟩
             ·rw [if_neg c25] at H
              exact absurd H (by simp)
            ·rw [if_neg c24] at H
             exact absurd H (by simp)
           ·rw [if_neg c23] at H
            exact absurd H (by simp)
          ·rw [if_neg c22] at H
           exact absurd H (by simp)
         ·rw [if_neg c21] at H
          exact absurd H (by simp)
        ·rw [if_neg c19] at H
         have c19b0 : decide (x9_2 < (t453.length : Int)) = false := decide_eq_false c19
         clear c19
         have H' := Aside0.mk H
         clear H
         go_wp2
         go_roundg k2
         case measure => have := HK1.out; have := HK2.out; omega
         case rel => exact ⟨(x7_2), (wrap64 (x8_1 + 1)), (by rfl), H', ⟨by have := HK1.out; have := HK2.out; omega⟩, ⟨HO_1.out⟩, ⟨HO_2.out⟩, ⟨HO_7.out⟩, ⟨BK449.out⟩, ⟨by exact HB.out⟩⟩
     ·rw [if_neg c18] at H
      have c18b0 : decide (x8_1 < (t450.length : Int)) = false := decide_eq_false c18
      clear c18
      obtain ⟨t459, A340, H⟩ := Option.bind_eq_some_iff.mp H
      replace H : (some t459) = some r := H
      have A34 := Aside0.mk A340
      clear A340
      obtain rfl := Option.some.inj H
      have hcz35_0 : wr.cell? ⟨gb449, 0, none⟩ = some (.int .i64 a0_0) := (blk_cell BK449.out 0).trans rfl
      have hcz35_1 : wr.cell? ⟨gb449, 1, none⟩ = some (.int .i64 a0_1) := (blk_cell BK449.out 1).trans rfl
      have hcz35_2 : wr.cell? ⟨gb449, 2, none⟩ = some (.slice A0_2 l0_2.length c0_2) := (blk_cell BK449.out 2).trans rfl
      have hfz35_0 := blk_frozen BK449.out 0
      have hfz35_1 := blk_frozen BK449.out 1
      have hfz35_2 := blk_frozen BK449.out 2
      obtain ⟨Ao36, co36, eo36⟩ := Kd.R_slice HO_7.out
      subst eo36
      go_wp2_with (((with_reducible refine gate_callee (f := 32) rfl ?_); refine goesL_ (some 59) rfl rfl Try.func32 (by kernel_rfl) rfl #[.agg #[.int .i64 a0_0, .int .i64 a0_1, .slice A0_2 l0_2.length c0_2], .slice Ao36 x7_1.length co36] rfl (by ((simp only [List.map_toArray, List.map_cons, List.map_nil])); (rfl)) ?_; (with_reducible refine (codewrightref05_Canon.calls k1 a0_0 a0_1 _ _ l0_2 _ _ x7_1 t459 _ ?side1 ?side2 ?side3 ?side4 A34.out).mono ?_); (case side1 => repeat ((exact (Kd.C_below HR0_2.out HB.out)))); (case side2 => exact HC0_2.out); (case side3 => repeat ((exact (Kd.R_reads' HO_7.out).2.2))); (case side4 => exact (Kd.R_reads' HO_7.out).2.1); rintro e w37 ⟨v460, rfl, ho0, hb⟩; refine ⟨_, rfl, ?_⟩; have n0_ := Aside0.mk (Kd.R_elder' HO_1.out (Kd.R_base ho0) hb); have n1_ := Aside0.mk (Kd.R_elder' HO_2.out (Kd.R_base ho0) hb); have n2_ := Aside0.mk (Kd.R_elder' HO_7.out (Kd.R_base ho0) hb); have n3_ := Aside0.mk (Kd.R_lower (Kd.R_new' (Kd.R_new' (Kd.R_new' ho0 (Kd.R_lt HO_1.out)) (Kd.R_lt HO_2.out)) (Kd.R_lt HO_7.out)) (below_size HB.out)); have n4_ := Aside0.mk (blk_below (g := gb449) (o := .cells #[.int .i64 a0_0, .int .i64 a0_1, .slice A0_2 l0_2.length c0_2] 24 (0, 0)) BK449.out hb); have n5_ := Aside0.mk (below_step HB.out hb); clear HO_1; clear HO_2; clear HO_7; clear BK449; clear HB; have HO_1 := n0_; have HO_2 := n1_; have HO_7 := n2_; have HO461 := n3_; have BK449 := n4_; have HB := n5_; clear n0_ n1_ n2_ n3_ n4_ n5_; ((clear hb)); (skip); (skip); (skip); ((clear ho0))))
      go_ret
      exact ⟨_, by rfl, by exact Kd.R_mono HO461.out (fun _ hk => trivial), by exact HB.out⟩
  ·rw [if_neg c8] at H
   exact absurd H (by simp)
 ·rw [if_neg c7] at H
  exact absurd H (by simp)
def codewrightref05_Scale.l0 : Nat → Int → List Int → List Int → Int → Int → Int → List Int → Option (List Int)
 | 0, _, _, _, _, _, _, _ => none
 | k + 1, x1, x2, x7, x8, x469000, x469001, x469002 => if x8 < (x2.length : Int) then (if 0 ≤ x8 then ((codewrightref04_Mul.f k x469000 x469001 x469002 x1 (rd x2 x8)).bind fun t473 => (if x8 < (x7.length : Int) then (codewrightref05_Scale.l0 k x1 x2 (x7.set (x8 : Int).toNat t473) (wrap64 (x8 + 1)) x469000 x469001 x469002) else (none))) else (none)) else ((codewrightref05_Canon.f k x469000 x469001 x469002 x7).bind fun t475 => (some t475))
def codewrightref05_Scale.f (k : Nat) (a0_0 : Int) (a0_1 : Int) (l0_2 : List Int) (a1 : Int) (l2 : List Int) : Option (List Int) := if 0 ≤ (l2.length : Int) then (if ((l2.length : Int) : Int).toNat ≤ 35184372088832 then (codewrightref05_Scale.l0 k a1 l2 (List.replicate ((l2.length : Int) : Int).toNat 0) 0 a0_0 a0_1 l0_2) else (none)) else (none)
def codewrightref05_Scale.T5 : Bool × List (List Nat × List Nat) := (true, [([], []), ([], []), ([], []), ([], []), ([], []), ([], []), ([4, 5], [4, 5]), ([6], [6]), ([2, 3, 7], [2, 3, 7]), ([0, 1, 0, 1, 2, 3, 4, 5, 6, 7, 8], [0, 1]), ([9, 8, 8, 0, 1, 2, 3, 4, 5, 6, 7, 8], [8, 9])])
def codewrightref05_Scale.B5 : List Nat := [0, 0, 0, 0, 0, 0, 48, 112, 252, 511, 1023]
theorem codewrightref05_Scale.tab5 : rtab .any (opsOf Try.f42 5) = codewrightref05_Scale.T5 := by kernel_rfl
theorem codewrightref05_Scale.bits5 : waitsOk codewrightref05_Scale.T5.2 codewrightref05_Scale.B5 = true := by kernel_rfl
set_option maxHeartbeats 8000000 in
set_option maxRecDepth 100000 in
theorem codewrightref05_Scale.calls (k : Nat) (a0_0 : Int) (a0_1 : Int) (A0_2 : Option Addr) (c0_2 : Nat) (l0_2 : List Int) (a1 : Int) (A2 : Option Addr) (c2 : Nat) (l2 : List Int) (r : List Int) (w : World) (hr0_2 : Kd.C (Kd.int .i64) w A0_2 l0_2.length l0_2) (hc0_2 : l0_2.length ≤ c0_2) (hr2 : Kd.C (Kd.int .i64) w A2 l2.length l2) (hc2 : l2.length ≤ c2) (h : codewrightref05_Scale.f k a0_0 a0_1 l0_2 a1 l2 = some r) :
  Calls Try.prog 42 #[.agg #[.int .i64 a0_0, .int .i64 a0_1, .slice A0_2 l0_2.length c0_2], .int .i64 a1, .slice A2 l2.length c2] w fun e w' => ∃ v0_ : Value, e = .returned (v0_) ∧ Kd.R (Kd.int .i64) 3 w' w.heap.size (fun _ => True) v0_ r ∧ Below w.heap.size w w' := by
 have hu24 := Try.underlying24
 have HR0_2 := Aside0.mk hr0_2
 have HC0_2 := Aside0.mk hc0_2
 clear hr0_2 hc0_2
 have HR2 := Aside0.mk hr2
 have HC2 := Aside0.mk hc2
 clear hr2 hc2
 have HB := Aside0.mk (Below.refl w.heap.size w)
 have H : (if 0 ≤ (l2.length : Int) then (if ((l2.length : Int) : Int).toNat ≤ 35184372088832 then (codewrightref05_Scale.l0 k a1 l2 (List.replicate ((l2.length : Int) : Int).toNat 0) 0 a0_0 a0_1 l0_2) else (none)) else (none)) = some r := h
 clear h
 by_cases c4 : 0 ≤ (l2.length : Int)
 ·rw [if_pos c4] at H
  have c4b0 := eq_true c4
  have c4b1 : decide (0 ≤ (l2.length : Int)) = true := decide_eq_true c4
  clear c4
  by_cases c5 : ((l2.length : Int) : Int).toNat ≤ 35184372088832
  ·rw [if_pos c5] at H
   have c5b0 := eq_true c5
   have c5b1 : decide (((l2.length : Int) : Int).toNat ≤ 35184372088832) = true := decide_eq_true c5
   clear c5
   obtain ⟨y469, hy469⟩ : ∃ y_ : List Int, y_ = (List.replicate ((l2.length : Int) : Int).toNat 0) := ⟨_, rfl⟩
   replace H : (codewrightref05_Scale.l0 k a1 l2 y469 0 a0_0 a0_1 l0_2) = some r := by (rw [hy469]; with_reducible exact H)
   have Ny469 := Aside0.mk hy469
   clear hy469
   have H' := Aside0.mk H
   clear H
   go_enter Try.func42, Try.ntmps42
   go_wp2_with (first | ((with_reducible refine gate_dst (N := 3) rfl ?_); refine box_event ?hg (N := 3) ?hd (cs := #[.int .i64 a0_0, .int .i64 a0_1, .slice A0_2 l0_2.length c0_2]) (t := 24) ?hr ?_; (case hd => rfl); (case hg => rfl); (case hr => (go_simp; done)); intro gb468 hg w6 hbox hb; have n0_ := Aside0.mk (below_step HB.out hb); have n1_ := Aside0.mk (hbox); have n2_ := Aside0.mk ((by rw [hg]; exact (below_size HB.out) : w.heap.size ≤ gb468)); have n3_ := Aside0.mk ((by rw [hg]; exact (below_size HB.out) : w.heap.size ≤ gb468)); clear HB; have HB := n0_; have BK468 := n1_; have GW468 := n2_; have GE468 := n3_; clear n0_ n1_ n2_ n3_; clear hb hbox hg) | ((with_reducible refine gate_dst (N := 11) rfl ?_); refine Kd.R_make (Kd.int .i64) _ 3 rfl (N := 11) rfl 22 _ _ rfl (l2.length : Int) rfl rfl Try.underlying22 (.int .i64 0) 8 info3 rfl (by decide) (by omega) 0 (ok := fun _ => True) (okp := fun _ => True) rfl (fun _ hk => hk) trivial (of_decide_eq_true (by (with_reducible assumption))) (Nat.le_trans (Nat.mul_le_mul_right _ (of_decide_eq_true (by (with_reducible assumption)) : (l2.length : Int).toNat ≤ 35184372088832)) (by omega)) (Below.refl _ _) (Nat.le_refl _) ?_; intro v470 w7 ho8 hb hg_ hnew_; clear hg_ hnew_; ((rw [← Ny469.out] at ho8)); have n0_ := Aside0.mk (Kd.R_lower ho8 (below_size HB.out)); have n1_ := Aside0.mk (blk_below (g := gb468) (o := .cells #[.int .i64 a0_0, .int .i64 a0_1, .slice A0_2 l0_2.length c0_2] 24 (0, 0)) BK468.out hb); have n2_ := Aside0.mk (below_step HB.out hb); clear BK468; clear HB; have HO471 := n0_; have BK468 := n1_; have HB := n2_; clear n0_ n1_ n2_; clear hb ho8))
   go_loopg [8] k (fun kq v8 w' => ∃ (x7_1 : List Int) (x8_1 : Int), v8 = .int .i64 x8_1 ∧ Aside0 (codewrightref05_Scale.l0 kq a1 l2 x7_1 x8_1 a0_0 a0_1 l0_2 = some r) ∧ Aside0 (kq ≤ k) ∧ Aside0 (Kd.R (Kd.int .i64) 3 w' w.heap.size (fun _ => True) v470 x7_1) ∧ Aside0 (w'.heap[gb468]? = some (.cells #[.int .i64 a0_0, .int .i64 a0_1, (.slice A0_2 l0_2.length c0_2)] 24 (0, 0))) ∧ Aside0 (Below w.heap.size w w'))
   case atStart => exact ⟨(y469), (0), (by rfl), H', ⟨Nat.le_refl _⟩, ⟨HO471.out⟩, ⟨BK468.out⟩, ⟨by exact HB.out⟩⟩
   case round =>
    clear H' c4b0 c4b1 c5b0 c5b1
    obtain ⟨x7_1, x8_1, rfl, HA, HK1, HO_7, BK468, HB⟩ := hrel
    cases gk with
    | zero => exact absurd HA.out (by simp [codewrightref05_Scale.l0])
    | succ k1 =>
     have H := HA.out
     clear HA
     simp only [codewrightref05_Scale.l0] at H
     by_cases c9 : x8_1 < (l2.length : Int)
     ·rw [if_pos c9] at H
      have c9b0 : decide (x8_1 < (l2.length : Int)) = true := decide_eq_true c9
      clear c9
      by_cases c10 : 0 ≤ x8_1
      ·rw [if_pos c10] at H
       have c10b0 : decide (0 ≤ x8_1) = true := decide_eq_true c10
       clear c10
       obtain ⟨t473, A110, H⟩ := Option.bind_eq_some_iff.mp H
       replace H : (if x8_1 < (x7_1.length : Int) then (codewrightref05_Scale.l0 k1 a1 l2 (x7_1.set (x8_1 : Int).toNat t473) (wrap64 (x8_1 + 1)) a0_0 a0_1 l0_2) else (none)) = some r := H
       have A11 := Aside0.mk A110
       clear A110
       by_cases c12 : x8_1 < (x7_1.length : Int)
       ·rw [if_pos c12] at H
        have c12b0 : decide (x8_1 < (x7_1.length : Int)) = true := decide_eq_true c12
        clear c12
        obtain ⟨y474, hy474⟩ : ∃ y_ : List Int, y_ = (x7_1.set (x8_1 : Int).toNat t473) := ⟨_, rfl⟩
        replace H : (codewrightref05_Scale.l0 k1 a1 l2 y474 (wrap64 (x8_1 + 1)) a0_0 a0_1 l0_2) = some r := by (rw [hy474]; with_reducible exact H)
        have Ny474 := Aside0.mk hy474
        clear hy474
        have H' := Aside0.mk H
        clear H
        (go_wp2)
        have n0_ := Aside0.mk (Kd.R_drew HO_7.out)
        have n1_ := Aside0.mk (blk_drew BK468.out)
        have n2_ := Aside0.mk (below_drew1 HB.out)
        clear HO_7 BK468 HB
        have HO_7 := n0_
        have BK468 := n1_
        have HB := n2_
        clear n0_ n1_ n2_
        have p472 : 0 ≤ (x8_1 : Int) := of_decide_eq_true (by (with_reducible assumption))
        have q472 : x8_1 < (l2.length : Int) := of_decide_eq_true (by (with_reducible assumption))
        obtain ⟨ad472, e472, hx472_0⟩ := Kd.at_int HR2.out x8_1 p472 q472
        have hw472_0 := hx472_0
        cases e472
        replace hx472_0 := (HB.out.cell (World.block_lt_of_cell? w _ hx472_0)).trans hx472_0
        replace p472 := eq_true p472
        replace q472 := eq_true q472
        refine start_ (n := 11) (S := fun w' => w'.cell? ⟨gb468, 0, none⟩ = some (.int .i64 a0_0) ∧ w'.cell? ⟨gb468, 1, none⟩ = some (.int .i64 a0_1) ∧ w'.cell? ⟨gb468, 2, none⟩ = some (.slice A0_2 l0_2.length c0_2) ∧ w'.cell? (ad472.add (x8_1).toNat) = some (.int .i64 (rd l2 x8_1))) (ds := [10]) #[false, false, false, false, false, false, false, false, false, false, false] (by kernel_rfl) rfl rfl ⟨(blk_cell BK468.out 0).trans rfl, (blk_cell BK468.out 1).trans rfl, (blk_cell BK468.out 2).trans rfl, ((HB.out.cell (World.block_lt_of_cell? w _ hw472_0)).trans hw472_0)⟩ (fun hHeld => ?_); refine with_tabW codewrightref05_Scale.tab5 codewrightref05_Scale.bits5 (fun HT_ HW_ => ?_)
        generalize wr.drew = w14 at HO_7 BK468 HB hx472_0 hHeld ⊢
        refine pure_ (i := 0) (N := some 18) (v := ?_) (a' := ?_) #[true, false, false, false, false, false, false, false, false, false, false] rfl rfl (any_of HT_.out (by kernel_rfl)) (fun _ _ _ h => h) (Or.inl ⟨by rfl, ?_⟩) ?_ ?_
        rotate_left
        ·intro w'
         go_simp
         with_reducible rfl
        rotate_left
        ·simp only [Act.put, List.setIfInBounds_toArray, List.set_cons_zero, List.set_cons_succ, i64_w, i32_w]
         rfl
        refine pure_ (i := 1) (N := some 19) (v := ?_) (a' := ?_) #[true, true, false, false, false, false, false, false, false, false, false] rfl rfl (any_of HT_.out (by kernel_rfl)) (fun _ _ _ h => h) (Or.inl ⟨by rfl, ?_⟩) ?_ ?_
        rotate_left
        ·intro w'
         go_simp
         with_reducible rfl
        rotate_left
        ·simp only [Act.put, List.setIfInBounds_toArray, List.set_cons_zero, List.set_cons_succ, i64_w, i32_w]
         rfl
        refine pure_ (i := 3) (N := some 21) (v := ?_) (a' := ?_) #[true, true, false, true, false, false, false, false, false, false, false] rfl rfl (any_of HT_.out (by kernel_rfl)) (fun _ _ _ h => h) (Or.inl ⟨by rfl, ?_⟩) ?_ ?_
        rotate_left
        ·intro w'
         go_simp
         with_reducible rfl
        rotate_left
        ·simp only [Act.put, List.setIfInBounds_toArray, List.set_cons_zero, List.set_cons_succ, i64_w, i32_w]
         rfl
        refine pure_ (i := 4) (N := some 22) (v := ?_) (a' := ?_) #[true, true, false, true, true, false, false, false, false, false, false] rfl rfl (any_of HT_.out (by kernel_rfl)) (fun _ _ _ h => h) (Or.inl ⟨by rfl, ?_⟩) ?_ ?_
        rotate_left
        ·intro w'
         go_simp
         with_reducible rfl
        rotate_left
        ·simp only [Act.put, List.setIfInBounds_toArray, List.set_cons_zero, List.set_cons_succ, i64_w, i32_w]
         rfl
        refine pure_ (i := 5) (N := some 23) (v := ?_) (a' := ?_) #[true, true, false, true, true, true, false, false, false, false, false] rfl rfl (any_of HT_.out (by kernel_rfl)) (fun _ _ _ h => h) (Or.inl ⟨by rfl, ?_⟩) ?_ ?_
        rotate_left
        ·intro w'
         go_simp
         with_reducible rfl
        rotate_left
        ·simp only [Act.put, List.setIfInBounds_toArray, List.set_cons_zero, List.set_cons_succ, i64_w, i32_w]
         rfl
        refine pure_ (i := 6) (N := some 24) (v := ?_) (a' := ?_) #[true, true, false, true, true, true, true, false, false, false, false] rfl rfl (any_of HT_.out (by kernel_rfl)) (fun _ _ _ h => h) (Or.inl ⟨by rfl, ?_⟩) ?_ ?_
        rotate_left
        ·intro w'
         go_simp
         with_reducible rfl
        rotate_left
        ·simp only [Act.put, List.setIfInBounds_toArray, List.set_cons_zero, List.set_cons_succ, i64_w, i32_w]
         rfl
        refine take_ (i := 2) (N := some 20) (v := ?_) (a' := ?_) #[true, true, true, true, true, true, true, false, false, false, false] rfl rfl (take_ofW HT_.out HW_.out (by kernel_rfl)) (fun _ _ _ h => h) (Or.inl ⟨by rfl, ?_⟩) hHeld ?_ ?_
        rotate_left
        ·rintro w' ⟨s0, s1, s2, s3⟩
         go_simp
         with_reducible rfl
        rotate_left
        ·simp only [Act.put, List.setIfInBounds_toArray, List.set_cons_zero, List.set_cons_succ, i64_w, i32_w]
         rfl
        refine take_ (i := 7) (N := some 25) (v := ?_) (a' := ?_) #[true, true, true, true, true, true, true, true, false, false, false] rfl rfl (take_ofW HT_.out HW_.out (by kernel_rfl)) (fun _ _ _ h => h) (Or.inl ⟨by rfl, ?_⟩) hHeld ?_ ?_
        rotate_left
        ·rintro w' ⟨s0, s1, s2, s3⟩
         go_simp
         with_reducible rfl
        rotate_left
        ·simp only [Act.put, List.setIfInBounds_toArray, List.set_cons_zero, List.set_cons_succ, i64_w, i32_w]
         rfl
        refine one_ (i := 8) (N := some 26) #[true, true, true, true, true, true, true, true, true, false, false] rfl rfl (one_of HT_.out (by kernel_rfl)) (by decide) (fun K hK => ?_)
        refine goes_ Try.func44 (by kernel_rfl) rfl #[.agg #[.int .i64 a0_0, .int .i64 a0_1, .slice A0_2 l0_2.length c0_2], .int .i64 a1, .int .i64 (rd l2 x8_1)] (by rfl) rfl rfl (by ((simp only [List.map_toArray, List.map_cons, List.map_nil])); (rfl)) ?_
        with_reducible refine (codewrightref04_Mul.calls k1 a0_0 a0_1 _ _ l0_2 a1 (rd l2 x8_1) t473 _ ?side1 ?side2 A11.out).mono ?_
        (case side1 => repeat ((exact (Kd.C_below HR0_2.out HB.out))))
        (case side2 => exact HC0_2.out)
        rintro e w15 ⟨rfl, hb⟩
        refine ⟨_, rfl, ?_⟩
        have n0_ := Aside0.mk (Kd.R_below HO_7.out hb)
        have n1_ := Aside0.mk (blk_below (g := gb468) (o := .cells #[.int .i64 a0_0, .int .i64 a0_1, .slice A0_2 l0_2.length c0_2] 24 (0, 0)) BK468.out hb)
        have n2_ := Aside0.mk (below_step HB.out hb)
        clear HO_7 BK468 HB
        have HO_7 := n0_
        have BK468 := n1_
        have HB := n2_
        clear n0_ n1_ n2_
        ((clear hb))
        have p13 : 0 ≤ (x8_1 : Int) := of_decide_eq_true (by (with_reducible assumption))
        have q13 : (x8_1 : Int) < ((x7_1.length : Int) : Int) := of_decide_eq_true (by (with_reducible assumption))
        obtain ⟨go13, co13, eo13, gb13, gl13, cl13, HG13⟩ := Kd.R_form HO_7.out (by omega)
        ((cases eo13))
        have GB13 := Aside0.mk gb13
        have GG13 := Aside0.mk HG13
        clear gb13 gl13 HG13
        obtain ⟨hx13_0, hf13_0⟩ := Kd.R_celln 0 HO_7.out (x8_1 : Int) p13 q13
        replace p13 := eq_true p13
        replace q13 := eq_true q13
        have HP16 := Kd.R_putn HO_7.out (x8_1 : Int) t473
        rw [← Ny474.out] at HP16
        have HQ16 := Aside0.mk HP16
        clear HP16
        refine hK.out _ _ ⟨(blk_cell BK468.out 0).trans rfl, (blk_cell BK468.out 1).trans rfl, (blk_cell BK468.out 2).trans rfl, ((HB.out.cell (World.block_lt_of_cell? w _ hw472_0)).trans hw472_0)⟩ (fun hHeld => ?_)
        clear hK K
        refine norm_ (a' := ?_) ?_ ?_
        rotate_left
        ·show Act.put _ (some 26) _ = _
         simp only [Act.put, List.setIfInBounds_toArray, List.set_cons_zero, List.set_cons_succ, i64_w, i32_w]
         rfl
        refine pure_ (i := 9) (N := some 27) (v := ?_) (a' := ?_) #[true, true, true, true, true, true, true, true, true, true, false] rfl rfl (any_of HT_.out (by kernel_rfl)) (fun _ _ _ h => h) (Or.inl ⟨by rfl, ?_⟩) ?_ ?_
        rotate_left
        ·intro w'
         go_simp
         with_reducible rfl
        rotate_left
        ·simp only [Act.put, List.setIfInBounds_toArray, List.set_cons_zero, List.set_cons_succ, i64_w, i32_w]
         rfl
        refine last_ (i := 10) (N := none) #[true, true, true, true, true, true, true, true, true, true, true] rfl rfl (one_of HT_.out (by kernel_rfl)) (by decide) (fun K hK => ?_)
        refine skip_ (w1 := ?_) (by rfl) rfl ?_ ?_
        rotate_left
        ·go_simp
         rfl
        refine hK.out _ _ ?_
        clear hK K
        refine done_ (done_of HT_.out (by kernel_rfl)) ?_
        (go_wp2)
        go_roundg k1
        case measure => have := HK1.out; omega
        case rel => exact ⟨(y474), (wrap64 (x8_1 + 1)), (by rfl), H', ⟨by have := HK1.out; omega⟩, ⟨HQ16.out⟩, ⟨by (with_reducible repeat (fail)); refine blk_far ?_ (by have h_ := Kd.R_ne HO_7.out BK468.out (by decide); intro e_; exact h_ (by rw [e_]; rfl)) _; (with_reducible repeat (fail)); exact BK468.out⟩, ⟨by repeat ((with_reducible first | (exact HB.out) | (refine below_set ?_ GB13.out)))⟩⟩
       ·rw [if_neg c12] at H
        exact absurd H (by simp)
      ·rw [if_neg c10] at H
       exact absurd H (by simp)
     ·rw [if_neg c9] at H
      have c9b0 : decide (x8_1 < (l2.length : Int)) = false := decide_eq_false c9
      clear c9
      obtain ⟨t475, A170, H⟩ := Option.bind_eq_some_iff.mp H
      replace H : (some t475) = some r := H
      have A17 := Aside0.mk A170
      clear A170
      obtain rfl := Option.some.inj H
      have hcz18_0 : wr.cell? ⟨gb468, 0, none⟩ = some (.int .i64 a0_0) := (blk_cell BK468.out 0).trans rfl
      have hcz18_1 : wr.cell? ⟨gb468, 1, none⟩ = some (.int .i64 a0_1) := (blk_cell BK468.out 1).trans rfl
      have hcz18_2 : wr.cell? ⟨gb468, 2, none⟩ = some (.slice A0_2 l0_2.length c0_2) := (blk_cell BK468.out 2).trans rfl
      have hfz18_0 := blk_frozen BK468.out 0
      have hfz18_1 := blk_frozen BK468.out 1
      have hfz18_2 := blk_frozen BK468.out 2
      obtain ⟨Ao19, co19, eo19⟩ := Kd.R_slice HO_7.out
      subst eo19
      go_wp2_with (((with_reducible refine gate_callee (f := 32) rfl ?_); refine goesL_ (some 30) rfl rfl Try.func32 (by kernel_rfl) rfl #[.agg #[.int .i64 a0_0, .int .i64 a0_1, .slice A0_2 l0_2.length c0_2], .slice Ao19 x7_1.length co19] rfl (by ((simp only [List.map_toArray, List.map_cons, List.map_nil])); (rfl)) ?_; (with_reducible refine (codewrightref05_Canon.calls k1 a0_0 a0_1 _ _ l0_2 _ _ x7_1 t475 _ ?side1 ?side2 ?side3 ?side4 A17.out).mono ?_); (case side1 => repeat ((exact (Kd.C_below HR0_2.out HB.out)))); (case side2 => exact HC0_2.out); (case side3 => repeat ((exact (Kd.R_reads' HO_7.out).2.2))); (case side4 => exact (Kd.R_reads' HO_7.out).2.1); rintro e w20 ⟨v476, rfl, ho0, hb⟩; refine ⟨_, rfl, ?_⟩; have n0_ := Aside0.mk (Kd.R_elder' HO_7.out (Kd.R_base ho0) hb); have n1_ := Aside0.mk (Kd.R_lower (Kd.R_new' ho0 (Kd.R_lt HO_7.out)) (below_size HB.out)); have n2_ := Aside0.mk (blk_below (g := gb468) (o := .cells #[.int .i64 a0_0, .int .i64 a0_1, .slice A0_2 l0_2.length c0_2] 24 (0, 0)) BK468.out hb); have n3_ := Aside0.mk (below_step HB.out hb); clear HO_7; clear BK468; clear HB; have HO_7 := n0_; have HO477 := n1_; have BK468 := n2_; have HB := n3_; clear n0_ n1_ n2_ n3_; ((clear hb)); (skip); (skip); (skip); ((clear ho0))))
      go_ret
      exact ⟨_, by rfl, by exact Kd.R_mono HO477.out (fun _ hk => trivial), by exact HB.out⟩
  ·rw [if_neg c5] at H
   exact absurd H (by simp)
 ·rw [if_neg c4] at H
  exact absurd H (by simp)
end Go.Proofs.Ytiejggpmjapajaa.PA
end
section
namespace Go.Proofs.Ytiejggpmjapajaa.PA
open Go.RowKit Go.Proofs.YtiejggpmjapajaaW.PrintWords Go.Proofs.YtiejggpmjapajaaW.PrintLast Go.Proofs.YtiejggpmjapajaaW.PrintMore
attribute [local go_sem] max2_int min2_int max_two min_two max_three min_three max_four min_four
set_option linter.unusedVariables false
set_option linter.unusedSimpArgs false
def codewrightref04_Inv.l0 : Nat → Int → Int → Int → Int → List Int → Option (Int)
 | 0, _, _, _, _, _ => none
 | k + 1, x1, x5, x479000, x479001, x479002 => (codewrightref04_Order.f k x479000 x479001 x479002).bind fun t479 => (if x5 < t479 then ((codewrightref04_Mul.f k x479000 x479001 x479002 x1 x5).bind fun t480 => (if t480 = 1 then (some x5) else (codewrightref04_Inv.l0 k x1 (wrap64 (x5 + 1)) x479000 x479001 x479002))) else (some 0))
def codewrightref04_Inv.f (k : Nat) (a0_0 : Int) (a0_1 : Int) (l0_2 : List Int) (a1 : Int) : Option (Int) := codewrightref04_Inv.l0 k a1 1 a0_0 a0_1 l0_2
set_option maxHeartbeats 8000000 in
set_option maxRecDepth 100000 in
theorem codewrightref04_Inv.calls (k : Nat) (a0_0 : Int) (a0_1 : Int) (A0_2 : Option Addr) (c0_2 : Nat) (l0_2 : List Int) (a1 : Int) (r : Int) (w : World) (hr0_2 : Kd.C (Kd.int .i64) w A0_2 l0_2.length l0_2) (hc0_2 : l0_2.length ≤ c0_2) (h : codewrightref04_Inv.f k a0_0 a0_1 l0_2 a1 = some r) :
  Calls Try.prog 46 #[.agg #[.int .i64 a0_0, .int .i64 a0_1, .slice A0_2 l0_2.length c0_2], .int .i64 a1] w fun e w' => e = .returned (.int .i64 r) ∧ Below w.heap.size w w' := by
 have hu24 := Try.underlying24
 have HR0_2 := Aside0.mk hr0_2
 have HC0_2 := Aside0.mk hc0_2
 clear hr0_2 hc0_2
 have HB := Aside0.mk (Below.refl w.heap.size w)
 have H : (codewrightref04_Inv.l0 k a1 1 a0_0 a0_1 l0_2) = some r := h
 clear h
 have H' := Aside0.mk H
 clear H
 go_enter Try.func46, Try.ntmps46
 go_wp2_with (((with_reducible refine gate_dst (N := 2) rfl ?_); refine box_event ?hg (N := 2) ?hd (cs := #[.int .i64 a0_0, .int .i64 a0_1, .slice A0_2 l0_2.length c0_2]) (t := 24) ?hr ?_; (case hd => rfl); (case hg => rfl); (case hr => (go_simp; done)); intro gb478 hg w3 hbox hb; have n0_ := Aside0.mk (below_step HB.out hb); have n1_ := Aside0.mk (hbox); have n2_ := Aside0.mk ((by rw [hg]; exact (below_size HB.out) : w.heap.size ≤ gb478)); have n3_ := Aside0.mk ((by rw [hg]; exact (below_size HB.out) : w.heap.size ≤ gb478)); clear HB; have HB := n0_; have BK478 := n1_; have GW478 := n2_; have GE478 := n3_; clear n0_ n1_ n2_ n3_; clear hb hbox hg))
 go_loopg [5] k (fun kq v5 w' => ∃ (x5_1 : Int), v5 = .int .i64 x5_1 ∧ Aside0 (codewrightref04_Inv.l0 kq a1 x5_1 a0_0 a0_1 l0_2 = some r) ∧ Aside0 (kq ≤ k) ∧ Aside0 (w'.heap[gb478]? = some (.cells #[.int .i64 a0_0, .int .i64 a0_1, (.slice A0_2 l0_2.length c0_2)] 24 (0, 0))) ∧ Aside0 (Below w.heap.size w w'))
 case atStart => exact ⟨(1), (by rfl), H', ⟨Nat.le_refl _⟩, ⟨BK478.out⟩, ⟨by exact HB.out⟩⟩
 case round =>
  clear H'
  obtain ⟨x5_1, rfl, HA, HK1, BK478, HB⟩ := hrel
  cases gk with
  | zero => exact absurd HA.out (by simp [codewrightref04_Inv.l0])
  | succ k1 =>
   have H := HA.out
   clear HA
   simp only [codewrightref04_Inv.l0] at H
   obtain ⟨t479, A40, H⟩ := Option.bind_eq_some_iff.mp H
   replace H : (if x5_1 < t479 then ((codewrightref04_Mul.f k1 a0_0 a0_1 l0_2 a1 x5_1).bind fun t480 => (if t480 = 1 then (some x5_1) else (codewrightref04_Inv.l0 k1 a1 (wrap64 (x5_1 + 1)) a0_0 a0_1 l0_2))) else (some 0)) = some r := H
   have A4 := Aside0.mk A40
   clear A40
   by_cases c5 : x5_1 < t479
   ·rw [if_pos c5] at H
    have c5b0 : decide (x5_1 < t479) = true := decide_eq_true c5
    clear c5
    obtain ⟨t480, A60, H⟩ := Option.bind_eq_some_iff.mp H
    replace H : (if t480 = 1 then (some x5_1) else (codewrightref04_Inv.l0 k1 a1 (wrap64 (x5_1 + 1)) a0_0 a0_1 l0_2)) = some r := H
    have A6 := Aside0.mk A60
    clear A60
    by_cases c7 : t480 = 1
    ·rw [if_pos c7] at H
     have c7b0 : (t480 == 1) = true := beq_iff_eq.mpr c7
     have c7b1 : (t480 != 1) = false := bne_eq_false_iff_eq.mpr c7
     clear c7
     obtain rfl := Option.some.inj H
     have hcz8_0 : wr.cell? ⟨gb478, 0, none⟩ = some (.int .i64 a0_0) := (blk_cell BK478.out 0).trans rfl
     have hcz8_1 : wr.cell? ⟨gb478, 1, none⟩ = some (.int .i64 a0_1) := (blk_cell BK478.out 1).trans rfl
     have hcz8_2 : wr.cell? ⟨gb478, 2, none⟩ = some (.slice A0_2 l0_2.length c0_2) := (blk_cell BK478.out 2).trans rfl
     have hfz8_0 := blk_frozen BK478.out 0
     have hfz8_1 := blk_frozen BK478.out 1
     have hfz8_2 := blk_frozen BK478.out 2
     go_wp2_with (first | ((with_reducible refine gate_callee (f := 55) rfl ?_); refine goesL_ (some 8) rfl rfl Try.func55 (by kernel_rfl) rfl #[.agg #[.int .i64 a0_0, .int .i64 a0_1, .slice A0_2 l0_2.length c0_2]] rfl (by ((simp only [List.map_toArray, List.map_cons, List.map_nil])); (rfl)) ?_; (with_reducible refine (codewrightref04_Order.calls k1 a0_0 a0_1 _ _ l0_2 t479 _ ?side1 ?side2 A4.out).mono ?_); (case side1 => repeat ((exact (Kd.C_below HR0_2.out HB.out)))); (case side2 => exact HC0_2.out); rintro e w9 ⟨rfl, hb⟩; refine ⟨_, rfl, ?_⟩; have n0_ := Aside0.mk (blk_below (g := gb478) (o := .cells #[.int .i64 a0_0, .int .i64 a0_1, .slice A0_2 l0_2.length c0_2] 24 (0, 0)) BK478.out hb); have n1_ := Aside0.mk (below_step HB.out hb); clear BK478; clear HB; have BK478 := n0_; have HB := n1_; clear n0_ n1_; ((clear hb)); (skip); (skip); (skip); have hcz10_0 : w9.cell? ⟨gb478, 0, none⟩ = some (.int .i64 a0_0) := (blk_cell BK478.out 0).trans rfl; have hcz10_1 : w9.cell? ⟨gb478, 1, none⟩ = some (.int .i64 a0_1) := (blk_cell BK478.out 1).trans rfl; have hcz10_2 : w9.cell? ⟨gb478, 2, none⟩ = some (.slice A0_2 l0_2.length c0_2) := (blk_cell BK478.out 2).trans rfl; have hfz10_0 := blk_frozen BK478.out 0; have hfz10_1 := blk_frozen BK478.out 1; have hfz10_2 := blk_frozen BK478.out 2) | ((with_reducible refine gate_callee (f := 44) rfl ?_); refine goesL_ (some 15) rfl rfl Try.func44 (by kernel_rfl) rfl #[.agg #[.int .i64 a0_0, .int .i64 a0_1, .slice A0_2 l0_2.length c0_2], .int .i64 a1, .int .i64 x5_1] rfl (by ((simp only [List.map_toArray, List.map_cons, List.map_nil])); (rfl)) ?_; (with_reducible refine (codewrightref04_Mul.calls k1 a0_0 a0_1 _ _ l0_2 a1 x5_1 t480 _ ?side1 ?side2 A6.out).mono ?_); (case side1 => repeat ((exact (Kd.C_below HR0_2.out HB.out)))); (case side2 => exact HC0_2.out); rintro e w11 ⟨rfl, hb⟩; refine ⟨_, rfl, ?_⟩; have n0_ := Aside0.mk (blk_below (g := gb478) (o := .cells #[.int .i64 a0_0, .int .i64 a0_1, .slice A0_2 l0_2.length c0_2] 24 (0, 0)) BK478.out hb); have n1_ := Aside0.mk (below_step HB.out hb); clear BK478; clear HB; have BK478 := n0_; have HB := n1_; clear n0_ n1_; ((clear hb)); (skip); (skip); (skip)))
     go_ret
     exact ⟨by rfl, by exact HB.out⟩
    ·rw [if_neg c7] at H
     have c7b0 : (t480 == 1) = false := beq_eq_false_iff_ne.mpr c7
     have c7b1 : (t480 != 1) = true := bne_iff_ne.mpr c7
     have H' := Aside0.mk H
     clear H
     have hcz12_0 : wr.cell? ⟨gb478, 0, none⟩ = some (.int .i64 a0_0) := (blk_cell BK478.out 0).trans rfl
     have hcz12_1 : wr.cell? ⟨gb478, 1, none⟩ = some (.int .i64 a0_1) := (blk_cell BK478.out 1).trans rfl
     have hcz12_2 : wr.cell? ⟨gb478, 2, none⟩ = some (.slice A0_2 l0_2.length c0_2) := (blk_cell BK478.out 2).trans rfl
     have hfz12_0 := blk_frozen BK478.out 0
     have hfz12_1 := blk_frozen BK478.out 1
     have hfz12_2 := blk_frozen BK478.out 2
     go_wp2_with (first | ((with_reducible refine gate_callee (f := 55) rfl ?_); refine goesL_ (some 8) rfl rfl Try.func55 (by kernel_rfl) rfl #[.agg #[.int .i64 a0_0, .int .i64 a0_1, .slice A0_2 l0_2.length c0_2]] rfl (by ((simp only [List.map_toArray, List.map_cons, List.map_nil])); (rfl)) ?_; (with_reducible refine (codewrightref04_Order.calls k1 a0_0 a0_1 _ _ l0_2 t479 _ ?side1 ?side2 A4.out).mono ?_); (case side1 => repeat ((exact (Kd.C_below HR0_2.out HB.out)))); (case side2 => exact HC0_2.out); rintro e w13 ⟨rfl, hb⟩; refine ⟨_, rfl, ?_⟩; have n0_ := Aside0.mk (blk_below (g := gb478) (o := .cells #[.int .i64 a0_0, .int .i64 a0_1, .slice A0_2 l0_2.length c0_2] 24 (0, 0)) BK478.out hb); have n1_ := Aside0.mk (below_step HB.out hb); clear BK478; clear HB; have BK478 := n0_; have HB := n1_; clear n0_ n1_; ((clear hb)); (skip); (skip); (skip); have hcz14_0 : w13.cell? ⟨gb478, 0, none⟩ = some (.int .i64 a0_0) := (blk_cell BK478.out 0).trans rfl; have hcz14_1 : w13.cell? ⟨gb478, 1, none⟩ = some (.int .i64 a0_1) := (blk_cell BK478.out 1).trans rfl; have hcz14_2 : w13.cell? ⟨gb478, 2, none⟩ = some (.slice A0_2 l0_2.length c0_2) := (blk_cell BK478.out 2).trans rfl; have hfz14_0 := blk_frozen BK478.out 0; have hfz14_1 := blk_frozen BK478.out 1; have hfz14_2 := blk_frozen BK478.out 2) | ((with_reducible refine gate_callee (f := 44) rfl ?_); refine goesL_ (some 15) rfl rfl Try.func44 (by kernel_rfl) rfl #[.agg #[.int .i64 a0_0, .int .i64 a0_1, .slice A0_2 l0_2.length c0_2], .int .i64 a1, .int .i64 x5_1] rfl (by ((simp only [List.map_toArray, List.map_cons, List.map_nil])); (rfl)) ?_; (with_reducible refine (codewrightref04_Mul.calls k1 a0_0 a0_1 _ _ l0_2 a1 x5_1 t480 _ ?side1 ?side2 A6.out).mono ?_); (case side1 => repeat ((exact (Kd.C_below HR0_2.out HB.out)))); (case side2 => exact HC0_2.out); rintro e w15 ⟨rfl, hb⟩; refine ⟨_, rfl, ?_⟩; have n0_ := Aside0.mk (blk_below (g := gb478) (o := .cells #[.int .i64 a0_0, .int .i64 a0_1, .slice A0_2 l0_2.length c0_2] 24 (0, 0)) BK478.out hb); have n1_ := Aside0.mk (below_step HB.out hb); clear BK478; clear HB; have BK478 := n0_; have HB := n1_; clear n0_ n1_; ((clear hb)); (skip); (skip); (skip)))
     go_roundg k1
     case measure => have := HK1.out; omega
     case rel => exact ⟨(wrap64 (x5_1 + 1)), (by rfl), H', ⟨by have := HK1.out; omega⟩, ⟨BK478.out⟩, ⟨by exact HB.out⟩⟩
   ·rw [if_neg c5] at H
    have c5b0 : decide (x5_1 < t479) = false := decide_eq_false c5
    clear c5
    obtain rfl := Option.some.inj H
    have hcz16_0 : wr.cell? ⟨gb478, 0, none⟩ = some (.int .i64 a0_0) := (blk_cell BK478.out 0).trans rfl
    have hcz16_1 : wr.cell? ⟨gb478, 1, none⟩ = some (.int .i64 a0_1) := (blk_cell BK478.out 1).trans rfl
    have hcz16_2 : wr.cell? ⟨gb478, 2, none⟩ = some (.slice A0_2 l0_2.length c0_2) := (blk_cell BK478.out 2).trans rfl
    have hfz16_0 := blk_frozen BK478.out 0
    have hfz16_1 := blk_frozen BK478.out 1
    have hfz16_2 := blk_frozen BK478.out 2
    go_wp2_with (((with_reducible refine gate_callee (f := 55) rfl ?_); refine goesL_ (some 8) rfl rfl Try.func55 (by kernel_rfl) rfl #[.agg #[.int .i64 a0_0, .int .i64 a0_1, .slice A0_2 l0_2.length c0_2]] rfl (by ((simp only [List.map_toArray, List.map_cons, List.map_nil])); (rfl)) ?_; (with_reducible refine (codewrightref04_Order.calls k1 a0_0 a0_1 _ _ l0_2 t479 _ ?side1 ?side2 A4.out).mono ?_); (case side1 => repeat ((exact (Kd.C_below HR0_2.out HB.out)))); (case side2 => exact HC0_2.out); rintro e w17 ⟨rfl, hb⟩; refine ⟨_, rfl, ?_⟩; have n0_ := Aside0.mk (blk_below (g := gb478) (o := .cells #[.int .i64 a0_0, .int .i64 a0_1, .slice A0_2 l0_2.length c0_2] 24 (0, 0)) BK478.out hb); have n1_ := Aside0.mk (below_step HB.out hb); clear BK478; clear HB; have BK478 := n0_; have HB := n1_; clear n0_ n1_; ((clear hb)); (skip); (skip); (skip)))
    go_ret
    exact ⟨by rfl, by exact HB.out⟩
def codewrightref05_At.f (k : Nat) (a0_0 : Int) (a0_1 : Int) (l0_2 : List Int) (l1 : List Int) (a2 : Int) : Option (Int) := if a2 < 0 then (some 0) else (if a2 ≥ (l1.length : Int) then (some 0) else (if 0 ≤ a2 then (if a2 < (l1.length : Int) then ((codewrightref04_In.f k a0_0 a0_1 l0_2 (rd l1 a2)).bind fun t483 => (some t483)) else (none)) else (none)))
set_option maxHeartbeats 8000000 in
set_option maxRecDepth 100000 in
theorem codewrightref05_At.calls (k : Nat) (a0_0 : Int) (a0_1 : Int) (A0_2 : Option Addr) (c0_2 : Nat) (l0_2 : List Int) (A1 : Option Addr) (c1 : Nat) (l1 : List Int) (a2 : Int) (r : Int) (w : World) (hr0_2 : Kd.C (Kd.int .i64) w A0_2 l0_2.length l0_2) (hc0_2 : l0_2.length ≤ c0_2) (hr1 : Kd.C (Kd.int .i64) w A1 l1.length l1) (hc1 : l1.length ≤ c1) (h : codewrightref05_At.f k a0_0 a0_1 l0_2 l1 a2 = some r) :
  Calls Try.prog 65 #[.agg #[.int .i64 a0_0, .int .i64 a0_1, .slice A0_2 l0_2.length c0_2], .slice A1 l1.length c1, .int .i64 a2] w fun e w' => e = .returned (.int .i64 r) ∧ Below w.heap.size w w' := by
 have hu24 := Try.underlying24
 have HR0_2 := Aside0.mk hr0_2
 have HC0_2 := Aside0.mk hc0_2
 clear hr0_2 hc0_2
 have HR1 := Aside0.mk hr1
 have HC1 := Aside0.mk hc1
 clear hr1 hc1
 have HB := Aside0.mk (Below.refl w.heap.size w)
 have H : (if a2 < 0 then (some 0) else (if a2 ≥ (l1.length : Int) then (some 0) else (if 0 ≤ a2 then (if a2 < (l1.length : Int) then ((codewrightref04_In.f k a0_0 a0_1 l0_2 (rd l1 a2)).bind fun t483 => (some t483)) else (none)) else (none)))) = some r := h
 clear h
 by_cases c4 : a2 < 0
 ·rw [if_pos c4] at H
  have c4b0 : decide (a2 < 0) = true := decide_eq_true c4
  clear c4
  obtain rfl := Option.some.inj H
  go_enter Try.func65, Try.ntmps65
  go_wp2_with (((with_reducible refine gate_dst (N := 3) rfl ?_); ((refine gate_guard (by rfl) ?_; dsimp only)); refine box_event ?hg (N := 3) ?hd (cs := #[.int .i64 a0_0, .int .i64 a0_1, .slice A0_2 l0_2.length c0_2]) (t := 24) ?hr ?_; (case hd => rfl); (case hg => rfl); (case hr => (go_simp; done)); intro gb481 hg w5 hbox hb; have n0_ := Aside0.mk (below_step HB.out hb); have n1_ := Aside0.mk (hbox); have n2_ := Aside0.mk ((by rw [hg]; exact (below_size HB.out) : w.heap.size ≤ gb481)); have n3_ := Aside0.mk ((by rw [hg]; exact (below_size HB.out) : w.heap.size ≤ gb481)); clear HB; have HB := n0_; have BK481 := n1_; have GW481 := n2_; have GE481 := n3_; clear n0_ n1_ n2_ n3_; clear hb hbox hg))
  go_ret
  exact ⟨by rfl, by exact HB.out⟩
 ·rw [if_neg c4] at H
  have c4b0 : decide (a2 < 0) = false := decide_eq_false c4
  clear c4
  by_cases c6 : a2 ≥ (l1.length : Int)
  ·rw [if_pos c6] at H
   have c6b0 : decide ((l1.length : Int) ≤ a2) = true := decide_eq_true c6
   clear c6
   obtain rfl := Option.some.inj H
   go_enter Try.func65, Try.ntmps65
   go_wp2_with (((with_reducible refine gate_dst (N := 3) rfl ?_); ((refine gate_guard (by rfl) ?_; dsimp only)); refine box_event ?hg (N := 3) ?hd (cs := #[.int .i64 a0_0, .int .i64 a0_1, .slice A0_2 l0_2.length c0_2]) (t := 24) ?hr ?_; (case hd => rfl); (case hg => rfl); (case hr => (go_simp; done)); intro gb481 hg w7 hbox hb; have n0_ := Aside0.mk (below_step HB.out hb); have n1_ := Aside0.mk (hbox); have n2_ := Aside0.mk ((by rw [hg]; exact (below_size HB.out) : w.heap.size ≤ gb481)); have n3_ := Aside0.mk ((by rw [hg]; exact (below_size HB.out) : w.heap.size ≤ gb481)); clear HB; have HB := n0_; have BK481 := n1_; have GW481 := n2_; have GE481 := n3_; clear n0_ n1_ n2_ n3_; clear hb hbox hg))
   go_ret
   exact ⟨by rfl, by exact HB.out⟩
  ·rw [if_neg c6] at H
   have c6b0 : decide ((l1.length : Int) ≤ a2) = false := decide_eq_false c6
   clear c6
   by_cases c8 : 0 ≤ a2
   ·rw [if_pos c8] at H
    have c8b0 : decide (0 ≤ a2) = true := decide_eq_true c8
    clear c8
    by_cases c9 : a2 < (l1.length : Int)
    ·rw [if_pos c9] at H
     have c9b0 : decide (a2 < (l1.length : Int)) = true := decide_eq_true c9
     clear c9
     obtain ⟨t483, A100, H⟩ := Option.bind_eq_some_iff.mp H
     replace H : (some t483) = some r := H
     have A10 := Aside0.mk A100
     clear A100
     obtain rfl := Option.some.inj H
     go_enter Try.func65, Try.ntmps65
     (go_wp2_with (((with_reducible refine gate_dst (N := 3) rfl ?_); ((refine gate_guard (by rfl) ?_; dsimp only)); refine box_event ?hg (N := 3) ?hd (cs := #[.int .i64 a0_0, .int .i64 a0_1, .slice A0_2 l0_2.length c0_2]) (t := 24) ?hr ?_; (case hd => rfl); (case hg => rfl); (case hr => (go_simp; done)); intro gb481 hg w11 hbox hb; have n0_ := Aside0.mk (below_step HB.out hb); have n1_ := Aside0.mk (hbox); have n2_ := Aside0.mk ((by rw [hg]; exact (below_size HB.out) : w.heap.size ≤ gb481)); have n3_ := Aside0.mk ((by rw [hg]; exact (below_size HB.out) : w.heap.size ≤ gb481)); clear HB; have HB := n0_; have BK481 := n1_; have GW481 := n2_; have GE481 := n3_; clear n0_ n1_ n2_ n3_; clear hb hbox hg)))
     have n0_ := Aside0.mk (blk_drew BK481.out)
     have n1_ := Aside0.mk (below_drew1 HB.out)
     clear BK481 HB
     have BK481 := n0_
     have HB := n1_
     clear n0_ n1_
     have p482 : 0 ≤ (a2 : Int) := of_decide_eq_true (by (with_reducible assumption))
     have q482 : a2 < (l1.length : Int) := of_decide_eq_true (by (with_reducible assumption))
     obtain ⟨ad482, e482, hx482_0⟩ := Kd.at_int HR1.out a2 p482 q482
     have hw482_0 := hx482_0
     cases e482
     replace hx482_0 := (HB.out.cell (World.block_lt_of_cell? w _ hx482_0)).trans hx482_0
     replace p482 := eq_true p482
     replace q482 := eq_true q482
     refine start_ (n := 7) (S := fun w' => w'.cell? ⟨gb481, 0, none⟩ = some (.int .i64 a0_0) ∧ w'.cell? ⟨gb481, 1, none⟩ = some (.int .i64 a0_1) ∧ w'.cell? ⟨gb481, 2, none⟩ = some (.slice A0_2 l0_2.length c0_2) ∧ w'.cell? (ad482.add (a2).toNat) = some (.int .i64 (rd l1 a2))) (ds := []) #[false, false, false, false, false, false, false] (by kernel_rfl) rfl rfl ⟨(blk_cell BK481.out 0).trans rfl, (blk_cell BK481.out 1).trans rfl, (blk_cell BK481.out 2).trans rfl, ((HB.out.cell (World.block_lt_of_cell? w _ hw482_0)).trans hw482_0)⟩ (fun hHeld => ?_)
     generalize w11.drew = w12 at BK481 HB hx482_0 hHeld ⊢
     refine pure_ (i := 1) (N := some 16) (v := ?_) (a' := ?_) #[false, true, false, false, false, false, false] rfl rfl (by kernel_rfl) (fun _ _ _ h => h) (Or.inl ⟨by rfl, ?_⟩) ?_ ?_
     rotate_left
     ·intro w'
      go_simp
      with_reducible rfl
     rotate_left
     ·simp only [Act.put, List.setIfInBounds_toArray, List.set_cons_zero, List.set_cons_succ, i64_w, i32_w]
      rfl
     refine pure_ (i := 2) (N := some 17) (v := ?_) (a' := ?_) #[false, true, true, false, false, false, false] rfl rfl (by kernel_rfl) (fun _ _ _ h => h) (Or.inl ⟨by rfl, ?_⟩) ?_ ?_
     rotate_left
     ·intro w'
      go_simp
      with_reducible rfl
     rotate_left
     ·simp only [Act.put, List.setIfInBounds_toArray, List.set_cons_zero, List.set_cons_succ, i64_w, i32_w]
      rfl
     refine pure_ (i := 3) (N := some 18) (v := ?_) (a' := ?_) #[false, true, true, true, false, false, false] rfl rfl (by kernel_rfl) (fun _ _ _ h => h) (Or.inl ⟨by rfl, ?_⟩) ?_ ?_
     rotate_left
     ·intro w'
      go_simp
      with_reducible rfl
     rotate_left
     ·simp only [Act.put, List.setIfInBounds_toArray, List.set_cons_zero, List.set_cons_succ, i64_w, i32_w]
      rfl
     refine take_ (i := 0) (N := some 15) (v := ?_) (a' := ?_) #[true, true, true, true, false, false, false] rfl rfl (by kernel_rfl) (fun _ _ _ h => h) (Or.inl ⟨by rfl, ?_⟩) hHeld ?_ ?_
     rotate_left
     ·rintro w' ⟨s0, s1, s2, s3⟩
      go_simp
      with_reducible rfl
     rotate_left
     ·simp only [Act.put, List.setIfInBounds_toArray, List.set_cons_zero, List.set_cons_succ, i64_w, i32_w]
      rfl
     refine take_ (i := 4) (N := some 19) (v := ?_) (a' := ?_) #[true, true, true, true, true, false, false] rfl rfl (by kernel_rfl) (fun _ _ _ h => h) (Or.inl ⟨by rfl, ?_⟩) hHeld ?_ ?_
     rotate_left
     ·rintro w' ⟨s0, s1, s2, s3⟩
      go_simp
      with_reducible rfl
     rotate_left
     ·simp only [Act.put, List.setIfInBounds_toArray, List.set_cons_zero, List.set_cons_succ, i64_w, i32_w]
      rfl
     refine one_ (i := 5) (N := some 20) #[true, true, true, true, true, true, false] rfl rfl (by kernel_rfl) (by decide) (fun K hK => ?_)
     refine goes_ Try.func31 (by kernel_rfl) rfl #[.agg #[.int .i64 a0_0, .int .i64 a0_1, .slice A0_2 l0_2.length c0_2], .int .i64 (rd l1 a2)] (by rfl) rfl rfl (by ((simp only [List.map_toArray, List.map_cons, List.map_nil])); (rfl)) ?_
     with_reducible refine (codewrightref04_In.calls k a0_0 a0_1 _ _ l0_2 (rd l1 a2) t483 _ ?side1 ?side2 A10.out).mono ?_
     (case side1 => repeat ((exact (Kd.C_below HR0_2.out HB.out))))
     (case side2 => exact HC0_2.out)
     rintro e w13 ⟨rfl, hb⟩
     refine ⟨_, rfl, ?_⟩
     have n0_ := Aside0.mk (blk_below (g := gb481) (o := .cells #[.int .i64 a0_0, .int .i64 a0_1, .slice A0_2 l0_2.length c0_2] 24 (0, 0)) BK481.out hb)
     have n1_ := Aside0.mk (below_step HB.out hb)
     clear BK481 HB
     have BK481 := n0_
     have HB := n1_
     clear n0_ n1_
     ((clear hb))
     refine hK.out _ _ ⟨(blk_cell BK481.out 0).trans rfl, (blk_cell BK481.out 1).trans rfl, (blk_cell BK481.out 2).trans rfl, ((HB.out.cell (World.block_lt_of_cell? w _ hw482_0)).trans hw482_0)⟩ (fun hHeld => ?_)
     clear hK K
     refine norm_ (a' := ?_) ?_ ?_
     rotate_left
     ·show Act.put _ (some 20) _ = _
      simp only [Act.put, List.setIfInBounds_toArray, List.set_cons_zero, List.set_cons_succ, i64_w, i32_w]
      rfl
     refine pure_ (i := 6) (N := some 6) (v := ?_) (a' := ?_) #[true, true, true, true, true, true, true] rfl rfl (by kernel_rfl) (fun _ _ _ h => h) (Or.inl ⟨by rfl, ?_⟩) ?_ ?_
     rotate_left
     ·intro w'
      go_simp
      with_reducible rfl
     rotate_left
     ·simp only [Act.put, List.setIfInBounds_toArray, List.set_cons_zero, List.set_cons_succ, i64_w, i32_w]
      rfl
     refine done_ (by kernel_rfl) ?_
     (go_wp2)
     go_ret
     exact ⟨by rfl, by exact HB.out⟩
    ·rw [if_neg c9] at H
     exact absurd H (by simp)
   ·rw [if_neg c8] at H
    exact absurd H (by simp)
def codewrightref05_Add.l0 : Nat → List Int → List Int → List Int → Int → Int → Int → List Int → Option (List Int)
 | 0, _, _, _, _, _, _, _ => none
 | k + 1, x1, x2, x7, x8, x485000, x485001, x485002 => if x8 < (x7.length : Int) then ((codewrightref05_At.f k x485000 x485001 x485002 x1 x8).bind fun t488 => ((codewrightref05_At.f k x485000 x485001 x485002 x2 x8).bind fun t489 => ((codewrightref04_Add.f k x485000 x485001 x485002 t488 t489).bind fun t490 => (if 0 ≤ x8 then (codewrightref05_Add.l0 k x1 x2 (x7.set (x8 : Int).toNat t490) (wrap64 (x8 + 1)) x485000 x485001 x485002) else (none))))) else ((codewrightref05_Canon.f k x485000 x485001 x485002 x7).bind fun t492 => (some t492))
def codewrightref05_Add.f (k : Nat) (a0_0 : Int) (a0_1 : Int) (l0_2 : List Int) (l1 : List Int) (l2 : List Int) : Option (List Int) := if 0 ≤ (mx (l1.length : Int) (l2.length : Int)) then (if (mx (l1.length : Int) (l2.length : Int) : Int).toNat ≤ 35184372088832 then (codewrightref05_Add.l0 k l1 l2 (List.replicate (mx (l1.length : Int) (l2.length : Int) : Int).toNat 0) 0 a0_0 a0_1 l0_2) else (none)) else (none)
def codewrightref05_Add.T5 : Bool × List (List Nat × List Nat) := (true, [([], []), ([], []), ([], []), ([], []), ([], []), ([], []), ([3, 4, 5], [3, 4, 5]), ([], []), ([], []), ([], []), ([7, 8, 9, 6], [7, 8, 9]), ([2, 6, 10, 10], [2, 6, 10]), ([0, 1, 0, 1, 2, 3, 4, 5, 6, 7, 8, 9, 10, 11], [0, 1]), ([12, 11, 11, 0, 1, 2, 3, 4, 5, 6, 7, 8, 9, 10, 11], [11, 12])])
def codewrightref05_Add.B5 : List Nat := [0, 0, 0, 0, 0, 0, 56, 0, 0, 0, 1016, 2044, 4095, 8191]
theorem codewrightref05_Add.tab5 : rtab .any (opsOf Try.f35 5) = codewrightref05_Add.T5 := by kernel_rfl
theorem codewrightref05_Add.bits5 : waitsOk codewrightref05_Add.T5.2 codewrightref05_Add.B5 = true := by kernel_rfl
set_option maxHeartbeats 8000000 in
set_option maxRecDepth 100000 in
theorem codewrightref05_Add.calls (k : Nat) (a0_0 : Int) (a0_1 : Int) (A0_2 : Option Addr) (c0_2 : Nat) (l0_2 : List Int) (A1 : Option Addr) (c1 : Nat) (l1 : List Int) (A2 : Option Addr) (c2 : Nat) (l2 : List Int) (r : List Int) (w : World) (hr0_2 : Kd.C (Kd.int .i64) w A0_2 l0_2.length l0_2) (hc0_2 : l0_2.length ≤ c0_2) (hr1 : Kd.C (Kd.int .i64) w A1 l1.length l1) (hc1 : l1.length ≤ c1) (hr2 : Kd.C (Kd.int .i64) w A2 l2.length l2) (hc2 : l2.length ≤ c2) (h : codewrightref05_Add.f k a0_0 a0_1 l0_2 l1 l2 = some r) :
  Calls Try.prog 35 #[.agg #[.int .i64 a0_0, .int .i64 a0_1, .slice A0_2 l0_2.length c0_2], .slice A1 l1.length c1, .slice A2 l2.length c2] w fun e w' => ∃ v0_ : Value, e = .returned (v0_) ∧ Kd.R (Kd.int .i64) 3 w' w.heap.size (fun _ => True) v0_ r ∧ Below w.heap.size w w' := by
 have hu24 := Try.underlying24
 have HR0_2 := Aside0.mk hr0_2
 have HC0_2 := Aside0.mk hc0_2
 clear hr0_2 hc0_2
 have HR1 := Aside0.mk hr1
 have HC1 := Aside0.mk hc1
 clear hr1 hc1
 have HR2 := Aside0.mk hr2
 have HC2 := Aside0.mk hc2
 clear hr2 hc2
 have HB := Aside0.mk (Below.refl w.heap.size w)
 have H : (if 0 ≤ (mx (l1.length : Int) (l2.length : Int)) then (if (mx (l1.length : Int) (l2.length : Int) : Int).toNat ≤ 35184372088832 then (codewrightref05_Add.l0 k l1 l2 (List.replicate (mx (l1.length : Int) (l2.length : Int) : Int).toNat 0) 0 a0_0 a0_1 l0_2) else (none)) else (none)) = some r := h
 clear h
 obtain ⟨ji4, hji4⟩ : ∃ j_ : Int, (mx (l1.length : Int) (l2.length : Int)) = j_ := ⟨_, rfl⟩
 replace H : (if 0 ≤ (ji4) then (if (ji4 : Int).toNat ≤ 35184372088832 then (codewrightref05_Add.l0 k l1 l2 (List.replicate (ji4 : Int).toNat 0) 0 a0_0 a0_1 l0_2) else (none)) else (none)) = some r := by (rw [hji4] at H; exact H)
 ((have hji4l : 0 ≤ ji4 := by (rw [← hji4]; unfold mx; (repeat' split) <;> omega)))
 ((have hji4m : 0 ≤ ji4 := by omega))
 have hji4_ : (if (l1.length : Int) < (l2.length : Int) then (l2.length : Int) else (l1.length : Int)) = ji4 := hji4
 have hji4n : (if l1.length < l2.length then (l2.length : Int) else (l1.length : Int)) = ji4 := by rw [← hji4_]; simp only [Int.ofNat_lt]
 by_cases c5 : 0 ≤ (ji4)
 ·rw [if_pos c5] at H
  have c5b0 := eq_true c5
  have c5b1 : decide (0 ≤ (ji4)) = true := decide_eq_true c5
  clear c5
  by_cases c6 : (ji4 : Int).toNat ≤ 35184372088832
  ·rw [if_pos c6] at H
   have c6b0 := eq_true c6
   have c6b1 : decide ((ji4 : Int).toNat ≤ 35184372088832) = true := decide_eq_true c6
   clear c6
   obtain ⟨y485, hy485⟩ : ∃ y_ : List Int, y_ = (List.replicate (ji4 : Int).toNat 0) := ⟨_, rfl⟩
   replace H : (codewrightref05_Add.l0 k l1 l2 y485 0 a0_0 a0_1 l0_2) = some r := by (rw [hy485]; with_reducible exact H)
   have Ny485 := Aside0.mk hy485
   clear hy485
   have H' := Aside0.mk H
   clear H
   go_enter Try.func35, Try.ntmps35
   go_wp2_with (first | ((with_reducible refine gate_dst (N := 3) rfl ?_); refine box_event ?hg (N := 3) ?hd (cs := #[.int .i64 a0_0, .int .i64 a0_1, .slice A0_2 l0_2.length c0_2]) (t := 24) ?hr ?_; (case hd => rfl); (case hg => rfl); (case hr => (go_simp; done)); intro gb484 hg w7 hbox hb; have n0_ := Aside0.mk (below_step HB.out hb); have n1_ := Aside0.mk (hbox); have n2_ := Aside0.mk ((by rw [hg]; exact (below_size HB.out) : w.heap.size ≤ gb484)); have n3_ := Aside0.mk ((by rw [hg]; exact (below_size HB.out) : w.heap.size ≤ gb484)); clear HB; have HB := n0_; have BK484 := n1_; have GW484 := n2_; have GE484 := n3_; clear n0_ n1_ n2_ n3_; clear hb hbox hg) | ((with_reducible refine gate_dst (N := 14) rfl ?_); refine Kd.R_make (Kd.int .i64) _ 3 rfl (N := 14) rfl 22 _ _ rfl ji4 rfl rfl Try.underlying22 (.int .i64 0) 8 info3 rfl (by decide) (by omega) 0 (ok := fun _ => True) (okp := fun _ => True) rfl (fun _ hk => hk) trivial (of_decide_eq_true (by (with_reducible assumption))) (Nat.le_trans (Nat.mul_le_mul_right _ (of_decide_eq_true (by (with_reducible assumption)) : ji4.toNat ≤ 35184372088832)) (by omega)) (Below.refl _ _) (Nat.le_refl _) ?_; intro v486 w8 ho9 hb hg_ hnew_; clear hg_ hnew_; ((rw [← Ny485.out] at ho9)); have n0_ := Aside0.mk (Kd.R_lower ho9 (below_size HB.out)); have n1_ := Aside0.mk (blk_below (g := gb484) (o := .cells #[.int .i64 a0_0, .int .i64 a0_1, .slice A0_2 l0_2.length c0_2] 24 (0, 0)) BK484.out hb); have n2_ := Aside0.mk (below_step HB.out hb); clear BK484; clear HB; have HO487 := n0_; have BK484 := n1_; have HB := n2_; clear n0_ n1_ n2_; clear hb ho9))
   go_loopg [8] k (fun kq v8 w' => ∃ (x7_1 : List Int) (x8_1 : Int), v8 = .int .i64 x8_1 ∧ Aside0 (codewrightref05_Add.l0 kq l1 l2 x7_1 x8_1 a0_0 a0_1 l0_2 = some r) ∧ Aside0 (kq ≤ k) ∧ Aside0 (Kd.R (Kd.int .i64) 3 w' w.heap.size (fun _ => True) v486 x7_1) ∧ Aside0 (w'.heap[gb484]? = some (.cells #[.int .i64 a0_0, .int .i64 a0_1, (.slice A0_2 l0_2.length c0_2)] 24 (0, 0))) ∧ Aside0 (Below w.heap.size w w'))
   case atStart => exact ⟨(y485), (0), (by rfl), H', ⟨Nat.le_refl _⟩, ⟨HO487.out⟩, ⟨BK484.out⟩, ⟨by exact HB.out⟩⟩
   case round =>
    clear H' c5b0 c5b1 c6b0 c6b1
    obtain ⟨x7_1, x8_1, rfl, HA, HK1, HO_7, BK484, HB⟩ := hrel
    cases gk with
    | zero => exact absurd HA.out (by simp [codewrightref05_Add.l0])
    | succ k1 =>
     have H := HA.out
     clear HA
     simp only [codewrightref05_Add.l0] at H
     by_cases c10 : x8_1 < (x7_1.length : Int)
     ·rw [if_pos c10] at H
      have c10b0 : decide (x8_1 < (x7_1.length : Int)) = true := decide_eq_true c10
      clear c10
      obtain ⟨t488, A110, H⟩ := Option.bind_eq_some_iff.mp H
      replace H : ((codewrightref05_At.f k1 a0_0 a0_1 l0_2 l2 x8_1).bind fun t489 => ((codewrightref04_Add.f k1 a0_0 a0_1 l0_2 t488 t489).bind fun t490 => (if 0 ≤ x8_1 then (codewrightref05_Add.l0 k1 l1 l2 (x7_1.set (x8_1 : Int).toNat t490) (wrap64 (x8_1 + 1)) a0_0 a0_1 l0_2) else (none)))) = some r := H
      have A11 := Aside0.mk A110
      clear A110
      obtain ⟨t489, A120, H⟩ := Option.bind_eq_some_iff.mp H
      replace H : ((codewrightref04_Add.f k1 a0_0 a0_1 l0_2 t488 t489).bind fun t490 => (if 0 ≤ x8_1 then (codewrightref05_Add.l0 k1 l1 l2 (x7_1.set (x8_1 : Int).toNat t490) (wrap64 (x8_1 + 1)) a0_0 a0_1 l0_2) else (none))) = some r := H
      have A12 := Aside0.mk A120
      clear A120
      obtain ⟨t490, A130, H⟩ := Option.bind_eq_some_iff.mp H
      replace H : (if 0 ≤ x8_1 then (codewrightref05_Add.l0 k1 l1 l2 (x7_1.set (x8_1 : Int).toNat t490) (wrap64 (x8_1 + 1)) a0_0 a0_1 l0_2) else (none)) = some r := H
      have A13 := Aside0.mk A130
      clear A130
      by_cases c14 : 0 ≤ x8_1
      ·rw [if_pos c14] at H
       have c14b0 : decide (0 ≤ x8_1) = true := decide_eq_true c14
       clear c14
       obtain ⟨y491, hy491⟩ : ∃ y_ : List Int, y_ = (x7_1.set (x8_1 : Int).toNat t490) := ⟨_, rfl⟩
       replace H : (codewrightref05_Add.l0 k1 l1 l2 y491 (wrap64 (x8_1 + 1)) a0_0 a0_1 l0_2) = some r := by (rw [hy491]; with_reducible exact H)
       have Ny491 := Aside0.mk hy491
       clear hy491
       have H' := Aside0.mk H
       clear H
       obtain ⟨Ao16, co16, eo16⟩ := Kd.R_slice HO_7.out
       subst eo16
       (go_wp2)
       have n0_ := Aside0.mk (Kd.R_drew HO_7.out)
       have n1_ := Aside0.mk (blk_drew BK484.out)
       have n2_ := Aside0.mk (below_drew1 HB.out)
       clear HO_7 BK484 HB
       have HO_7 := n0_
       have BK484 := n1_
       have HB := n2_
       clear n0_ n1_ n2_
       refine start_ (n := 14) (S := fun w' => w'.cell? ⟨gb484, 0, none⟩ = some (.int .i64 a0_0) ∧ w'.cell? ⟨gb484, 1, none⟩ = some (.int .i64 a0_1) ∧ w'.cell? ⟨gb484, 2, none⟩ = some (.slice A0_2 l0_2.length c0_2)) (ds := [13]) #[false, false, false, false, false, false, false, false, false, false, false, false, false, false] (by kernel_rfl) rfl rfl ⟨(blk_cell BK484.out 0).trans rfl, (blk_cell BK484.out 1).trans rfl, (blk_cell BK484.out 2).trans rfl⟩ (fun hHeld => ?_); refine with_tabW codewrightref05_Add.tab5 codewrightref05_Add.bits5 (fun HT_ HW_ => ?_)
       generalize wr.drew = w17 at HO_7 BK484 HB hHeld ⊢
       refine pure_ (i := 0) (N := some 21) (v := ?_) (a' := ?_) #[true, false, false, false, false, false, false, false, false, false, false, false, false, false] rfl rfl (any_of HT_.out (by kernel_rfl)) (fun _ _ _ h => h) (Or.inl ⟨by rfl, ?_⟩) ?_ ?_
       rotate_left
       ·intro w'
        go_simp
        with_reducible rfl
       rotate_left
       ·simp only [Act.put, List.setIfInBounds_toArray, List.set_cons_zero, List.set_cons_succ, i64_w, i32_w]
        rfl
       refine pure_ (i := 1) (N := some 22) (v := ?_) (a' := ?_) #[true, true, false, false, false, false, false, false, false, false, false, false, false, false] rfl rfl (any_of HT_.out (by kernel_rfl)) (fun _ _ _ h => h) (Or.inl ⟨by rfl, ?_⟩) ?_ ?_
       rotate_left
       ·intro w'
        go_simp
        with_reducible rfl
       rotate_left
       ·simp only [Act.put, List.setIfInBounds_toArray, List.set_cons_zero, List.set_cons_succ, i64_w, i32_w]
        rfl
       refine pure_ (i := 4) (N := some 25) (v := ?_) (a' := ?_) #[true, true, false, false, true, false, false, false, false, false, false, false, false, false] rfl rfl (any_of HT_.out (by kernel_rfl)) (fun _ _ _ h => h) (Or.inl ⟨by rfl, ?_⟩) ?_ ?_
       rotate_left
       ·intro w'
        go_simp
        with_reducible rfl
       rotate_left
       ·simp only [Act.put, List.setIfInBounds_toArray, List.set_cons_zero, List.set_cons_succ, i64_w, i32_w]
        rfl
       refine pure_ (i := 5) (N := some 26) (v := ?_) (a' := ?_) #[true, true, false, false, true, true, false, false, false, false, false, false, false, false] rfl rfl (any_of HT_.out (by kernel_rfl)) (fun _ _ _ h => h) (Or.inl ⟨by rfl, ?_⟩) ?_ ?_
       rotate_left
       ·intro w'
        go_simp
        with_reducible rfl
       rotate_left
       ·simp only [Act.put, List.setIfInBounds_toArray, List.set_cons_zero, List.set_cons_succ, i64_w, i32_w]
        rfl
       refine pure_ (i := 8) (N := some 29) (v := ?_) (a' := ?_) #[true, true, false, false, true, true, false, false, true, false, false, false, false, false] rfl rfl (any_of HT_.out (by kernel_rfl)) (fun _ _ _ h => h) (Or.inl ⟨by rfl, ?_⟩) ?_ ?_
       rotate_left
       ·intro w'
        go_simp
        with_reducible rfl
       rotate_left
       ·simp only [Act.put, List.setIfInBounds_toArray, List.set_cons_zero, List.set_cons_succ, i64_w, i32_w]
        rfl
       refine pure_ (i := 9) (N := some 30) (v := ?_) (a' := ?_) #[true, true, false, false, true, true, false, false, true, true, false, false, false, false] rfl rfl (any_of HT_.out (by kernel_rfl)) (fun _ _ _ h => h) (Or.inl ⟨by rfl, ?_⟩) ?_ ?_
       rotate_left
       ·intro w'
        go_simp
        with_reducible rfl
       rotate_left
       ·simp only [Act.put, List.setIfInBounds_toArray, List.set_cons_zero, List.set_cons_succ, i64_w, i32_w]
        rfl
       refine take_ (i := 2) (N := some 23) (v := ?_) (a' := ?_) #[true, true, true, false, true, true, false, false, true, true, false, false, false, false] rfl rfl (take_ofW HT_.out HW_.out (by kernel_rfl)) (fun _ _ _ h => h) (Or.inl ⟨by rfl, ?_⟩) hHeld ?_ ?_
       rotate_left
       ·rintro w' ⟨s0, s1, s2⟩
        go_simp
        with_reducible rfl
       rotate_left
       ·simp only [Act.put, List.setIfInBounds_toArray, List.set_cons_zero, List.set_cons_succ, i64_w, i32_w]
        rfl
       refine take_ (i := 3) (N := some 24) (v := ?_) (a' := ?_) #[true, true, true, true, true, true, false, false, true, true, false, false, false, false] rfl rfl (take_ofW HT_.out HW_.out (by kernel_rfl)) (fun _ _ _ h => h) (Or.inl ⟨by rfl, ?_⟩) hHeld ?_ ?_
       rotate_left
       ·rintro w' ⟨s0, s1, s2⟩
        go_simp
        with_reducible rfl
       rotate_left
       ·simp only [Act.put, List.setIfInBounds_toArray, List.set_cons_zero, List.set_cons_succ, i64_w, i32_w]
        rfl
       refine take_ (i := 7) (N := some 28) (v := ?_) (a' := ?_) #[true, true, true, true, true, true, false, true, true, true, false, false, false, false] rfl rfl (take_ofW HT_.out HW_.out (by kernel_rfl)) (fun _ _ _ h => h) (Or.inl ⟨by rfl, ?_⟩) hHeld ?_ ?_
       rotate_left
       ·rintro w' ⟨s0, s1, s2⟩
        go_simp
        with_reducible rfl
       rotate_left
       ·simp only [Act.put, List.setIfInBounds_toArray, List.set_cons_zero, List.set_cons_succ, i64_w, i32_w]
        rfl
       refine one_ (i := 6) (N := some 27) #[true, true, true, true, true, true, true, true, true, true, false, false, false, false] rfl rfl (one_of HT_.out (by kernel_rfl)) (by decide) (fun K hK => ?_)
       refine goes_ Try.func65 (by kernel_rfl) rfl #[.agg #[.int .i64 a0_0, .int .i64 a0_1, .slice A0_2 l0_2.length c0_2], .slice A1 l1.length c1, .int .i64 x8_1] (by rfl) rfl rfl (by ((simp only [List.map_toArray, List.map_cons, List.map_nil])); (rfl)) ?_
       with_reducible refine (codewrightref05_At.calls k1 a0_0 a0_1 _ _ l0_2 _ _ l1 x8_1 t488 _ ?side1 ?side2 ?side3 ?side4 A11.out).mono ?_
       (case side1 => repeat ((exact (Kd.C_below HR0_2.out HB.out))))
       (case side2 => exact HC0_2.out)
       (case side3 => repeat ((exact (Kd.C_below HR1.out HB.out))))
       (case side4 => exact HC1.out)
       rintro e w18 ⟨rfl, hb⟩
       refine ⟨_, rfl, ?_⟩
       have n0_ := Aside0.mk (Kd.R_below HO_7.out hb)
       have n1_ := Aside0.mk (blk_below (g := gb484) (o := .cells #[.int .i64 a0_0, .int .i64 a0_1, .slice A0_2 l0_2.length c0_2] 24 (0, 0)) BK484.out hb)
       have n2_ := Aside0.mk (below_step HB.out hb)
       clear HO_7 BK484 HB
       have HO_7 := n0_
       have BK484 := n1_
       have HB := n2_
       clear n0_ n1_ n2_
       ((clear hb))
       refine hK.out _ _ ⟨(blk_cell BK484.out 0).trans rfl, (blk_cell BK484.out 1).trans rfl, (blk_cell BK484.out 2).trans rfl⟩ (fun hHeld => ?_)
       clear hK K
       refine norm_ (a' := ?_) ?_ ?_
       rotate_left
       ·show Act.put _ (some 27) _ = _
        simp only [Act.put, List.setIfInBounds_toArray, List.set_cons_zero, List.set_cons_succ, i64_w, i32_w]
        rfl
       refine one_ (i := 10) (N := some 31) #[true, true, true, true, true, true, true, true, true, true, true, false, false, false] rfl rfl (one_of HT_.out (by kernel_rfl)) (by decide) (fun K hK => ?_)
       refine goes_ Try.func65 (by kernel_rfl) rfl #[.agg #[.int .i64 a0_0, .int .i64 a0_1, .slice A0_2 l0_2.length c0_2], .slice A2 l2.length c2, .int .i64 x8_1] (by rfl) rfl rfl (by ((simp only [List.map_toArray, List.map_cons, List.map_nil])); (rfl)) ?_
       with_reducible refine (codewrightref05_At.calls k1 a0_0 a0_1 _ _ l0_2 _ _ l2 x8_1 t489 _ ?side1 ?side2 ?side3 ?side4 A12.out).mono ?_
       (case side1 => repeat ((exact (Kd.C_below HR0_2.out HB.out))))
       (case side2 => exact HC0_2.out)
       (case side3 => repeat ((exact (Kd.C_below HR2.out HB.out))))
       (case side4 => exact HC2.out)
       rintro e w19 ⟨rfl, hb⟩
       refine ⟨_, rfl, ?_⟩
       have n0_ := Aside0.mk (Kd.R_below HO_7.out hb)
       have n1_ := Aside0.mk (blk_below (g := gb484) (o := .cells #[.int .i64 a0_0, .int .i64 a0_1, .slice A0_2 l0_2.length c0_2] 24 (0, 0)) BK484.out hb)
       have n2_ := Aside0.mk (below_step HB.out hb)
       clear HO_7 BK484 HB
       have HO_7 := n0_
       have BK484 := n1_
       have HB := n2_
       clear n0_ n1_ n2_
       ((clear hb))
       refine hK.out _ _ ⟨(blk_cell BK484.out 0).trans rfl, (blk_cell BK484.out 1).trans rfl, (blk_cell BK484.out 2).trans rfl⟩ (fun hHeld => ?_)
       clear hK K
       refine norm_ (a' := ?_) ?_ ?_
       rotate_left
       ·show Act.put _ (some 31) _ = _
        simp only [Act.put, List.setIfInBounds_toArray, List.set_cons_zero, List.set_cons_succ, i64_w, i32_w]
        rfl
       refine one_ (i := 11) (N := some 32) #[true, true, true, true, true, true, true, true, true, true, true, true, false, false] rfl rfl (one_of HT_.out (by kernel_rfl)) (by decide) (fun K hK => ?_)
       refine goes_ Try.func43 (by kernel_rfl) rfl #[.agg #[.int .i64 a0_0, .int .i64 a0_1, .slice A0_2 l0_2.length c0_2], .int .i64 t488, .int .i64 t489] (by rfl) rfl rfl (by ((simp only [List.map_toArray, List.map_cons, List.map_nil])); (rfl)) ?_
       with_reducible refine (codewrightref04_Add.calls k1 a0_0 a0_1 _ _ l0_2 t488 t489 t490 _ ?side1 ?side2 A13.out).mono ?_
       (case side1 => repeat ((exact (Kd.C_below HR0_2.out HB.out))))
       (case side2 => exact HC0_2.out)
       rintro e w20 ⟨rfl, hb⟩
       refine ⟨_, rfl, ?_⟩
       have n0_ := Aside0.mk (Kd.R_below HO_7.out hb)
       have n1_ := Aside0.mk (blk_below (g := gb484) (o := .cells #[.int .i64 a0_0, .int .i64 a0_1, .slice A0_2 l0_2.length c0_2] 24 (0, 0)) BK484.out hb)
       have n2_ := Aside0.mk (below_step HB.out hb)
       clear HO_7 BK484 HB
       have HO_7 := n0_
       have BK484 := n1_
       have HB := n2_
       clear n0_ n1_ n2_
       ((clear hb))
       have p15 : 0 ≤ (x8_1 : Int) := of_decide_eq_true (by (with_reducible assumption))
       have q15 : (x8_1 : Int) < ((x7_1.length : Int) : Int) := of_decide_eq_true (by (with_reducible assumption))
       obtain ⟨go15, co15, eo15, gb15, gl15, cl15, HG15⟩ := Kd.R_form HO_7.out (by omega)
       ((cases eo15))
       have GB15 := Aside0.mk gb15
       have GG15 := Aside0.mk HG15
       clear gb15 gl15 HG15
       obtain ⟨hx15_0, hf15_0⟩ := Kd.R_celln 0 HO_7.out (x8_1 : Int) p15 q15
       replace p15 := eq_true p15
       replace q15 := eq_true q15
       have HP21 := Kd.R_putn HO_7.out (x8_1 : Int) t490
       rw [← Ny491.out] at HP21
       have HQ21 := Aside0.mk HP21
       clear HP21
       refine hK.out _ _ ⟨(blk_cell BK484.out 0).trans rfl, (blk_cell BK484.out 1).trans rfl, (blk_cell BK484.out 2).trans rfl⟩ (fun hHeld => ?_)
       clear hK K
       refine norm_ (a' := ?_) ?_ ?_
       rotate_left
       ·show Act.put _ (some 32) _ = _
        simp only [Act.put, List.setIfInBounds_toArray, List.set_cons_zero, List.set_cons_succ, i64_w, i32_w]
        rfl
       refine pure_ (i := 12) (N := some 33) (v := ?_) (a' := ?_) #[true, true, true, true, true, true, true, true, true, true, true, true, true, false] rfl rfl (any_of HT_.out (by kernel_rfl)) (fun _ _ _ h => h) (Or.inl ⟨by rfl, ?_⟩) ?_ ?_
       rotate_left
       ·intro w'
        go_simp
        with_reducible rfl
       rotate_left
       ·simp only [Act.put, List.setIfInBounds_toArray, List.set_cons_zero, List.set_cons_succ, i64_w, i32_w]
        rfl
       refine last_ (i := 13) (N := none) #[true, true, true, true, true, true, true, true, true, true, true, true, true, true] rfl rfl (one_of HT_.out (by kernel_rfl)) (by decide) (fun K hK => ?_)
       refine skip_ (w1 := ?_) (by rfl) rfl ?_ ?_
       rotate_left
       ·go_simp
        rfl
       refine hK.out _ _ ?_
       clear hK K
       refine done_ (done_of HT_.out (by kernel_rfl)) ?_
       (go_wp2)
       go_roundg k1
       case measure => have := HK1.out; omega
       case rel => exact ⟨(y491), (wrap64 (x8_1 + 1)), (by rfl), H', ⟨by have := HK1.out; omega⟩, ⟨HQ21.out⟩, ⟨by (with_reducible repeat (fail)); refine blk_far ?_ (by have h_ := Kd.R_ne HO_7.out BK484.out (by decide); intro e_; exact h_ (by rw [e_]; rfl)) _; (with_reducible repeat (fail)); exact BK484.out⟩, ⟨by repeat ((with_reducible first | (exact HB.out) | (refine below_set ?_ GB15.out)))⟩⟩
      ·rw [if_neg c14] at H
       exact absurd H (by simp)
     ·rw [if_neg c10] at H
      have c10b0 : decide (x8_1 < (x7_1.length : Int)) = false := decide_eq_false c10
      clear c10
      obtain ⟨t492, A220, H⟩ := Option.bind_eq_some_iff.mp H
      replace H : (some t492) = some r := H
      have A22 := Aside0.mk A220
      clear A220
      obtain rfl := Option.some.inj H
      obtain ⟨Ao23, co23, eo23⟩ := Kd.R_slice HO_7.out
      subst eo23
      have hcz24_0 : wr.cell? ⟨gb484, 0, none⟩ = some (.int .i64 a0_0) := (blk_cell BK484.out 0).trans rfl
      have hcz24_1 : wr.cell? ⟨gb484, 1, none⟩ = some (.int .i64 a0_1) := (blk_cell BK484.out 1).trans rfl
      have hcz24_2 : wr.cell? ⟨gb484, 2, none⟩ = some (.slice A0_2 l0_2.length c0_2) := (blk_cell BK484.out 2).trans rfl
      have hfz24_0 := blk_frozen BK484.out 0
      have hfz24_1 := blk_frozen BK484.out 1
      have hfz24_2 := blk_frozen BK484.out 2
      go_wp2_with (((with_reducible refine gate_callee (f := 32) rfl ?_); refine goesL_ (some 36) rfl rfl Try.func32 (by kernel_rfl) rfl #[.agg #[.int .i64 a0_0, .int .i64 a0_1, .slice A0_2 l0_2.length c0_2], .slice Ao23 x7_1.length co23] rfl (by ((simp only [List.map_toArray, List.map_cons, List.map_nil])); (rfl)) ?_; (with_reducible refine (codewrightref05_Canon.calls k1 a0_0 a0_1 _ _ l0_2 _ _ x7_1 t492 _ ?side1 ?side2 ?side3 ?side4 A22.out).mono ?_); (case side1 => repeat ((exact (Kd.C_below HR0_2.out HB.out)))); (case side2 => exact HC0_2.out); (case side3 => repeat ((exact (Kd.R_reads' HO_7.out).2.2))); (case side4 => exact (Kd.R_reads' HO_7.out).2.1); rintro e w25 ⟨v493, rfl, ho0, hb⟩; refine ⟨_, rfl, ?_⟩; have n0_ := Aside0.mk (Kd.R_elder' HO_7.out (Kd.R_base ho0) hb); have n1_ := Aside0.mk (Kd.R_lower (Kd.R_new' ho0 (Kd.R_lt HO_7.out)) (below_size HB.out)); have n2_ := Aside0.mk (blk_below (g := gb484) (o := .cells #[.int .i64 a0_0, .int .i64 a0_1, .slice A0_2 l0_2.length c0_2] 24 (0, 0)) BK484.out hb); have n3_ := Aside0.mk (below_step HB.out hb); clear HO_7; clear BK484; clear HB; have HO_7 := n0_; have HO494 := n1_; have BK484 := n2_; have HB := n3_; clear n0_ n1_ n2_ n3_; ((clear hb)); (skip); (skip); (skip); ((clear ho0))))
      go_ret
      exact ⟨_, by rfl, by exact Kd.R_mono HO494.out (fun _ hk => trivial), by exact HB.out⟩
  ·rw [if_neg c6] at H
   exact absurd H (by simp)
 ·rw [if_neg c5] at H
  exact absurd H (by simp)
end Go.Proofs.Ytiejggpmjapajaa.PA
end
section
namespace Go.Proofs.Ytiejggpmjapajaa.PA
open Go.RowKit Go.Proofs.YtiejggpmjapajaaW.PrintWords Go.Proofs.YtiejggpmjapajaaW.PrintLast Go.Proofs.YtiejggpmjapajaaW.PrintMore
attribute [local go_sem] max2_int min2_int max_two min_two max_three min_three max_four min_four
set_option linter.unusedVariables false
set_option linter.unusedSimpArgs false
def codewrightref04_Neg.l0 : Nat → List Int → Int → Int → Int → List Int → Option (Int)
 | 0, _, _, _, _, _ => none
 | k + 1, x5, x6, x496000, x496001, x496002 => if x6 < (x5.length : Int) then (if 0 ≤ x6 then (if x496000 = 0 then (none) else (codewrightref04_Neg.l0 k (x5.set (x6 : Int).toNat (Int.tmod (wrap64 (x496000 - (rd x5 x6))) x496000)) (wrap64 (x6 + 1)) x496000 x496001 x496002)) else (none)) else ((codewrightref04_Value.f k x496000 x496001 x496002 x5).bind fun t501 => (some t501))
def codewrightref04_Neg.f (k : Nat) (a0_0 : Int) (a0_1 : Int) (l0_2 : List Int) (a1 : Int) : Option (Int) := (codewrightref04_Digits.f k a0_0 a0_1 l0_2 a1).bind fun t496 => (codewrightref04_Neg.l0 k t496 0 a0_0 a0_1 l0_2)
def codewrightref04_Neg.T5 : Bool × List (List Nat × List Nat) := (true, [([], []), ([], []), ([], []), ([2], [2]), ([], []), ([], []), ([4, 5], [4, 5]), ([6], [6]), ([3, 7], [3, 7]), ([], []), ([9], [9]), ([8, 10], [8, 10]), ([0, 1, 0, 1, 2, 3, 4, 5, 6, 7, 8, 9, 10, 11], [0, 1]), ([12, 11, 0, 1, 2, 3, 4, 5, 6, 7, 8, 9, 10, 11], [11, 12])])
def codewrightref04_Neg.B5 : List Nat := [0, 0, 0, 4, 0, 0, 48, 112, 252, 0, 512, 2044, 4095, 8191]
theorem codewrightref04_Neg.tab5 : rtab .any (opsOf Try.f84 5) = codewrightref04_Neg.T5 := by kernel_rfl
theorem codewrightref04_Neg.bits5 : waitsOk codewrightref04_Neg.T5.2 codewrightref04_Neg.B5 = true := by kernel_rfl
set_option maxHeartbeats 8000000 in
set_option maxRecDepth 100000 in
theorem codewrightref04_Neg.calls (k : Nat) (a0_0 : Int) (a0_1 : Int) (A0_2 : Option Addr) (c0_2 : Nat) (l0_2 : List Int) (a1 : Int) (r : Int) (w : World) (hr0_2 : Kd.C (Kd.int .i64) w A0_2 l0_2.length l0_2) (hc0_2 : l0_2.length ≤ c0_2) (h : codewrightref04_Neg.f k a0_0 a0_1 l0_2 a1 = some r) :
  Calls Try.prog 84 #[.agg #[.int .i64 a0_0, .int .i64 a0_1, .slice A0_2 l0_2.length c0_2], .int .i64 a1] w fun e w' => e = .returned (.int .i64 r) ∧ Below w.heap.size w w' := by
 have hu24 := Try.underlying24
 have HR0_2 := Aside0.mk hr0_2
 have HC0_2 := Aside0.mk hc0_2
 clear hr0_2 hc0_2
 have HB := Aside0.mk (Below.refl w.heap.size w)
 have H : ((codewrightref04_Digits.f k a0_0 a0_1 l0_2 a1).bind fun t496 => (codewrightref04_Neg.l0 k t496 0 a0_0 a0_1 l0_2)) = some r := h
 clear h
 obtain ⟨t496, A30, H⟩ := Option.bind_eq_some_iff.mp H
 replace H : (codewrightref04_Neg.l0 k t496 0 a0_0 a0_1 l0_2) = some r := H
 have A3 := Aside0.mk A30
 clear A30
 have H' := Aside0.mk H
 clear H
 go_enter Try.func84, Try.ntmps84
 go_wp2_with (first | ((with_reducible refine gate_dst (N := 2) rfl ?_); refine box_event ?hg (N := 2) ?hd (cs := #[.int .i64 a0_0, .int .i64 a0_1, .slice A0_2 l0_2.length c0_2]) (t := 24) ?hr ?_; (case hd => rfl); (case hg => rfl); (case hr => (go_simp; done)); intro gb495 hg w4 hbox hb; have n0_ := Aside0.mk (below_step HB.out hb); have n1_ := Aside0.mk (hbox); have n2_ := Aside0.mk ((by rw [hg]; exact (below_size HB.out) : w.heap.size ≤ gb495)); have n3_ := Aside0.mk ((by rw [hg]; exact (below_size HB.out) : w.heap.size ≤ gb495)); clear HB; have HB := n0_; have BK495 := n1_; have GW495 := n2_; have GE495 := n3_; clear n0_ n1_ n2_ n3_; clear hb hbox hg; have hcz5_0 : w4.cell? ⟨gb495, 0, none⟩ = some (.int .i64 a0_0) := (blk_cell BK495.out 0).trans rfl; have hcz5_1 : w4.cell? ⟨gb495, 1, none⟩ = some (.int .i64 a0_1) := (blk_cell BK495.out 1).trans rfl; have hcz5_2 : w4.cell? ⟨gb495, 2, none⟩ = some (.slice A0_2 l0_2.length c0_2) := (blk_cell BK495.out 2).trans rfl; have hfz5_0 := blk_frozen BK495.out 0; have hfz5_1 := blk_frozen BK495.out 1; have hfz5_2 := blk_frozen BK495.out 2) | ((with_reducible refine gate_callee (f := 72) rfl ?_); refine goesL_ (some 9) rfl rfl Try.func72 (by kernel_rfl) rfl #[.agg #[.int .i64 a0_0, .int .i64 a0_1, .slice A0_2 l0_2.length c0_2], .int .i64 a1] rfl (by ((simp only [List.map_toArray, List.map_cons, List.map_nil])); (rfl)) ?_; (with_reducible refine (codewrightref04_Digits.calls k a0_0 a0_1 _ _ l0_2 a1 t496 _ ?side1 ?side2 A3.out).mono ?_); (case side1 => repeat ((exact (Kd.C_below HR0_2.out HB.out)))); (case side2 => exact HC0_2.out); rintro e w6 ⟨v497, rfl, ho0, hb⟩; refine ⟨_, rfl, ?_⟩; have n0_ := Aside0.mk (Kd.R_lower ho0 (below_size HB.out)); have n1_ := Aside0.mk (blk_below (g := gb495) (o := .cells #[.int .i64 a0_0, .int .i64 a0_1, .slice A0_2 l0_2.length c0_2] 24 (0, 0)) BK495.out hb); have n2_ := Aside0.mk (below_step HB.out hb); clear BK495; clear HB; have HO498 := n0_; have BK495 := n1_; have HB := n2_; clear n0_ n1_ n2_; ((clear hb)); (skip); (skip); (skip); ((clear ho0))))
 go_loopg [6] k (fun kq v6 w' => ∃ (x5_1 : List Int) (x6_1 : Int), v6 = .int .i64 x6_1 ∧ Aside0 (codewrightref04_Neg.l0 kq x5_1 x6_1 a0_0 a0_1 l0_2 = some r) ∧ Aside0 (kq ≤ k) ∧ Aside0 (Kd.R (Kd.int .i64) 3 w' w.heap.size (fun _ => True) v497 x5_1) ∧ Aside0 (w'.heap[gb495]? = some (.cells #[.int .i64 a0_0, .int .i64 a0_1, (.slice A0_2 l0_2.length c0_2)] 24 (0, 0))) ∧ Aside0 (Below w.heap.size w w'))
 case atStart => exact ⟨(t496), (0), (by rfl), H', ⟨Nat.le_refl _⟩, ⟨HO498.out⟩, ⟨BK495.out⟩, ⟨by exact HB.out⟩⟩
 case round =>
  clear H' hcz5_0 hcz5_1 hcz5_2 hfz5_0 hfz5_1 hfz5_2
  obtain ⟨x5_1, x6_1, rfl, HA, HK1, HO_5, BK495, HB⟩ := hrel
  cases gk with
  | zero => exact absurd HA.out (by simp [codewrightref04_Neg.l0])
  | succ k1 =>
   have H := HA.out
   clear HA
   simp only [codewrightref04_Neg.l0] at H
   by_cases c7 : x6_1 < (x5_1.length : Int)
   ·rw [if_pos c7] at H
    have c7b0 : decide (x6_1 < (x5_1.length : Int)) = true := decide_eq_true c7
    clear c7
    by_cases c8 : 0 ≤ x6_1
    ·rw [if_pos c8] at H
     have c8b0 : decide (0 ≤ x6_1) = true := decide_eq_true c8
     clear c8
     by_cases c9 : a0_0 = 0
     ·rw [if_pos c9] at H
      exact absurd H (by simp)
     ·rw [if_neg c9] at H
      have c9b0 : (a0_0 == 0) = false := beq_eq_false_iff_ne.mpr c9
      have c9b1 : (a0_0 != 0) = true := bne_iff_ne.mpr c9
      obtain ⟨y500, hy500⟩ : ∃ y_ : List Int, y_ = (x5_1.set (x6_1 : Int).toNat (Int.tmod (wrap64 (a0_0 - (rd x5_1 x6_1))) a0_0)) := ⟨_, rfl⟩
      replace H : (codewrightref04_Neg.l0 k1 y500 (wrap64 (x6_1 + 1)) a0_0 a0_1 l0_2) = some r := by (rw [hy500]; with_reducible exact H)
      have Ny500 := Aside0.mk hy500
      clear hy500
      have H' := Aside0.mk H
      clear H
      obtain ⟨Ao11, co11, eo11⟩ := Kd.R_slice HO_5.out
      subst eo11
      (go_wp2)
      have n0_ := Aside0.mk (Kd.R_drew HO_5.out)
      have n1_ := Aside0.mk (blk_drew BK495.out)
      have n2_ := Aside0.mk (below_drew1 HB.out)
      clear HO_5 BK495 HB
      have HO_5 := n0_
      have BK495 := n1_
      have HB := n2_
      clear n0_ n1_ n2_
      have p499 : 0 ≤ (x6_1 : Int) := of_decide_eq_true (by (with_reducible assumption))
      have q499 : x6_1 < (x5_1.length : Int) := of_decide_eq_true (by (with_reducible assumption))
      obtain ⟨ad499, e499, hx499_0⟩ := Kd.at_int (Kd.R_reads' HO_5.out).2.2 x6_1 p499 q499
      cases e499
      replace p499 := eq_true p499
      replace q499 := eq_true q499
      have p10 : 0 ≤ (x6_1 : Int) := of_decide_eq_true (by (with_reducible assumption))
      have q10 : (x6_1 : Int) < ((x5_1.length : Int) : Int) := of_decide_eq_true (by (with_reducible assumption))
      obtain ⟨go10, co10, eo10, gb10, gl10, cl10, HG10⟩ := Kd.R_form HO_5.out (by omega)
      ((cases eo10))
      have GB10 := Aside0.mk gb10
      have GG10 := Aside0.mk HG10
      clear gb10 gl10 HG10
      ((simp only [add_plain] at hx499_0))
      obtain ⟨hx10_0, hf10_0⟩ := Kd.R_celln 0 HO_5.out (x6_1 : Int) p10 q10
      replace p10 := eq_true p10
      replace q10 := eq_true q10
      have HP13 := Kd.R_putn HO_5.out (x6_1 : Int) (Int.tmod (wrap64 (a0_0 - (rd x5_1 x6_1))) a0_0)
      rw [← Ny500.out] at HP13
      have HQ13 := Aside0.mk HP13
      clear HP13
      refine start_ (n := 14) (S := fun w' => w'.cell? ⟨gb495, 0, none⟩ = some (.int .i64 a0_0) ∧ w'.cell? ⟨gb495, 1, none⟩ = some (.int .i64 a0_1) ∧ w'.cell? ⟨gb495, 2, none⟩ = some (.slice A0_2 l0_2.length c0_2) ∧ w'.cell? ⟨go10, (x6_1).toNat, none⟩ = some (.int .i64 (rd x5_1 x6_1))) (ds := [13]) #[false, false, false, false, false, false, false, false, false, false, false, false, false, false] (by kernel_rfl) rfl rfl ⟨(blk_cell BK495.out 0).trans rfl, (blk_cell BK495.out 1).trans rfl, (blk_cell BK495.out 2).trans rfl, hx499_0⟩ (fun hHeld => ?_); refine with_tabW codewrightref04_Neg.tab5 codewrightref04_Neg.bits5 (fun HT_ HW_ => ?_)
      generalize wr.drew = w12 at HO_5 BK495 HB GG10 HQ13 hf10_0 hx10_0 hx499_0 hHeld ⊢
      refine pure_ (i := 0) (N := some 16) (v := ?_) (a' := ?_) #[true, false, false, false, false, false, false, false, false, false, false, false, false, false] rfl rfl (any_of HT_.out (by kernel_rfl)) (fun _ _ _ h => h) (Or.inl ⟨by rfl, ?_⟩) ?_ ?_
      rotate_left
      ·intro w'
       go_simp
       with_reducible rfl
      rotate_left
      ·simp only [Act.put, List.setIfInBounds_toArray, List.set_cons_zero, List.set_cons_succ, i64_w, i32_w]
       rfl
      refine pure_ (i := 1) (N := some 17) (v := ?_) (a' := ?_) #[true, true, false, false, false, false, false, false, false, false, false, false, false, false] rfl rfl (any_of HT_.out (by kernel_rfl)) (fun _ _ _ h => h) (Or.inl ⟨by rfl, ?_⟩) ?_ ?_
      rotate_left
      ·intro w'
       go_simp
       with_reducible rfl
      rotate_left
      ·simp only [Act.put, List.setIfInBounds_toArray, List.set_cons_zero, List.set_cons_succ, i64_w, i32_w]
       rfl
      refine pure_ (i := 2) (N := some 18) (v := ?_) (a' := ?_) #[true, true, true, false, false, false, false, false, false, false, false, false, false, false] rfl rfl (any_of HT_.out (by kernel_rfl)) (fun _ _ _ h => h) (Or.inl ⟨by rfl, ?_⟩) ?_ ?_
      rotate_left
      ·intro w'
       go_simp
       with_reducible rfl
      rotate_left
      ·simp only [Act.put, List.setIfInBounds_toArray, List.set_cons_zero, List.set_cons_succ, i64_w, i32_w]
       rfl
      refine pure_ (i := 4) (N := some 20) (v := ?_) (a' := ?_) #[true, true, true, false, true, false, false, false, false, false, false, false, false, false] rfl rfl (any_of HT_.out (by kernel_rfl)) (fun _ _ _ h => h) (Or.inl ⟨by rfl, ?_⟩) ?_ ?_
      rotate_left
      ·intro w'
       go_simp
       with_reducible rfl
      rotate_left
      ·simp only [Act.put, List.setIfInBounds_toArray, List.set_cons_zero, List.set_cons_succ, i64_w, i32_w]
       rfl
      refine pure_ (i := 5) (N := some 21) (v := ?_) (a' := ?_) #[true, true, true, false, true, true, false, false, false, false, false, false, false, false] rfl rfl (any_of HT_.out (by kernel_rfl)) (fun _ _ _ h => h) (Or.inl ⟨by rfl, ?_⟩) ?_ ?_
      rotate_left
      ·intro w'
       go_simp
       with_reducible rfl
      rotate_left
      ·simp only [Act.put, List.setIfInBounds_toArray, List.set_cons_zero, List.set_cons_succ, i64_w, i32_w]
       rfl
      refine pure_ (i := 6) (N := some 22) (v := ?_) (a' := ?_) #[true, true, true, false, true, true, true, false, false, false, false, false, false, false] rfl rfl (any_of HT_.out (by kernel_rfl)) (fun _ _ _ h => h) (Or.inl ⟨by rfl, ?_⟩) ?_ ?_
      rotate_left
      ·intro w'
       go_simp
       with_reducible rfl
      rotate_left
      ·simp only [Act.put, List.setIfInBounds_toArray, List.set_cons_zero, List.set_cons_succ, i64_w, i32_w]
       rfl
      refine pure_ (i := 9) (N := some 25) (v := ?_) (a' := ?_) #[true, true, true, false, true, true, true, false, false, true, false, false, false, false] rfl rfl (any_of HT_.out (by kernel_rfl)) (fun _ _ _ h => h) (Or.inl ⟨by rfl, ?_⟩) ?_ ?_
      rotate_left
      ·intro w'
       go_simp
       with_reducible rfl
      rotate_left
      ·simp only [Act.put, List.setIfInBounds_toArray, List.set_cons_zero, List.set_cons_succ, i64_w, i32_w]
       rfl
      refine take_ (i := 3) (N := some 19) (v := ?_) (a' := ?_) #[true, true, true, true, true, true, true, false, false, true, false, false, false, false] rfl rfl (take_ofW HT_.out HW_.out (by kernel_rfl)) (fun _ _ _ h => h) (Or.inl ⟨by rfl, ?_⟩) hHeld ?_ ?_
      rotate_left
      ·rintro w' ⟨s0, s1, s2, s3⟩
       go_simp
       with_reducible rfl
      rotate_left
      ·simp only [Act.put, List.setIfInBounds_toArray, List.set_cons_zero, List.set_cons_succ, i64_w, i32_w]
       rfl
      refine take_ (i := 7) (N := some 23) (v := ?_) (a' := ?_) #[true, true, true, true, true, true, true, true, false, true, false, false, false, false] rfl rfl (take_ofW HT_.out HW_.out (by kernel_rfl)) (fun _ _ _ h => h) (Or.inl ⟨by rfl, ?_⟩) hHeld ?_ ?_
      rotate_left
      ·rintro w' ⟨s0, s1, s2, s3⟩
       go_simp
       with_reducible rfl
      rotate_left
      ·simp only [Act.put, List.setIfInBounds_toArray, List.set_cons_zero, List.set_cons_succ, i64_w, i32_w]
       rfl
      refine pure_ (i := 8) (N := some 24) (v := ?_) (a' := ?_) #[true, true, true, true, true, true, true, true, true, true, false, false, false, false] rfl rfl (any_of HT_.out (by kernel_rfl)) (fun _ _ _ h => h) (Or.inl ⟨by rfl, ?_⟩) ?_ ?_
      rotate_left
      ·intro w'
       go_simp
       with_reducible rfl
      rotate_left
      ·simp only [Act.put, List.setIfInBounds_toArray, List.set_cons_zero, List.set_cons_succ, i64_w, i32_w]
       rfl
      refine take_ (i := 10) (N := some 26) (v := ?_) (a' := ?_) #[true, true, true, true, true, true, true, true, true, true, true, false, false, false] rfl rfl (take_ofW HT_.out HW_.out (by kernel_rfl)) (fun _ _ _ h => h) (Or.inl ⟨by rfl, ?_⟩) hHeld ?_ ?_
      rotate_left
      ·rintro w' ⟨s0, s1, s2, s3⟩
       go_simp
       with_reducible rfl
      rotate_left
      ·simp only [Act.put, List.setIfInBounds_toArray, List.set_cons_zero, List.set_cons_succ, i64_w, i32_w]
       rfl
      refine pure_ (i := 11) (N := some 27) (v := ?_) (a' := ?_) #[true, true, true, true, true, true, true, true, true, true, true, true, false, false] rfl rfl (any_of HT_.out (by kernel_rfl)) (fun _ _ _ h => h) (Or.inl ⟨by rfl, ?_⟩) ?_ ?_
      rotate_left
      ·intro w'
       go_simp
       with_reducible rfl
      rotate_left
      ·simp only [Act.put, List.setIfInBounds_toArray, List.set_cons_zero, List.set_cons_succ, i64_w, i32_w]
       rfl
      refine pure_ (i := 12) (N := some 28) (v := ?_) (a' := ?_) #[true, true, true, true, true, true, true, true, true, true, true, true, true, false] rfl rfl (any_of HT_.out (by kernel_rfl)) (fun _ _ _ h => h) (Or.inl ⟨by rfl, ?_⟩) ?_ ?_
      rotate_left
      ·intro w'
       go_simp
       with_reducible rfl
      rotate_left
      ·simp only [Act.put, List.setIfInBounds_toArray, List.set_cons_zero, List.set_cons_succ, i64_w, i32_w]
       rfl
      refine last_ (i := 13) (N := none) #[true, true, true, true, true, true, true, true, true, true, true, true, true, true] rfl rfl (one_of HT_.out (by kernel_rfl)) (by decide) (fun K hK => ?_)
      refine skip_ (w1 := ?_) (by rfl) rfl ?_ ?_
      rotate_left
      ·go_simp
       rfl
      refine hK.out _ _ ?_
      clear hK K
      refine done_ (done_of HT_.out (by kernel_rfl)) ?_
      (go_wp2)
      go_roundg k1
      case measure => have := HK1.out; omega
      case rel => exact ⟨(y500), (wrap64 (x6_1 + 1)), (by rfl), H', ⟨by have := HK1.out; omega⟩, ⟨HQ13.out⟩, ⟨by (with_reducible repeat (fail)); refine blk_far ?_ (by have h_ := Kd.R_ne HO_5.out BK495.out (by decide); intro e_; exact h_ (by rw [e_]; rfl)) _; (with_reducible repeat (fail)); exact BK495.out⟩, ⟨by repeat ((with_reducible first | (exact HB.out) | (refine below_set ?_ GB10.out)))⟩⟩
    ·rw [if_neg c8] at H
     exact absurd H (by simp)
   ·rw [if_neg c7] at H
    have c7b0 : decide (x6_1 < (x5_1.length : Int)) = false := decide_eq_false c7
    clear c7
    obtain ⟨t501, A140, H⟩ := Option.bind_eq_some_iff.mp H
    replace H : (some t501) = some r := H
    have A14 := Aside0.mk A140
    clear A140
    obtain rfl := Option.some.inj H
    obtain ⟨Ao15, co15, eo15⟩ := Kd.R_slice HO_5.out
    subst eo15
    have hcz16_0 : wr.cell? ⟨gb495, 0, none⟩ = some (.int .i64 a0_0) := (blk_cell BK495.out 0).trans rfl
    have hcz16_1 : wr.cell? ⟨gb495, 1, none⟩ = some (.int .i64 a0_1) := (blk_cell BK495.out 1).trans rfl
    have hcz16_2 : wr.cell? ⟨gb495, 2, none⟩ = some (.slice A0_2 l0_2.length c0_2) := (blk_cell BK495.out 2).trans rfl
    have hfz16_0 := blk_frozen BK495.out 0
    have hfz16_1 := blk_frozen BK495.out 1
    have hfz16_2 := blk_frozen BK495.out 2
    go_wp2_with (((with_reducible refine gate_callee (f := 73) rfl ?_); refine goesL_ (some 31) rfl rfl Try.func73 (by kernel_rfl) rfl #[.agg #[.int .i64 a0_0, .int .i64 a0_1, .slice A0_2 l0_2.length c0_2], .slice Ao15 x5_1.length co15] rfl (by ((simp only [List.map_toArray, List.map_cons, List.map_nil])); (rfl)) ?_; (with_reducible refine (codewrightref04_Value.calls k1 a0_0 a0_1 _ _ l0_2 _ _ x5_1 t501 _ ?side1 ?side2 ?side3 ?side4 A14.out).mono ?_); (case side1 => repeat ((exact (Kd.C_below HR0_2.out HB.out)))); (case side2 => exact HC0_2.out); (case side3 => repeat ((exact (Kd.R_reads' HO_5.out).2.2))); (case side4 => exact (Kd.R_reads' HO_5.out).2.1); rintro e w17 ⟨rfl, hb⟩; refine ⟨_, rfl, ?_⟩; have n0_ := Aside0.mk (Kd.R_below HO_5.out hb); have n1_ := Aside0.mk (blk_below (g := gb495) (o := .cells #[.int .i64 a0_0, .int .i64 a0_1, .slice A0_2 l0_2.length c0_2] 24 (0, 0)) BK495.out hb); have n2_ := Aside0.mk (below_step HB.out hb); clear HO_5; clear BK495; clear HB; have HO_5 := n0_; have BK495 := n1_; have HB := n2_; clear n0_ n1_ n2_; ((clear hb)); (skip); (skip); (skip)))
    go_ret
    exact ⟨by rfl, by exact HB.out⟩
def codewrightref05_Sub.f (k : Nat) (a0_0 : Int) (a0_1 : Int) (l0_2 : List Int) (l1 : List Int) (l2 : List Int) : Option (List Int) := (codewrightref04_Neg.f k a0_0 a0_1 l0_2 1).bind fun t503 => ((codewrightref05_Scale.f k a0_0 a0_1 l0_2 t503 l2).bind fun t504 => ((codewrightref05_Add.f k a0_0 a0_1 l0_2 l1 t504).bind fun t507 => (some t507)))
def codewrightref05_Sub.T1 : Bool × List (List Nat × List Nat) := (true, [([], []), ([], []), ([], []), ([], []), ([3], [3]), ([], []), ([2, 4, 5, 4], [2, 4, 5]), ([0, 1, 6, 6], [0, 1, 6]), ([7, 7, 0, 1, 2, 3, 4, 5, 6, 7], [7])])
def codewrightref05_Sub.B1 : List Nat := [0, 0, 0, 0, 8, 0, 60, 127, 255]
theorem codewrightref05_Sub.tab1 : rtab .any (opsOf Try.f75 1) = codewrightref05_Sub.T1 := by kernel_rfl
theorem codewrightref05_Sub.bits1 : waitsOk codewrightref05_Sub.T1.2 codewrightref05_Sub.B1 = true := by kernel_rfl
set_option maxHeartbeats 8000000 in
set_option maxRecDepth 100000 in
theorem codewrightref05_Sub.calls (k : Nat) (a0_0 : Int) (a0_1 : Int) (A0_2 : Option Addr) (c0_2 : Nat) (l0_2 : List Int) (A1 : Option Addr) (c1 : Nat) (l1 : List Int) (A2 : Option Addr) (c2 : Nat) (l2 : List Int) (r : List Int) (w : World) (hr0_2 : Kd.C (Kd.int .i64) w A0_2 l0_2.length l0_2) (hc0_2 : l0_2.length ≤ c0_2) (hr1 : Kd.C (Kd.int .i64) w A1 l1.length l1) (hc1 : l1.length ≤ c1) (hr2 : Kd.C (Kd.int .i64) w A2 l2.length l2) (hc2 : l2.length ≤ c2) (h : codewrightref05_Sub.f k a0_0 a0_1 l0_2 l1 l2 = some r) :
  Calls Try.prog 75 #[.agg #[.int .i64 a0_0, .int .i64 a0_1, .slice A0_2 l0_2.length c0_2], .slice A1 l1.length c1, .slice A2 l2.length c2] w fun e w' => ∃ v0_ : Value, e = .returned (v0_) ∧ Kd.R (Kd.int .i64) 3 w' w.heap.size (fun _ => True) v0_ r ∧ Below w.heap.size w w' := by
 have hu24 := Try.underlying24
 have HR0_2 := Aside0.mk hr0_2
 have HC0_2 := Aside0.mk hc0_2
 clear hr0_2 hc0_2
 have HR1 := Aside0.mk hr1
 have HC1 := Aside0.mk hc1
 clear hr1 hc1
 have HR2 := Aside0.mk hr2
 have HC2 := Aside0.mk hc2
 clear hr2 hc2
 have HB := Aside0.mk (Below.refl w.heap.size w)
 have H : ((codewrightref04_Neg.f k a0_0 a0_1 l0_2 1).bind fun t503 => ((codewrightref05_Scale.f k a0_0 a0_1 l0_2 t503 l2).bind fun t504 => ((codewrightref05_Add.f k a0_0 a0_1 l0_2 l1 t504).bind fun t507 => (some t507)))) = some r := h
 clear h
 obtain ⟨t503, A40, H⟩ := Option.bind_eq_some_iff.mp H
 replace H : ((codewrightref05_Scale.f k a0_0 a0_1 l0_2 t503 l2).bind fun t504 => ((codewrightref05_Add.f k a0_0 a0_1 l0_2 l1 t504).bind fun t507 => (some t507))) = some r := H
 have A4 := Aside0.mk A40
 clear A40
 obtain ⟨t504, A50, H⟩ := Option.bind_eq_some_iff.mp H
 replace H : ((codewrightref05_Add.f k a0_0 a0_1 l0_2 l1 t504).bind fun t507 => (some t507)) = some r := H
 have A5 := Aside0.mk A50
 clear A50
 obtain ⟨t507, A60, H⟩ := Option.bind_eq_some_iff.mp H
 replace H : (some t507) = some r := H
 have A6 := Aside0.mk A60
 clear A60
 obtain rfl := Option.some.inj H
 go_enter Try.func75, Try.ntmps75
 (go_wp2_with (((with_reducible refine gate_dst (N := 3) rfl ?_); refine box_event ?hg (N := 3) ?hd (cs := #[.int .i64 a0_0, .int .i64 a0_1, .slice A0_2 l0_2.length c0_2]) (t := 24) ?hr ?_; (case hd => rfl); (case hg => rfl); (case hr => (go_simp; done)); intro gb502 hg w7 hbox hb; have n0_ := Aside0.mk (below_step HB.out hb); have n1_ := Aside0.mk (hbox); have n2_ := Aside0.mk ((by rw [hg]; exact (below_size HB.out) : w.heap.size ≤ gb502)); have n3_ := Aside0.mk ((by rw [hg]; exact (below_size HB.out) : w.heap.size ≤ gb502)); clear HB; have HB := n0_; have BK502 := n1_; have GW502 := n2_; have GE502 := n3_; clear n0_ n1_ n2_ n3_; clear hb hbox hg)))
 have n0_ := Aside0.mk (blk_drew BK502.out)
 have n1_ := Aside0.mk (below_drew1 HB.out)
 clear BK502 HB
 have BK502 := n0_
 have HB := n1_
 clear n0_ n1_
 refine start_ (n := 9) (S := fun w' => w'.cell? ⟨gb502, 0, none⟩ = some (.int .i64 a0_0) ∧ w'.cell? ⟨gb502, 1, none⟩ = some (.int .i64 a0_1) ∧ w'.cell? ⟨gb502, 2, none⟩ = some (.slice A0_2 l0_2.length c0_2)) (ds := []) #[false, false, false, false, false, false, false, false, false] (by kernel_rfl) rfl rfl ⟨(blk_cell BK502.out 0).trans rfl, (blk_cell BK502.out 1).trans rfl, (blk_cell BK502.out 2).trans rfl⟩ (fun hHeld => ?_); refine with_tabW codewrightref05_Sub.tab1 codewrightref05_Sub.bits1 (fun HT_ HW_ => ?_)
 generalize w7.drew = w8 at BK502 HB hHeld ⊢
 refine pure_ (i := 1) (N := some 8) (v := ?_) (a' := ?_) #[false, true, false, false, false, false, false, false, false] rfl rfl (any_of HT_.out (by kernel_rfl)) (fun _ _ _ h => h) (Or.inl ⟨by rfl, ?_⟩) ?_ ?_
 rotate_left
 ·intro w'
  go_simp
  with_reducible rfl
 rotate_left
 ·simp only [Act.put, List.setIfInBounds_toArray, List.set_cons_zero, List.set_cons_succ, i64_w, i32_w]
  rfl
 refine pure_ (i := 5) (N := some 12) (v := ?_) (a' := ?_) #[false, true, false, false, false, true, false, false, false] rfl rfl (any_of HT_.out (by kernel_rfl)) (fun _ _ _ h => h) (Or.inl ⟨by rfl, ?_⟩) ?_ ?_
 rotate_left
 ·intro w'
  go_simp
  with_reducible rfl
 rotate_left
 ·simp only [Act.put, List.setIfInBounds_toArray, List.set_cons_zero, List.set_cons_succ, i64_w, i32_w]
  rfl
 refine take_ (i := 0) (N := some 7) (v := ?_) (a' := ?_) #[true, true, false, false, false, true, false, false, false] rfl rfl (take_ofW HT_.out HW_.out (by kernel_rfl)) (fun _ _ _ h => h) (Or.inl ⟨by rfl, ?_⟩) hHeld ?_ ?_
 rotate_left
 ·rintro w' ⟨s0, s1, s2⟩
  go_simp
  with_reducible rfl
 rotate_left
 ·simp only [Act.put, List.setIfInBounds_toArray, List.set_cons_zero, List.set_cons_succ, i64_w, i32_w]
  rfl
 refine take_ (i := 2) (N := some 9) (v := ?_) (a' := ?_) #[true, true, true, false, false, true, false, false, false] rfl rfl (take_ofW HT_.out HW_.out (by kernel_rfl)) (fun _ _ _ h => h) (Or.inl ⟨by rfl, ?_⟩) hHeld ?_ ?_
 rotate_left
 ·rintro w' ⟨s0, s1, s2⟩
  go_simp
  with_reducible rfl
 rotate_left
 ·simp only [Act.put, List.setIfInBounds_toArray, List.set_cons_zero, List.set_cons_succ, i64_w, i32_w]
  rfl
 refine take_ (i := 3) (N := some 10) (v := ?_) (a' := ?_) #[true, true, true, true, false, true, false, false, false] rfl rfl (take_ofW HT_.out HW_.out (by kernel_rfl)) (fun _ _ _ h => h) (Or.inl ⟨by rfl, ?_⟩) hHeld ?_ ?_
 rotate_left
 ·rintro w' ⟨s0, s1, s2⟩
  go_simp
  with_reducible rfl
 rotate_left
 ·simp only [Act.put, List.setIfInBounds_toArray, List.set_cons_zero, List.set_cons_succ, i64_w, i32_w]
  rfl
 refine one_ (i := 4) (N := some 11) #[true, true, true, true, true, true, false, false, false] rfl rfl (one_of HT_.out (by kernel_rfl)) (by decide) (fun K hK => ?_)
 refine goes_ Try.func84 (by kernel_rfl) rfl #[.agg #[.int .i64 a0_0, .int .i64 a0_1, .slice A0_2 l0_2.length c0_2], .int .i64 1] (by rfl) rfl rfl (by ((simp only [List.map_toArray, List.map_cons, List.map_nil])); (rfl)) ?_
 with_reducible refine (codewrightref04_Neg.calls k a0_0 a0_1 _ _ l0_2 1 t503 _ ?side1 ?side2 A4.out).mono ?_
 (case side1 => repeat ((exact (Kd.C_below HR0_2.out HB.out))))
 (case side2 => exact HC0_2.out)
 rintro e w9 ⟨rfl, hb⟩
 refine ⟨_, rfl, ?_⟩
 have n0_ := Aside0.mk (blk_below (g := gb502) (o := .cells #[.int .i64 a0_0, .int .i64 a0_1, .slice A0_2 l0_2.length c0_2] 24 (0, 0)) BK502.out hb)
 have n1_ := Aside0.mk (below_step HB.out hb)
 clear BK502 HB
 have BK502 := n0_
 have HB := n1_
 clear n0_ n1_
 ((clear hb))
 refine hK.out _ _ ⟨(blk_cell BK502.out 0).trans rfl, (blk_cell BK502.out 1).trans rfl, (blk_cell BK502.out 2).trans rfl⟩ (fun hHeld => ?_)
 clear hK K
 refine norm_ (a' := ?_) ?_ ?_
 rotate_left
 ·show Act.put _ (some 11) _ = _
  simp only [Act.put, List.setIfInBounds_toArray, List.set_cons_zero, List.set_cons_succ, i64_w, i32_w]
  rfl
 refine one_ (i := 6) (N := some 13) #[true, true, true, true, true, true, true, false, false] rfl rfl (one_of HT_.out (by kernel_rfl)) (by decide) (fun K hK => ?_)
 refine goes_ Try.func42 (by kernel_rfl) rfl #[.agg #[.int .i64 a0_0, .int .i64 a0_1, .slice A0_2 l0_2.length c0_2], .int .i64 t503, .slice A2 l2.length c2] (by rfl) rfl rfl (by ((simp only [List.map_toArray, List.map_cons, List.map_nil])); (rfl)) ?_
 with_reducible refine (codewrightref05_Scale.calls k a0_0 a0_1 _ _ l0_2 t503 _ _ l2 t504 _ ?side1 ?side2 ?side3 ?side4 A5.out).mono ?_
 (case side1 => repeat ((exact (Kd.C_below HR0_2.out HB.out))))
 (case side2 => exact HC0_2.out)
 (case side3 => repeat ((exact (Kd.C_below HR2.out HB.out))))
 (case side4 => exact HC2.out)
 rintro e w10 ⟨v505, rfl, ho0, hb⟩
 refine ⟨_, rfl, ?_⟩
 have n0_ := Aside0.mk (Kd.R_lower ho0 (below_size HB.out))
 have n1_ := Aside0.mk (blk_below (g := gb502) (o := .cells #[.int .i64 a0_0, .int .i64 a0_1, .slice A0_2 l0_2.length c0_2] 24 (0, 0)) BK502.out hb)
 have n2_ := Aside0.mk (below_step HB.out hb)
 clear BK502 HB
 have HO506 := n0_
 have BK502 := n1_
 have HB := n2_
 clear n0_ n1_ n2_
 ((clear hb))
 ((clear ho0))
 obtain ⟨Ao11, co11, eo11⟩ := Kd.R_slice HO506.out
 ((subst eo11))
 refine hK.out _ _ ⟨(blk_cell BK502.out 0).trans rfl, (blk_cell BK502.out 1).trans rfl, (blk_cell BK502.out 2).trans rfl⟩ (fun hHeld => ?_)
 clear hK K
 refine norm_ (a' := ?_) ?_ ?_
 rotate_left
 ·show Act.put _ (some 13) _ = _
  simp only [Act.put, List.setIfInBounds_toArray, List.set_cons_zero, List.set_cons_succ, i64_w, i32_w]
  rfl
 refine one_ (i := 7) (N := some 14) #[true, true, true, true, true, true, true, true, false] rfl rfl (one_of HT_.out (by kernel_rfl)) (by decide) (fun K hK => ?_)
 refine goes_ Try.func35 (by kernel_rfl) rfl #[.agg #[.int .i64 a0_0, .int .i64 a0_1, .slice A0_2 l0_2.length c0_2], .slice A1 l1.length c1, .slice Ao11 t504.length co11] (by rfl) rfl rfl (by ((simp only [List.map_toArray, List.map_cons, List.map_nil])); (rfl)) ?_
 with_reducible refine (codewrightref05_Add.calls k a0_0 a0_1 _ _ l0_2 _ _ l1 _ _ t504 t507 _ ?side1 ?side2 ?side3 ?side4 ?side5 ?side6 A6.out).mono ?_
 (case side1 => repeat ((exact (Kd.C_below HR0_2.out HB.out))))
 (case side2 => exact HC0_2.out)
 (case side3 => repeat ((exact (Kd.C_below HR1.out HB.out))))
 (case side4 => exact HC1.out)
 (case side5 => repeat ((exact (Kd.R_reads' HO506.out).2.2)))
 (case side6 => exact (Kd.R_reads' HO506.out).2.1)
 rintro e w12 ⟨v508, rfl, ho0, hb⟩
 refine ⟨_, rfl, ?_⟩
 have n0_ := Aside0.mk (Kd.R_elder' HO506.out (Kd.R_base ho0) hb)
 have n1_ := Aside0.mk (Kd.R_lower (Kd.R_new' ho0 (Kd.R_lt HO506.out)) (below_size HB.out))
 have n2_ := Aside0.mk (blk_below (g := gb502) (o := .cells #[.int .i64 a0_0, .int .i64 a0_1, .slice A0_2 l0_2.length c0_2] 24 (0, 0)) BK502.out hb)
 have n3_ := Aside0.mk (below_step HB.out hb)
 clear HO506 BK502 HB
 have HO506 := n0_
 have HO509 := n1_
 have BK502 := n2_
 have HB := n3_
 clear n0_ n1_ n2_ n3_
 ((clear hb))
 ((clear ho0))
 refine hK.out _ _ ⟨(blk_cell BK502.out 0).trans rfl, (blk_cell BK502.out 1).trans rfl, (blk_cell BK502.out 2).trans rfl⟩ (fun hHeld => ?_)
 clear hK K
 refine norm_ (a' := ?_) ?_ ?_
 rotate_left
 ·show Act.put _ (some 14) _ = _
  simp only [Act.put, List.setIfInBounds_toArray, List.set_cons_zero, List.set_cons_succ, i64_w, i32_w]
  rfl
 refine pure_ (i := 8) (N := some 6) (v := ?_) (a' := ?_) #[true, true, true, true, true, true, true, true, true] rfl rfl (any_of HT_.out (by kernel_rfl)) (fun _ _ _ h => h) (Or.inl ⟨by rfl, ?_⟩) ?_ ?_
 rotate_left
 ·intro w'
  go_simp
  with_reducible rfl
 rotate_left
 ·simp only [Act.put, List.setIfInBounds_toArray, List.set_cons_zero, List.set_cons_succ, i64_w, i32_w]
  rfl
 refine done_ (done_of HT_.out (by kernel_rfl)) ?_
 (go_wp2)
 go_ret
 exact ⟨_, by rfl, by exact Kd.R_mono HO509.out (fun _ hk => trivial), by exact HB.out⟩
def codewrightref05_Power.f (a0 : Int) : Option (List Int) := if 0 ≤ (wrap64 (a0 + 1)) then (if (wrap64 (a0 + 1) : Int).toNat ≤ 35184372088832 then ((some (List.replicate (wrap64 (a0 + 1) : Int).toNat 0 : List Int)).bind fun y510 => (if 0 ≤ a0 then (if a0 < (y510.length : Int) then (some (y510.set (a0 : Int).toNat 1)) else (none)) else (none))) else (none)) else (none)
set_option maxHeartbeats 8000000 in
set_option maxRecDepth 100000 in
theorem codewrightref05_Power.calls (a0 : Int) (r : List Int) (w : World) (h : codewrightref05_Power.f a0 = some r) :
  Calls Try.prog 76 #[.int .i64 a0] w fun e w' => ∃ v0_ : Value, e = .returned (v0_) ∧ Kd.R (Kd.int .i64) 3 w' w.heap.size (fun _ => True) v0_ r ∧ Below w.heap.size w w' := by
 have HB := Aside0.mk (Below.refl w.heap.size w)
 have H : (if 0 ≤ (wrap64 (a0 + 1)) then (if (wrap64 (a0 + 1) : Int).toNat ≤ 35184372088832 then ((some (List.replicate (wrap64 (a0 + 1) : Int).toNat 0 : List Int)).bind fun y510 => (if 0 ≤ a0 then (if a0 < (y510.length : Int) then (some (y510.set (a0 : Int).toNat 1)) else (none)) else (none))) else (none)) else (none)) = some r := h
 clear h
 obtain ⟨ji2, hji2⟩ : ∃ j_ : Int, (wrap64 (a0 + 1)) = j_ := ⟨_, rfl⟩
 replace H : (if 0 ≤ (ji2) then (if (ji2 : Int).toNat ≤ 35184372088832 then ((some (List.replicate (ji2 : Int).toNat 0 : List Int)).bind fun y510 => (if 0 ≤ a0 then (if a0 < (y510.length : Int) then (some (y510.set (a0 : Int).toNat 1)) else (none)) else (none))) else (none)) else (none)) = some r := by (rw [hji2] at H; exact H)
 have hji2w : (IntKind.i64.wrap (a0 + 1)) = ji2 := (i64_w _).trans hji2
 by_cases c3 : 0 ≤ (ji2)
 ·rw [if_pos c3] at H
  have c3b0 := eq_true c3
  have c3b1 : decide (0 ≤ (ji2)) = true := decide_eq_true c3
  clear c3
  by_cases c4 : (ji2 : Int).toNat ≤ 35184372088832
  ·rw [if_pos c4] at H
   have c4b0 := eq_true c4
   have c4b1 : decide ((ji2 : Int).toNat ≤ 35184372088832) = true := decide_eq_true c4
   clear c4
   obtain ⟨y510, hy510⟩ : ∃ y_ : List Int, y_ = (List.replicate (ji2 : Int).toNat 0) := ⟨_, rfl⟩
   replace H : (if 0 ≤ a0 then (if a0 < (y510.length : Int) then (some (y510.set (a0 : Int).toNat 1)) else (none)) else (none)) = some r := by (have H2_ := (Option.bind_some _ _).symm.trans H; rw [hy510]; with_reducible exact H2_)
   have Ny510 := Aside0.mk hy510
   clear hy510
   by_cases c5 : 0 ≤ a0
   ·rw [if_pos c5] at H
    have c5b0 : decide (0 ≤ a0) = true := decide_eq_true c5
    clear c5
    by_cases c6 : a0 < (y510.length : Int)
    ·rw [if_pos c6] at H
     have c6b0 : decide (a0 < (y510.length : Int)) = true := decide_eq_true c6
     clear c6
     obtain ⟨y513, hy513⟩ : ∃ y_ : List Int, y_ = (y510.set (a0 : Int).toNat 1) := ⟨_, rfl⟩
     replace H : (some y513) = some r := by (rw [hy513]; with_reducible exact H)
     have Ny513 := Aside0.mk hy513
     clear hy513
     obtain rfl := Option.some.inj H
     go_enter Try.func76, Try.ntmps76
     go_wp2_with (first | ((with_reducible refine gate_dst (N := 6) rfl ?_); refine Kd.R_make (Kd.int .i64) _ 3 rfl (N := 6) rfl 22 _ _ rfl ji2 rfl rfl Try.underlying22 (.int .i64 0) 8 info3 rfl (by decide) (by omega) 0 (ok := fun _ => True) (okp := fun _ => True) rfl (fun _ hk => hk) trivial (of_decide_eq_true (by (with_reducible assumption))) (Nat.le_trans (Nat.mul_le_mul_right _ (of_decide_eq_true (by (with_reducible assumption)) : ji2.toNat ≤ 35184372088832)) (by omega)) (Below.refl _ _) (Nat.le_refl _) ?_; intro v511 w8 ho9 hb hg_ hnew_; clear hg_ hnew_; ((rw [← Ny510.out] at ho9)); have n0_ := Aside0.mk (Kd.R_lower ho9 (below_size HB.out)); have n1_ := Aside0.mk (below_step HB.out hb); clear HB; have HO512 := n0_; have HB := n1_; clear n0_ n1_; clear hb ho9; have p7 : 0 ≤ (a0 : Int) := of_decide_eq_true (by (with_reducible assumption)); have q7 : (a0 : Int) < ((y510.length : Int) : Int) := of_decide_eq_true (by (with_reducible assumption)); obtain ⟨go7, co7, eo7, gb7, gl7, cl7, HG7⟩ := Kd.R_form HO512.out (by omega); ((cases eo7)); have GB7 := Aside0.mk gb7; have GG7 := Aside0.mk HG7; clear gb7 gl7 HG7; obtain ⟨hx7_0, hf7_0⟩ := Kd.R_celln 0 HO512.out (a0 : Int) p7 q7; replace p7 := eq_true p7; replace q7 := eq_true q7; obtain ⟨hy10_, hz10_⟩ := Kd.R_celln 0 HO512.out (a0 : Int) (of_decide_eq_true (by (with_reducible assumption))) (of_decide_eq_true (by (with_reducible assumption))); have HP10 := Kd.R_putg HO512.out (a0 : Int) 1) | ((with_reducible refine gate_store (t := 3) (p := 9) rfl ?_); refine store_event (t := 3) (p := 9) (v := ?vo_w11) (w1 := (w8.setCell ⟨go7, (a0 : Int).toNat, none⟩ (.int .i64 1))) ?hg ?ho ?hn ?hr ?_; (case ho => rfl); (case hg => rfl); (case hn => rfl); (case hr => (go_simp; done)); intro w11 hw; have hg : w8.grownBy w11 (some go7) := (by rw [hw]; exact HP10.2); have hp_ : Kd.R (Kd.int .i64) 3 w11 w.heap.size (fun _ => True) (.slice (some ⟨go7, 0, none⟩) y510.length co7) y513 := (by rw [hw, Ny513.out]; exact HP10.1); clear HP10; have n0_ := Aside0.mk (hp_); have n1_ := Aside0.mk ((by rw [hw]; exact below_set (HB.out) GB7.out : Below w.heap.size w w11)); clear HO512; clear HB; have HO512 := n0_; have HB := n1_; clear n0_ n1_; clear hg hw hp_))
     go_ret
     exact ⟨_, by rfl, by exact HO512.out, by exact HB.out⟩
    ·rw [if_neg c6] at H
     exact absurd H (by simp)
   ·rw [if_neg c5] at H
    exact absurd H (by simp)
  ·rw [if_neg c4] at H
   exact absurd H (by simp)
 ·rw [if_neg c3] at H
  exact absurd H (by simp)
end Go.Proofs.Ytiejggpmjapajaa.PA
end
section
namespace Go.Proofs.Ytiejggpmjapajaa.PA
open Go.RowKit Go.Proofs.YtiejggpmjapajaaW.PrintWords Go.Proofs.YtiejggpmjapajaaW.PrintLast Go.Proofs.YtiejggpmjapajaaW.PrintMore
attribute [local go_sem] max2_int min2_int max_two min_two max_three min_three max_four min_four
set_option linter.unusedVariables false
set_option linter.unusedSimpArgs false
def codewrightref05_DivMod.l0 : Nat → List Int → List Int → Int → Int → List Int → Int → Int → List Int → Option (List Int × List Int)
 | 0, _, _, _, _, _, _, _, _ => none
 | k + 1, x2, x8, x9, x10, x11, x515000, x515001, x515002 => if (x8.length : Int) > x9 then (if 0 ≤ (wrap64 ((x8.length : Int) - 1)) then (if (wrap64 ((x8.length : Int) - 1)) < (x8.length : Int) then ((codewrightref04_Mul.f k x515000 x515001 x515002 (rd x8 (wrap64 ((x8.length : Int) - 1))) x10).bind fun t530 => (if 0 ≤ (wrap64 ((wrap64 ((x8.length : Int) - 1)) - x9)) then (if (wrap64 ((wrap64 ((x8.length : Int) - 1)) - x9)) < (x11.length : Int) then ((codewrightref05_Scale.f k x515000 x515001 x515002 t530 x2).bind fun t532 => ((codewrightref05_Power.f (wrap64 ((wrap64 ((x8.length : Int) - 1)) - x9))).bind fun t535 => ((codewrightref05_Mul.f k x515000 x515001 x515002 t532 t535).bind fun t538 => ((codewrightref05_Sub.f k x515000 x515001 x515002 x8 t538).bind fun t541 => (codewrightref05_DivMod.l0 k x2 t541 x9 x10 (x11.set ((wrap64 ((wrap64 ((x8.length : Int) - 1)) - x9)) : Int).toNat t530) x515000 x515001 x515002))))) else (none)) else (none))) else (none)) else (none)) else ((codewrightref05_Canon.f k x515000 x515001 x515002 x11).bind fun t526 => (some (t526, x8)))
def codewrightref05_DivMod.f (k : Nat) (a0_0 : Int) (a0_1 : Int) (l0_2 : List Int) (l1 : List Int) (l2 : List Int) : Option (List Int × List Int) := (codewrightref05_Canon.f k a0_0 a0_1 l0_2 l2).bind fun t515 => ((codewrightref05_Canon.f k a0_0 a0_1 l0_2 l1).bind fun t518 => (if 0 ≤ (wrap64 ((t515.length : Int) - 1)) then (if (wrap64 ((t515.length : Int) - 1)) < (t515.length : Int) then ((codewrightref04_Inv.f k a0_0 a0_1 l0_2 (rd t515 (wrap64 ((t515.length : Int) - 1)))).bind fun t522 => (if 0 ≤ (mx (wrap64 ((t518.length : Int) - (wrap64 ((t515.length : Int) - 1)))) 0) then (if (mx (wrap64 ((t518.length : Int) - (wrap64 ((t515.length : Int) - 1)))) 0 : Int).toNat ≤ 35184372088832 then (codewrightref05_DivMod.l0 k t515 t518 (wrap64 ((t515.length : Int) - 1)) t522 (List.replicate (mx (wrap64 ((t518.length : Int) - (wrap64 ((t515.length : Int) - 1)))) 0 : Int).toNat 0) a0_0 a0_1 l0_2) else (none)) else (none))) else (none)) else (none)))
def codewrightref05_DivMod.T8 : Bool × List (List Nat × List Nat) := (true, [([], []), ([], []), ([], []), ([2], [2]), ([3], [3]), ([1, 4], [1, 4]), ([5], [5]), ([], []), ([0, 6, 7], [0, 6, 7]), ([8, 8, 0, 1, 2, 3, 4, 5, 6, 7, 8], [8])])
def codewrightref05_DivMod.B8 : List Nat := [0, 0, 0, 4, 12, 30, 62, 0, 255, 511]
theorem codewrightref05_DivMod.tab8 : rtab .any (opsOf Try.f47 8) = codewrightref05_DivMod.T8 := by kernel_rfl
theorem codewrightref05_DivMod.bits8 : waitsOk codewrightref05_DivMod.T8.2 codewrightref05_DivMod.B8 = true := by kernel_rfl
def codewrightref05_DivMod.T10 : Bool × List (List Nat × List Nat) := (true, [([], []), ([], []), ([], []), ([], []), ([], []), ([], []), ([3, 4, 5], [3, 4, 5]), ([], []), ([7, 6], [7]), ([2, 6, 8, 8], [2, 6, 8]), ([0, 1, 9, 9], [0, 1, 9]), ([10, 10, 0, 1, 2, 3, 4, 5, 6, 7, 8, 9, 10], [1, 10])])
def codewrightref05_DivMod.B10 : List Nat := [0, 0, 0, 0, 0, 0, 56, 0, 248, 508, 1023, 2047]
theorem codewrightref05_DivMod.tab10 : rtab .any (opsOf Try.f47 10) = codewrightref05_DivMod.T10 := by kernel_rfl
theorem codewrightref05_DivMod.bits10 : waitsOk codewrightref05_DivMod.T10.2 codewrightref05_DivMod.B10 = true := by kernel_rfl
set_option maxHeartbeats 8000000 in
set_option maxRecDepth 100000 in
theorem codewrightref05_DivMod.calls (k : Nat) (a0_0 : Int) (a0_1 : Int) (A0_2 : Option Addr) (c0_2 : Nat) (l0_2 : List Int) (A1 : Option Addr) (c1 : Nat) (l1 : List Int) (A2 : Option Addr) (c2 : Nat) (l2 : List Int) (r1 : List Int) (r2 : List Int) (w : World) (hr0_2 : Kd.C (Kd.int .i64) w A0_2 l0_2.length l0_2) (hc0_2 : l0_2.length ≤ c0_2) (hr1 : Kd.C (Kd.int .i64) w A1 l1.length l1) (hc1 : l1.length ≤ c1) (hr2 : Kd.C (Kd.int .i64) w A2 l2.length l2) (hc2 : l2.length ≤ c2) (h : codewrightref05_DivMod.f k a0_0 a0_1 l0_2 l1 l2 = some (r1, r2)) :
  Calls Try.prog 47 #[.agg #[.int .i64 a0_0, .int .i64 a0_1, .slice A0_2 l0_2.length c0_2], .slice A1 l1.length c1, .slice A2 l2.length c2] w fun e w' => ∃ v0_ v1_ : Value, e = .returned (.tuple #[v0_, v1_]) ∧ Kd.R (Kd.int .i64) 3 w' w.heap.size (fun k_ => some k_ ≠ (v1_ : Value).ownBlock) v0_ r1 ∧ Kd.R (Kd.int .i64) 3 w' w.heap.size (fun k_ => some k_ ≠ (v0_ : Value).ownBlock) v1_ r2 ∧ Below w.heap.size w w' := by
 have hu24 := Try.underlying24
 have HR0_2 := Aside0.mk hr0_2
 have HC0_2 := Aside0.mk hc0_2
 clear hr0_2 hc0_2
 have HR1 := Aside0.mk hr1
 have HC1 := Aside0.mk hc1
 clear hr1 hc1
 have HR2 := Aside0.mk hr2
 have HC2 := Aside0.mk hc2
 clear hr2 hc2
 have HB := Aside0.mk (Below.refl w.heap.size w)
 have H : ((codewrightref05_Canon.f k a0_0 a0_1 l0_2 l2).bind fun t515 => ((codewrightref05_Canon.f k a0_0 a0_1 l0_2 l1).bind fun t518 => (if 0 ≤ (wrap64 ((t515.length : Int) - 1)) then (if (wrap64 ((t515.length : Int) - 1)) < (t515.length : Int) then ((codewrightref04_Inv.f k a0_0 a0_1 l0_2 (rd t515 (wrap64 ((t515.length : Int) - 1)))).bind fun t522 => (if 0 ≤ (mx (wrap64 ((t518.length : Int) - (wrap64 ((t515.length : Int) - 1)))) 0) then (if (mx (wrap64 ((t518.length : Int) - (wrap64 ((t515.length : Int) - 1)))) 0 : Int).toNat ≤ 35184372088832 then (codewrightref05_DivMod.l0 k t515 t518 (wrap64 ((t515.length : Int) - 1)) t522 (List.replicate (mx (wrap64 ((t518.length : Int) - (wrap64 ((t515.length : Int) - 1)))) 0 : Int).toNat 0) a0_0 a0_1 l0_2) else (none)) else (none))) else (none)) else (none)))) = some (r1, r2) := h
 clear h
 obtain ⟨t515, A40, H⟩ := Option.bind_eq_some_iff.mp H
 replace H : ((codewrightref05_Canon.f k a0_0 a0_1 l0_2 l1).bind fun t518 => (if 0 ≤ (wrap64 ((t515.length : Int) - 1)) then (if (wrap64 ((t515.length : Int) - 1)) < (t515.length : Int) then ((codewrightref04_Inv.f k a0_0 a0_1 l0_2 (rd t515 (wrap64 ((t515.length : Int) - 1)))).bind fun t522 => (if 0 ≤ (mx (wrap64 ((t518.length : Int) - (wrap64 ((t515.length : Int) - 1)))) 0) then (if (mx (wrap64 ((t518.length : Int) - (wrap64 ((t515.length : Int) - 1)))) 0 : Int).toNat ≤ 35184372088832 then (codewrightref05_DivMod.l0 k t515 t518 (wrap64 ((t515.length : Int) - 1)) t522 (List.replicate (mx (wrap64 ((t518.length : Int) - (wrap64 ((t515.length : Int) - 1)))) 0 : Int).toNat 0) a0_0 a0_1 l0_2) else (none)) else (none))) else (none)) else (none))) = some (r1, r2) := H
 have A4 := Aside0.mk A40
 clear A40
 obtain ⟨t518, A50, H⟩ := Option.bind_eq_some_iff.mp H
 replace H : (if 0 ≤ (wrap64 ((t515.length : Int) - 1)) then (if (wrap64 ((t515.length : Int) - 1)) < (t515.length : Int) then ((codewrightref04_Inv.f k a0_0 a0_1 l0_2 (rd t515 (wrap64 ((t515.length : Int) - 1)))).bind fun t522 => (if 0 ≤ (mx (wrap64 ((t518.length : Int) - (wrap64 ((t515.length : Int) - 1)))) 0) then (if (mx (wrap64 ((t518.length : Int) - (wrap64 ((t515.length : Int) - 1)))) 0 : Int).toNat ≤ 35184372088832 then (codewrightref05_DivMod.l0 k t515 t518 (wrap64 ((t515.length : Int) - 1)) t522 (List.replicate (mx (wrap64 ((t518.length : Int) - (wrap64 ((t515.length : Int) - 1)))) 0 : Int).toNat 0) a0_0 a0_1 l0_2) else (none)) else (none))) else (none)) else (none)) = some (r1, r2) := H
 have A5 := Aside0.mk A50
 clear A50
 obtain ⟨ji6, hji6⟩ : ∃ j_ : Int, (wrap64 ((t515.length : Int) - 1)) = j_ := ⟨_, rfl⟩
 replace H : (if 0 ≤ (ji6) then (if (ji6) < (t515.length : Int) then ((codewrightref04_Inv.f k a0_0 a0_1 l0_2 (rd t515 (ji6))).bind fun t522 => (if 0 ≤ (mx (wrap64 ((t518.length : Int) - (ji6))) 0) then (if (mx (wrap64 ((t518.length : Int) - (ji6))) 0 : Int).toNat ≤ 35184372088832 then (codewrightref05_DivMod.l0 k t515 t518 ji6 t522 (List.replicate (mx (wrap64 ((t518.length : Int) - (ji6))) 0 : Int).toNat 0) a0_0 a0_1 l0_2) else (none)) else (none))) else (none)) else (none)) = some (r1, r2) := by (rw [hji6] at H; exact H)
 have hji6w : (IntKind.i64.wrap ((t515.length : Int) - 1)) = ji6 := (i64_w _).trans hji6
 by_cases c7 : 0 ≤ (ji6)
 ·rw [if_pos c7] at H
  have c7b0 : decide (0 ≤ (ji6)) = true := decide_eq_true c7
  clear c7
  by_cases c8 : (ji6) < (t515.length : Int)
  ·rw [if_pos c8] at H
   have c8b0 : decide ((ji6) < (t515.length : Int)) = true := decide_eq_true c8
   clear c8
   obtain ⟨t522, A90, H⟩ := Option.bind_eq_some_iff.mp H
   replace H : (if 0 ≤ (mx (wrap64 ((t518.length : Int) - (ji6))) 0) then (if (mx (wrap64 ((t518.length : Int) - (ji6))) 0 : Int).toNat ≤ 35184372088832 then (codewrightref05_DivMod.l0 k t515 t518 ji6 t522 (List.replicate (mx (wrap64 ((t518.length : Int) - (ji6))) 0 : Int).toNat 0) a0_0 a0_1 l0_2) else (none)) else (none)) = some (r1, r2) := H
   have A9 := Aside0.mk A90
   clear A90
   obtain ⟨ji10, hji10⟩ : ∃ j_ : Int, (mx (wrap64 ((t518.length : Int) - (ji6))) 0) = j_ := ⟨_, rfl⟩
   replace H : (if 0 ≤ (ji10) then (if (ji10 : Int).toNat ≤ 35184372088832 then (codewrightref05_DivMod.l0 k t515 t518 ji6 t522 (List.replicate (ji10 : Int).toNat 0) a0_0 a0_1 l0_2) else (none)) else (none)) = some (r1, r2) := by (rw [hji10] at H; exact H)
   have hji10_ : (if (wrap64 ((t518.length : Int) - (ji6))) < 0 then 0 else (wrap64 ((t518.length : Int) - (ji6)))) = ji10 := hji10
   by_cases c11 : 0 ≤ (ji10)
   ·rw [if_pos c11] at H
    have c11b0 := eq_true c11
    have c11b1 : decide (0 ≤ (ji10)) = true := decide_eq_true c11
    clear c11
    by_cases c12 : (ji10 : Int).toNat ≤ 35184372088832
    ·rw [if_pos c12] at H
     have c12b0 := eq_true c12
     have c12b1 : decide ((ji10 : Int).toNat ≤ 35184372088832) = true := decide_eq_true c12
     clear c12
     obtain ⟨y523, hy523⟩ : ∃ y_ : List Int, y_ = (List.replicate (ji10 : Int).toNat 0) := ⟨_, rfl⟩
     replace H : (codewrightref05_DivMod.l0 k t515 t518 ji6 t522 y523 a0_0 a0_1 l0_2) = some (r1, r2) := by (rw [hy523]; with_reducible exact H)
     have Ny523 := Aside0.mk hy523
     clear hy523
     have H' := Aside0.mk H
     clear H
     go_enter Try.func47, Try.ntmps47
     (go_wp2_with (first | ((with_reducible refine gate_dst (N := 3) rfl ?_); refine box_event ?hg (N := 3) ?hd (cs := #[.int .i64 a0_0, .int .i64 a0_1, .slice A0_2 l0_2.length c0_2]) (t := 24) ?hr ?_; (case hd => rfl); (case hg => rfl); (case hr => (go_simp; done)); intro gb514 hg w13 hbox hb; have n0_ := Aside0.mk (below_step HB.out hb); have n1_ := Aside0.mk (hbox); have n2_ := Aside0.mk ((by rw [hg]; exact (below_size HB.out) : w.heap.size ≤ gb514)); have n3_ := Aside0.mk ((by rw [hg]; exact (below_size HB.out) : w.heap.size ≤ gb514)); clear HB; have HB := n0_; have BK514 := n1_; have GW514 := n2_; have GE514 := n3_; clear n0_ n1_ n2_ n3_; clear hb hbox hg; have hcz14_0 : w13.cell? ⟨gb514, 0, none⟩ = some (.int .i64 a0_0) := (blk_cell BK514.out 0).trans rfl; have hcz14_1 : w13.cell? ⟨gb514, 1, none⟩ = some (.int .i64 a0_1) := (blk_cell BK514.out 1).trans rfl; have hcz14_2 : w13.cell? ⟨gb514, 2, none⟩ = some (.slice A0_2 l0_2.length c0_2) := (blk_cell BK514.out 2).trans rfl; have hfz14_0 := blk_frozen BK514.out 0; have hfz14_1 := blk_frozen BK514.out 1; have hfz14_2 := blk_frozen BK514.out 2) | ((with_reducible refine gate_callee (f := 32) rfl ?_); refine goesL_ (some 16) rfl rfl Try.func32 (by kernel_rfl) rfl #[.agg #[.int .i64 a0_0, .int .i64 a0_1, .slice A0_2 l0_2.length c0_2], .slice A2 l2.length c2] rfl (by ((simp only [List.map_toArray, List.map_cons, List.map_nil])); (rfl)) ?_; (with_reducible refine (codewrightref05_Canon.calls k a0_0 a0_1 _ _ l0_2 _ _ l2 t515 _ ?side1 ?side2 ?side3 ?side4 A4.out).mono ?_); (case side1 => repeat ((exact (Kd.C_below HR0_2.out HB.out)))); (case side2 => exact HC0_2.out); (case side3 => repeat ((exact (Kd.C_below HR2.out HB.out)))); (case side4 => exact HC2.out); rintro e w15 ⟨v516, rfl, ho0, hb⟩; refine ⟨_, rfl, ?_⟩; have n0_ := Aside0.mk (Kd.R_lower ho0 (below_size HB.out)); have n1_ := Aside0.mk (blk_below (g := gb514) (o := .cells #[.int .i64 a0_0, .int .i64 a0_1, .slice A0_2 l0_2.length c0_2] 24 (0, 0)) BK514.out hb); have n2_ := Aside0.mk (below_step HB.out hb); clear BK514; clear HB; have HO517 := n0_; have BK514 := n1_; have HB := n2_; clear n0_ n1_ n2_; ((clear hb)); (skip); (skip); (skip); ((clear ho0)); have hcz16_0 : w15.cell? ⟨gb514, 0, none⟩ = some (.int .i64 a0_0) := (blk_cell BK514.out 0).trans rfl; have hcz16_1 : w15.cell? ⟨gb514, 1, none⟩ = some (.int .i64 a0_1) := (blk_cell BK514.out 1).trans rfl; have hcz16_2 : w15.cell? ⟨gb514, 2, none⟩ = some (.slice A0_2 l0_2.length c0_2) := (blk_cell BK514.out 2).trans rfl; have hfz16_0 := blk_frozen BK514.out 0; have hfz16_1 := blk_frozen BK514.out 1; have hfz16_2 := blk_frozen BK514.out 2) | ((with_reducible refine gate_callee (f := 32) rfl ?_); refine goesL_ (some 19) rfl rfl Try.func32 (by kernel_rfl) rfl #[.agg #[.int .i64 a0_0, .int .i64 a0_1, .slice A0_2 l0_2.length c0_2], .slice A1 l1.length c1] rfl (by ((simp only [List.map_toArray, List.map_cons, List.map_nil])); (rfl)) ?_; (with_reducible refine (codewrightref05_Canon.calls k a0_0 a0_1 _ _ l0_2 _ _ l1 t518 _ ?side1 ?side2 ?side3 ?side4 A5.out).mono ?_); (case side1 => repeat ((exact (Kd.C_below HR0_2.out HB.out)))); (case side2 => exact HC0_2.out); (case side3 => repeat ((exact (Kd.C_below HR1.out HB.out)))); (case side4 => exact HC1.out); rintro e w17 ⟨v519, rfl, ho0, hb⟩; refine ⟨_, rfl, ?_⟩; have n0_ := Aside0.mk (Kd.R_elder' HO517.out (Kd.R_base ho0) hb); have n1_ := Aside0.mk (Kd.R_lower (Kd.R_new' ho0 (Kd.R_lt HO517.out)) (below_size HB.out)); have n2_ := Aside0.mk (blk_below (g := gb514) (o := .cells #[.int .i64 a0_0, .int .i64 a0_1, .slice A0_2 l0_2.length c0_2] 24 (0, 0)) BK514.out hb); have n3_ := Aside0.mk (below_step HB.out hb); clear HO517; clear BK514; clear HB; have HO517 := n0_; have HO520 := n1_; have BK514 := n2_; have HB := n3_; clear n0_ n1_ n2_ n3_; ((clear hb)); (skip); (skip); (skip); ((clear ho0)); obtain ⟨Ao18, co18, eo18⟩ := Kd.R_slice HO517.out; subst eo18)))
     have n0_ := Aside0.mk (Kd.R_drew HO517.out)
     have n1_ := Aside0.mk (Kd.R_drew HO520.out)
     have n2_ := Aside0.mk (blk_drew BK514.out)
     have n3_ := Aside0.mk (below_drew1 HB.out)
     clear HO517 HO520 BK514 HB
     have HO517 := n0_
     have HO520 := n1_
     have BK514 := n2_
     have HB := n3_
     clear n0_ n1_ n2_ n3_
     have p521 : 0 ≤ ((ji6) : Int) := of_decide_eq_true (by (with_reducible assumption))
     have q521 : (ji6) < (t515.length : Int) := of_decide_eq_true (by (with_reducible assumption))
     obtain ⟨ad521, e521, hx521_0⟩ := Kd.at_int (Kd.R_reads' HO517.out).2.2 (ji6) p521 q521
     cases e521
     replace p521 := eq_true p521
     replace q521 := eq_true q521
     refine start_ (n := 7) (S := fun w' => w'.cell? ⟨gb514, 0, none⟩ = some (.int .i64 a0_0) ∧ w'.cell? ⟨gb514, 1, none⟩ = some (.int .i64 a0_1) ∧ w'.cell? ⟨gb514, 2, none⟩ = some (.slice A0_2 l0_2.length c0_2) ∧ w'.cell? (ad521.add ((ji6)).toNat) = some (.int .i64 (rd t515 (ji6)))) (ds := []) #[false, false, false, false, false, false, false] (by kernel_rfl) rfl rfl ⟨(blk_cell BK514.out 0).trans rfl, (blk_cell BK514.out 1).trans rfl, (blk_cell BK514.out 2).trans rfl, hx521_0⟩ (fun hHeld => ?_)
     generalize w17.drew = w19 at HO517 HO520 BK514 HB hx521_0 hHeld ⊢
     refine pure_ (i := 1) (N := some 24) (v := ?_) (a' := ?_) #[false, true, false, false, false, false, false] rfl rfl (by kernel_rfl) (fun _ _ _ h => h) (Or.inl ⟨by rfl, ?_⟩) ?_ ?_
     rotate_left
     ·intro w'
      go_simp
      with_reducible rfl
     rotate_left
     ·simp only [Act.put, List.setIfInBounds_toArray, List.set_cons_zero, List.set_cons_succ, i64_w, i32_w]
      rfl
     refine pure_ (i := 2) (N := some 25) (v := ?_) (a' := ?_) #[false, true, true, false, false, false, false] rfl rfl (by kernel_rfl) (fun _ _ _ h => h) (Or.inl ⟨by rfl, ?_⟩) ?_ ?_
     rotate_left
     ·intro w'
      go_simp
      with_reducible rfl
     rotate_left
     ·simp only [Act.put, List.setIfInBounds_toArray, List.set_cons_zero, List.set_cons_succ, i64_w, i32_w]
      rfl
     refine pure_ (i := 3) (N := some 26) (v := ?_) (a' := ?_) #[false, true, true, true, false, false, false] rfl rfl (by kernel_rfl) (fun _ _ _ h => h) (Or.inl ⟨by rfl, ?_⟩) ?_ ?_
     rotate_left
     ·intro w'
      go_simp
      with_reducible rfl
     rotate_left
     ·simp only [Act.put, List.setIfInBounds_toArray, List.set_cons_zero, List.set_cons_succ, i64_w, i32_w]
      rfl
     refine take_ (i := 0) (N := some 23) (v := ?_) (a' := ?_) #[true, true, true, true, false, false, false] rfl rfl (by kernel_rfl) (fun _ _ _ h => h) (Or.inl ⟨by rfl, ?_⟩) hHeld ?_ ?_
     rotate_left
     ·rintro w' ⟨s0, s1, s2, s3⟩
      go_simp
      with_reducible rfl
     rotate_left
     ·simp only [Act.put, List.setIfInBounds_toArray, List.set_cons_zero, List.set_cons_succ, i64_w, i32_w]
      rfl
     refine take_ (i := 4) (N := some 27) (v := ?_) (a' := ?_) #[true, true, true, true, true, false, false] rfl rfl (by kernel_rfl) (fun _ _ _ h => h) (Or.inl ⟨by rfl, ?_⟩) hHeld ?_ ?_
     rotate_left
     ·rintro w' ⟨s0, s1, s2, s3⟩
      go_simp
      with_reducible rfl
     rotate_left
     ·simp only [Act.put, List.setIfInBounds_toArray, List.set_cons_zero, List.set_cons_succ, i64_w, i32_w]
      rfl
     refine one_ (i := 5) (N := some 28) #[true, true, true, true, true, true, false] rfl rfl (by kernel_rfl) (by decide) (fun K hK => ?_)
     refine goes_ Try.func46 (by kernel_rfl) rfl #[.agg #[.int .i64 a0_0, .int .i64 a0_1, .slice A0_2 l0_2.length c0_2], .int .i64 (rd t515 (ji6))] (by rfl) rfl rfl (by ((simp only [List.map_toArray, List.map_cons, List.map_nil])); (rfl)) ?_
     with_reducible refine (codewrightref04_Inv.calls k a0_0 a0_1 _ _ l0_2 (rd t515 (ji6)) t522 _ ?side1 ?side2 A9.out).mono ?_
     (case side1 => repeat ((exact (Kd.C_below HR0_2.out HB.out))))
     (case side2 => exact HC0_2.out)
     rintro e w20 ⟨rfl, hb⟩
     have HS3_ := (hb.cell (World.block_lt_of_cell? _ _ (hHeld.2.2.2))).trans (hHeld.2.2.2)
     refine ⟨_, rfl, ?_⟩
     have n0_ := Aside0.mk (Kd.R_below HO517.out hb)
     have n1_ := Aside0.mk (Kd.R_below HO520.out hb)
     have n2_ := Aside0.mk (blk_below (g := gb514) (o := .cells #[.int .i64 a0_0, .int .i64 a0_1, .slice A0_2 l0_2.length c0_2] 24 (0, 0)) BK514.out hb)
     have n3_ := Aside0.mk (below_step HB.out hb)
     clear HO517 HO520 BK514 HB
     have HO517 := n0_
     have HO520 := n1_
     have BK514 := n2_
     have HB := n3_
     clear n0_ n1_ n2_ n3_
     ((clear hb))
     refine hK.out _ _ ⟨(blk_cell BK514.out 0).trans rfl, (blk_cell BK514.out 1).trans rfl, (blk_cell BK514.out 2).trans rfl, HS3_⟩ (fun hHeld => ?_)
     clear hK K
     refine norm_ (a' := ?_) ?_ ?_
     rotate_left
     ·show Act.put _ (some 28) _ = _
      simp only [Act.put, List.setIfInBounds_toArray, List.set_cons_zero, List.set_cons_succ, i64_w, i32_w]
      rfl
     refine pure_ (i := 6) (N := some 10) (v := ?_) (a' := ?_) #[true, true, true, true, true, true, true] rfl rfl (by kernel_rfl) (fun _ _ _ h => h) (Or.inl ⟨by rfl, ?_⟩) ?_ ?_
     rotate_left
     ·intro w'
      go_simp
      with_reducible rfl
     rotate_left
     ·simp only [Act.put, List.setIfInBounds_toArray, List.set_cons_zero, List.set_cons_succ, i64_w, i32_w]
      rfl
     refine done_ (by kernel_rfl) ?_
     obtain ⟨Ao21, co21, eo21⟩ := Kd.R_slice HO520.out
     subst eo21
     (go_wp2_with (((with_reducible refine gate_dst (N := 34) rfl ?_); refine Kd.R_make (Kd.int .i64) _ 3 rfl (N := 34) rfl 22 _ _ rfl ji10 rfl rfl Try.underlying22 (.int .i64 0) 8 info3 rfl (by decide) (by omega) 0 (ok := fun _ => True) (okp := fun _ => True) rfl (fun _ hk => hk) trivial (of_decide_eq_true (by (with_reducible assumption))) (Nat.le_trans (Nat.mul_le_mul_right _ (of_decide_eq_true (by (with_reducible assumption)) : ji10.toNat ≤ 35184372088832)) (by omega)) (Below.refl _ _) (Nat.le_refl _) ?_; intro v524 w22 ho23 hb hg_ hnew_; clear hg_ hnew_; ((rw [← Ny523.out] at ho23)); have n0_ := Aside0.mk (Kd.R_elder' HO517.out (Kd.R_base ho23) hb); have n1_ := Aside0.mk (Kd.R_elder' HO520.out (Kd.R_base ho23) hb); have n2_ := Aside0.mk (Kd.R_lower (Kd.R_new' (Kd.R_new' ho23 (Kd.R_lt HO517.out)) (Kd.R_lt HO520.out)) (below_size HB.out)); have n3_ := Aside0.mk (blk_below (g := gb514) (o := .cells #[.int .i64 a0_0, .int .i64 a0_1, .slice A0_2 l0_2.length c0_2] 24 (0, 0)) BK514.out hb); have n4_ := Aside0.mk (below_step HB.out hb); clear HO517; clear HO520; clear BK514; clear HB; have HO517 := n0_; have HO520 := n1_; have HO525 := n2_; have BK514 := n3_; have HB := n4_; clear n0_ n1_ n2_ n3_ n4_; clear hb ho23)))
     go_loopg [8] k (fun kq v8 w' => ∃ (x8_1 : List Int) (x11_1 : List Int), Aside0 (codewrightref05_DivMod.l0 kq t515 x8_1 ji6 t522 x11_1 a0_0 a0_1 l0_2 = some (r1, r2)) ∧ Aside0 (kq ≤ k) ∧ Aside0 (Kd.R (Kd.int .i64) 3 w' w.heap.size (fun k_ => some k_ ≠ (v8 : Value).ownBlock ∧ some k_ ≠ (v524 : Value).ownBlock) (.slice (some ad521) t515.length co18) t515) ∧ Aside0 (Kd.R (Kd.int .i64) 3 w' w.heap.size (fun k_ => some k_ ≠ ((.slice (some ad521) t515.length co18) : Value).ownBlock ∧ some k_ ≠ (v524 : Value).ownBlock) v8 x8_1) ∧ Aside0 (Kd.R (Kd.int .i64) 3 w' w.heap.size (fun k_ => some k_ ≠ ((.slice (some ad521) t515.length co18) : Value).ownBlock ∧ some k_ ≠ (v8 : Value).ownBlock) v524 x11_1) ∧ Aside0 (w'.heap[gb514]? = some (.cells #[.int .i64 a0_0, .int .i64 a0_1, (.slice A0_2 l0_2.length c0_2)] 24 (0, 0))) ∧ Aside0 (Below w.heap.size w w'))
     case atStart => exact ⟨(t518), (y523), H', ⟨Nat.le_refl _⟩, ⟨by exact Kd.R_mono HO517.out (fun _ hk => ⟨hk.1.2, hk.2⟩)⟩, ⟨by exact Kd.R_mono HO520.out (fun _ hk => ⟨hk.1.2, hk.2⟩)⟩, ⟨by exact Kd.R_mono HO525.out (fun _ hk => ⟨hk.1.2, hk.2⟩)⟩, ⟨BK514.out⟩, ⟨by exact HB.out⟩⟩
     case round =>
      clear H' c7b0 c8b0 c11b0 c11b1 c12b0 c12b1 hcz14_0 hcz14_1 hcz14_2 hcz16_0 hcz16_1 hcz16_2 hfz14_0 hfz14_1 hfz14_2 hfz16_0 hfz16_1 hfz16_2 hx521_0 p521 q521
      obtain ⟨x8_1, x11_1, HA, HK1, HO_2, HO_8, HO_11, BK514, HB⟩ := hrel
      cases gk with
      | zero => exact absurd HA.out (by simp [codewrightref05_DivMod.l0])
      | succ k1 =>
       have H := HA.out
       clear HA
       simp only [codewrightref05_DivMod.l0] at H
       by_cases c24 : (x8_1.length : Int) > ji6
       ·rw [if_pos c24] at H
        have c24b0 : decide (ji6 < (x8_1.length : Int)) = true := decide_eq_true c24
        clear c24
        obtain ⟨ji25, hji25⟩ : ∃ j_ : Int, (wrap64 ((x8_1.length : Int) - 1)) = j_ := ⟨_, rfl⟩
        replace H : (if 0 ≤ (ji25) then (if (ji25) < (x8_1.length : Int) then ((codewrightref04_Mul.f k1 a0_0 a0_1 l0_2 (rd x8_1 (ji25)) t522).bind fun t530 => (if 0 ≤ (wrap64 ((ji25) - ji6)) then (if (wrap64 ((ji25) - ji6)) < (x11_1.length : Int) then ((codewrightref05_Scale.f k1 a0_0 a0_1 l0_2 t530 t515).bind fun t532 => ((codewrightref05_Power.f (wrap64 ((ji25) - ji6))).bind fun t535 => ((codewrightref05_Mul.f k1 a0_0 a0_1 l0_2 t532 t535).bind fun t538 => ((codewrightref05_Sub.f k1 a0_0 a0_1 l0_2 x8_1 t538).bind fun t541 => (codewrightref05_DivMod.l0 k1 t515 t541 ji6 t522 (x11_1.set ((wrap64 ((ji25) - ji6)) : Int).toNat t530) a0_0 a0_1 l0_2))))) else (none)) else (none))) else (none)) else (none)) = some (r1, r2) := by (rw [hji25] at H; exact H)
        have hji25w : (IntKind.i64.wrap ((x8_1.length : Int) - 1)) = ji25 := (i64_w _).trans hji25
        by_cases c26 : 0 ≤ (ji25)
        ·rw [if_pos c26] at H
         have c26b0 : decide (0 ≤ (ji25)) = true := decide_eq_true c26
         clear c26
         by_cases c27 : (ji25) < (x8_1.length : Int)
         ·rw [if_pos c27] at H
          have c27b0 : decide ((ji25) < (x8_1.length : Int)) = true := decide_eq_true c27
          clear c27
          obtain ⟨t530, A280, H⟩ := Option.bind_eq_some_iff.mp H
          replace H : (if 0 ≤ (wrap64 ((ji25) - ji6)) then (if (wrap64 ((ji25) - ji6)) < (x11_1.length : Int) then ((codewrightref05_Scale.f k1 a0_0 a0_1 l0_2 t530 t515).bind fun t532 => ((codewrightref05_Power.f (wrap64 ((ji25) - ji6))).bind fun t535 => ((codewrightref05_Mul.f k1 a0_0 a0_1 l0_2 t532 t535).bind fun t538 => ((codewrightref05_Sub.f k1 a0_0 a0_1 l0_2 x8_1 t538).bind fun t541 => (codewrightref05_DivMod.l0 k1 t515 t541 ji6 t522 (x11_1.set ((wrap64 ((ji25) - ji6)) : Int).toNat t530) a0_0 a0_1 l0_2))))) else (none)) else (none)) = some (r1, r2) := H
          have A28 := Aside0.mk A280
          clear A280
          obtain ⟨ji29, hji29⟩ : ∃ j_ : Int, (wrap64 ((ji25) - ji6)) = j_ := ⟨_, rfl⟩
          replace H : (if 0 ≤ (ji29) then (if (ji29) < (x11_1.length : Int) then ((codewrightref05_Scale.f k1 a0_0 a0_1 l0_2 t530 t515).bind fun t532 => ((codewrightref05_Power.f (ji29)).bind fun t535 => ((codewrightref05_Mul.f k1 a0_0 a0_1 l0_2 t532 t535).bind fun t538 => ((codewrightref05_Sub.f k1 a0_0 a0_1 l0_2 x8_1 t538).bind fun t541 => (codewrightref05_DivMod.l0 k1 t515 t541 ji6 t522 (x11_1.set ((ji29) : Int).toNat t530) a0_0 a0_1 l0_2))))) else (none)) else (none)) = some (r1, r2) := by (rw [hji29] at H; exact H)
          have hji29w : (IntKind.i64.wrap ((ji25) - ji6)) = ji29 := (i64_w _).trans hji29
          by_cases c30 : 0 ≤ (ji29)
          ·rw [if_pos c30] at H
           have c30b0 : decide (0 ≤ (ji29)) = true := decide_eq_true c30
           clear c30
           by_cases c31 : (ji29) < (x11_1.length : Int)
           ·rw [if_pos c31] at H
            have c31b0 : decide ((ji29) < (x11_1.length : Int)) = true := decide_eq_true c31
            clear c31
            obtain ⟨y531, hy531⟩ : ∃ y_ : List Int, y_ = (x11_1.set ((ji29) : Int).toNat t530) := ⟨_, rfl⟩
            replace H : ((codewrightref05_Scale.f k1 a0_0 a0_1 l0_2 t530 t515).bind fun t532 => ((codewrightref05_Power.f (ji29)).bind fun t535 => ((codewrightref05_Mul.f k1 a0_0 a0_1 l0_2 t532 t535).bind fun t538 => ((codewrightref05_Sub.f k1 a0_0 a0_1 l0_2 x8_1 t538).bind fun t541 => (codewrightref05_DivMod.l0 k1 t515 t541 ji6 t522 y531 a0_0 a0_1 l0_2))))) = some (r1, r2) := by (rw [hy531]; with_reducible exact H)
            have Ny531 := Aside0.mk hy531
            clear hy531
            obtain ⟨t532, A330, H⟩ := Option.bind_eq_some_iff.mp H
            replace H : ((codewrightref05_Power.f (ji29)).bind fun t535 => ((codewrightref05_Mul.f k1 a0_0 a0_1 l0_2 t532 t535).bind fun t538 => ((codewrightref05_Sub.f k1 a0_0 a0_1 l0_2 x8_1 t538).bind fun t541 => (codewrightref05_DivMod.l0 k1 t515 t541 ji6 t522 y531 a0_0 a0_1 l0_2)))) = some (r1, r2) := H
            have A33 := Aside0.mk A330
            clear A330
            obtain ⟨t535, A340, H⟩ := Option.bind_eq_some_iff.mp H
            replace H : ((codewrightref05_Mul.f k1 a0_0 a0_1 l0_2 t532 t535).bind fun t538 => ((codewrightref05_Sub.f k1 a0_0 a0_1 l0_2 x8_1 t538).bind fun t541 => (codewrightref05_DivMod.l0 k1 t515 t541 ji6 t522 y531 a0_0 a0_1 l0_2))) = some (r1, r2) := H
            have A34 := Aside0.mk A340
            clear A340
            obtain ⟨t538, A350, H⟩ := Option.bind_eq_some_iff.mp H
            replace H : ((codewrightref05_Sub.f k1 a0_0 a0_1 l0_2 x8_1 t538).bind fun t541 => (codewrightref05_DivMod.l0 k1 t515 t541 ji6 t522 y531 a0_0 a0_1 l0_2)) = some (r1, r2) := H
            have A35 := Aside0.mk A350
            clear A350
            obtain ⟨t541, A360, H⟩ := Option.bind_eq_some_iff.mp H
            replace H : (codewrightref05_DivMod.l0 k1 t515 t541 ji6 t522 y531 a0_0 a0_1 l0_2) = some (r1, r2) := H
            have A36 := Aside0.mk A360
            clear A360
            have H' := Aside0.mk H
            clear H
            obtain ⟨Ao37, co37, eo37⟩ := Kd.R_slice HO_8.out
            subst eo37
            (go_wp2)
            have n0_ := Aside0.mk (Kd.R_drew HO_2.out)
            have n1_ := Aside0.mk (Kd.R_drew HO_8.out)
            have n2_ := Aside0.mk (Kd.R_drew HO_11.out)
            have n3_ := Aside0.mk (blk_drew BK514.out)
            have n4_ := Aside0.mk (below_drew1 HB.out)
            clear HO_2 HO_8 HO_11 BK514 HB
            have HO_2 := n0_
            have HO_8 := n1_
            have HO_11 := n2_
            have BK514 := n3_
            have HB := n4_
            clear n0_ n1_ n2_ n3_ n4_
            have p529 : 0 ≤ ((ji25) : Int) := of_decide_eq_true (by (with_reducible assumption))
            have q529 : (ji25) < (x8_1.length : Int) := of_decide_eq_true (by (with_reducible assumption))
            obtain ⟨ad529, e529, hx529_0⟩ := Kd.at_int (Kd.R_reads' HO_8.out).2.2 (ji25) p529 q529
            cases e529
            replace p529 := eq_true p529
            replace q529 := eq_true q529
            refine start_ (n := 10) (S := fun w' => w'.cell? ⟨gb514, 0, none⟩ = some (.int .i64 a0_0) ∧ w'.cell? ⟨gb514, 1, none⟩ = some (.int .i64 a0_1) ∧ w'.cell? ⟨gb514, 2, none⟩ = some (.slice A0_2 l0_2.length c0_2) ∧ w'.cell? (ad529.add ((ji25)).toNat) = some (.int .i64 (rd x8_1 (ji25)))) (ds := []) #[false, false, false, false, false, false, false, false, false, false] (by kernel_rfl) rfl rfl ⟨(blk_cell BK514.out 0).trans rfl, (blk_cell BK514.out 1).trans rfl, (blk_cell BK514.out 2).trans rfl, hx529_0⟩ (fun hHeld => ?_); refine with_tabW codewrightref05_DivMod.tab8 codewrightref05_DivMod.bits8 (fun HT_ HW_ => ?_)
            generalize wr.drew = w38 at HO_2 HO_8 HO_11 BK514 HB hx529_0 hHeld ⊢
            refine pure_ (i := 1) (N := some 45) (v := ?_) (a' := ?_) #[false, true, false, false, false, false, false, false, false, false] rfl rfl (any_of HT_.out (by kernel_rfl)) (fun _ _ _ h => h) (Or.inl ⟨by rfl, ?_⟩) ?_ ?_
            rotate_left
            ·intro w'
             go_simp
             with_reducible rfl
            rotate_left
            ·simp only [Act.put, List.setIfInBounds_toArray, List.set_cons_zero, List.set_cons_succ, i64_w, i32_w]
             rfl
            refine pure_ (i := 2) (N := some 46) (v := ?_) (a' := ?_) #[false, true, true, false, false, false, false, false, false, false] rfl rfl (any_of HT_.out (by kernel_rfl)) (fun _ _ _ h => h) (Or.inl ⟨by rfl, ?_⟩) ?_ ?_
            rotate_left
            ·intro w'
             go_simp
             with_reducible rfl
            rotate_left
            ·simp only [Act.put, List.setIfInBounds_toArray, List.set_cons_zero, List.set_cons_succ, i64_w, i32_w]
             rfl
            refine pure_ (i := 3) (N := some 47) (v := ?_) (a' := ?_) #[false, true, true, true, false, false, false, false, false, false] rfl rfl (any_of HT_.out (by kernel_rfl)) (fun _ _ _ h => h) (Or.inl ⟨by rfl, ?_⟩) ?_ ?_
            rotate_left
            ·intro w'
             go_simp
             with_reducible rfl
            rotate_left
            ·simp only [Act.put, List.setIfInBounds_toArray, List.set_cons_zero, List.set_cons_succ, i64_w, i32_w]
             rfl
            refine pure_ (i := 4) (N := some 48) (v := ?_) (a' := ?_) #[false, true, true, true, true, false, false, false, false, false] rfl rfl (any_of HT_.out (by kernel_rfl)) (fun _ _ _ h => h) (Or.inl ⟨by rfl, ?_⟩) ?_ ?_
            rotate_left
            ·intro w'
             go_simp
             with_reducible rfl
            rotate_left
            ·simp only [Act.put, List.setIfInBounds_toArray, List.set_cons_zero, List.set_cons_succ, i64_w, i32_w]
             rfl
            refine pure_ (i := 5) (N := some 49) (v := ?_) (a' := ?_) #[false, true, true, true, true, true, false, false, false, false] rfl rfl (any_of HT_.out (by kernel_rfl)) (fun _ _ _ h => h) (Or.inl ⟨by rfl, ?_⟩) ?_ ?_
            rotate_left
            ·intro w'
             go_simp
             with_reducible rfl
            rotate_left
            ·simp only [Act.put, List.setIfInBounds_toArray, List.set_cons_zero, List.set_cons_succ, i64_w, i32_w]
             rfl
            refine pure_ (i := 7) (N := some 51) (v := ?_) (a' := ?_) #[false, true, true, true, true, true, false, true, false, false] rfl rfl (any_of HT_.out (by kernel_rfl)) (fun _ _ _ h => h) (Or.inl ⟨by rfl, ?_⟩) ?_ ?_
            rotate_left
            ·intro w'
             go_simp
             with_reducible rfl
            rotate_left
            ·simp only [Act.put, List.setIfInBounds_toArray, List.set_cons_zero, List.set_cons_succ, i64_w, i32_w]
             rfl
            refine take_ (i := 0) (N := some 44) (v := ?_) (a' := ?_) #[true, true, true, true, true, true, false, true, false, false] rfl rfl (take_ofW HT_.out HW_.out (by kernel_rfl)) (fun _ _ _ h => h) (Or.inl ⟨by rfl, ?_⟩) hHeld ?_ ?_
            rotate_left
            ·rintro w' ⟨s0, s1, s2, s3⟩
             go_simp
             with_reducible rfl
            rotate_left
            ·simp only [Act.put, List.setIfInBounds_toArray, List.set_cons_zero, List.set_cons_succ, i64_w, i32_w]
             rfl
            refine take_ (i := 6) (N := some 50) (v := ?_) (a' := ?_) #[true, true, true, true, true, true, true, true, false, false] rfl rfl (take_ofW HT_.out HW_.out (by kernel_rfl)) (fun _ _ _ h => h) (Or.inl ⟨by rfl, ?_⟩) hHeld ?_ ?_
            rotate_left
            ·rintro w' ⟨s0, s1, s2, s3⟩
             go_simp
             with_reducible rfl
            rotate_left
            ·simp only [Act.put, List.setIfInBounds_toArray, List.set_cons_zero, List.set_cons_succ, i64_w, i32_w]
             rfl
            refine one_ (i := 8) (N := some 52) #[true, true, true, true, true, true, true, true, true, false] rfl rfl (one_of HT_.out (by kernel_rfl)) (by decide) (fun K hK => ?_)
            refine goes_ Try.func44 (by kernel_rfl) rfl #[.agg #[.int .i64 a0_0, .int .i64 a0_1, .slice A0_2 l0_2.length c0_2], .int .i64 (rd x8_1 (ji25)), .int .i64 t522] (by rfl) rfl rfl (by ((simp only [List.map_toArray, List.map_cons, List.map_nil])); (rfl)) ?_
            with_reducible refine (codewrightref04_Mul.calls k1 a0_0 a0_1 _ _ l0_2 (rd x8_1 (ji25)) t522 t530 _ ?side1 ?side2 A28.out).mono ?_
            (case side1 => repeat ((exact (Kd.C_below HR0_2.out HB.out))))
            (case side2 => exact HC0_2.out)
            rintro e w39 ⟨rfl, hb⟩
            have HS3_ := (hb.cell (World.block_lt_of_cell? _ _ (hHeld.2.2.2))).trans (hHeld.2.2.2)
            refine ⟨_, rfl, ?_⟩
            have n0_ := Aside0.mk (Kd.R_below HO_2.out hb)
            have n1_ := Aside0.mk (Kd.R_below HO_8.out hb)
            have n2_ := Aside0.mk (Kd.R_below HO_11.out hb)
            have n3_ := Aside0.mk (blk_below (g := gb514) (o := .cells #[.int .i64 a0_0, .int .i64 a0_1, .slice A0_2 l0_2.length c0_2] 24 (0, 0)) BK514.out hb)
            have n4_ := Aside0.mk (below_step HB.out hb)
            clear HO_2 HO_8 HO_11 BK514 HB
            have HO_2 := n0_
            have HO_8 := n1_
            have HO_11 := n2_
            have BK514 := n3_
            have HB := n4_
            clear n0_ n1_ n2_ n3_ n4_
            ((clear hb))
            refine hK.out _ _ ⟨(blk_cell BK514.out 0).trans rfl, (blk_cell BK514.out 1).trans rfl, (blk_cell BK514.out 2).trans rfl, HS3_⟩ (fun hHeld => ?_)
            clear hK K
            refine norm_ (a' := ?_) ?_ ?_
            rotate_left
            ·show Act.put _ (some 52) _ = _
             simp only [Act.put, List.setIfInBounds_toArray, List.set_cons_zero, List.set_cons_succ, i64_w, i32_w]
             rfl
            refine pure_ (i := 9) (N := some 13) (v := ?_) (a' := ?_) #[true, true, true, true, true, true, true, true, true, true] rfl rfl (any_of HT_.out (by kernel_rfl)) (fun _ _ _ h => h) (Or.inl ⟨by rfl, ?_⟩) ?_ ?_
            rotate_left
            ·intro w'
             go_simp
             with_reducible rfl
            rotate_left
            ·simp only [Act.put, List.setIfInBounds_toArray, List.set_cons_zero, List.set_cons_succ, i64_w, i32_w]
             rfl
            refine done_ (done_of HT_.out (by kernel_rfl)) ?_
            have p32 : 0 ≤ ((ji29) : Int) := of_decide_eq_true (by (with_reducible assumption))
            have q32 : ((ji29) : Int) < ((x11_1.length : Int) : Int) := of_decide_eq_true (by (with_reducible assumption))
            obtain ⟨go32, co32, eo32, gb32, gl32, cl32, HG32⟩ := Kd.R_form HO_11.out (by omega)
            ((cases eo32))
            have GB32 := Aside0.mk gb32
            have GG32 := Aside0.mk HG32
            clear gb32 gl32 HG32
            obtain ⟨hx32_0, hf32_0⟩ := Kd.R_celln 0 HO_11.out ((ji29) : Int) p32 q32
            replace p32 := eq_true p32
            replace q32 := eq_true q32
            obtain ⟨hy40_, hz40_⟩ := Kd.R_celln 0 HO_11.out ((ji29) : Int) (of_decide_eq_true (by (with_reducible assumption))) (of_decide_eq_true (by (with_reducible assumption)))
            have HP40 := Kd.R_putg HO_11.out ((ji29) : Int) t530
            (go_wp2_with (((with_reducible refine gate_store (t := 3) (p := 56) rfl ?_); refine store_event (t := 3) (p := 56) (v := ?vo_w41) (w1 := (w39.setCell ⟨go32, ((ji29) : Int).toNat, none⟩ (.int .i64 t530))) ?hg ?ho ?hn ?hr ?_; (case ho => rfl); (case hg => rfl); (case hn => rfl); (case hr => (go_simp; done)); intro w41 hw; have hg : w39.grownBy w41 (some go32) := (by rw [hw]; exact HP40.2); have hp_ : Kd.R (Kd.int .i64) 3 w41 w.heap.size (fun k_ => some k_ ≠ (.slice (some ad521) t515.length co18 : Value).ownBlock ∧ some k_ ≠ (.slice (some ad529) x8_1.length co37 : Value).ownBlock) (.slice (some ⟨go32, 0, none⟩) x11_1.length co32) y531 := (by rw [hw, Ny531.out]; exact HP40.1); clear HP40; have n0_ := Aside0.mk (Kd.R_after (v := (.slice (some ⟨go32, 0, none⟩) x11_1.length co32)) (v1 := (.slice (some ⟨go32, 0, none⟩) x11_1.length co32)) (ok := (fun k_ => some k_ ≠ (.slice (some ad529) x8_1.length co37 : Value).ownBlock)) HO_2.out hg (.inl rfl)); have n1_ := Aside0.mk (Kd.R_after (v := (.slice (some ⟨go32, 0, none⟩) x11_1.length co32)) (v1 := (.slice (some ⟨go32, 0, none⟩) x11_1.length co32)) (ok := (fun k_ => some k_ ≠ (.slice (some ad521) t515.length co18 : Value).ownBlock)) HO_8.out hg (.inl rfl)); have n2_ := Aside0.mk (hp_); have n3_ := Aside0.mk (blk_grown (g := gb514) (o := .cells #[.int .i64 a0_0, .int .i64 a0_1, .slice A0_2 l0_2.length c0_2] 24 (0, 0)) BK514.out hg (Kd.R_ne HO_11.out BK514.out (by decide))); have n4_ := Aside0.mk ((by rw [hw]; exact below_set (HB.out) GB32.out : Below w.heap.size w w41)); clear HO_2; clear HO_8; clear HO_11; clear BK514; clear HB; have HO_2 := n0_; have HO_8 := n1_; have HO_11 := n2_; have BK514 := n3_; have HB := n4_; clear n0_ n1_ n2_ n3_ n4_; clear hg hw hp_)))
            have n0_ := Aside0.mk (Kd.R_drew HO_2.out)
            have n1_ := Aside0.mk (Kd.R_drew HO_8.out)
            have n2_ := Aside0.mk (Kd.R_drew HO_11.out)
            have n3_ := Aside0.mk (blk_drew BK514.out)
            have n4_ := Aside0.mk (below_drew1 HB.out)
            clear HO_2 HO_8 HO_11 BK514 HB
            have HO_2 := n0_
            have HO_8 := n1_
            have HO_11 := n2_
            have BK514 := n3_
            have HB := n4_
            clear n0_ n1_ n2_ n3_ n4_
            refine start_ (n := 12) (S := fun w' => w'.cell? ⟨gb514, 0, none⟩ = some (.int .i64 a0_0) ∧ w'.cell? ⟨gb514, 1, none⟩ = some (.int .i64 a0_1) ∧ w'.cell? ⟨gb514, 2, none⟩ = some (.slice A0_2 l0_2.length c0_2)) (ds := []) #[false, false, false, false, false, false, false, false, false, false, false, false] (by kernel_rfl) rfl rfl ⟨(blk_cell BK514.out 0).trans rfl, (blk_cell BK514.out 1).trans rfl, (blk_cell BK514.out 2).trans rfl⟩ (fun hHeld => ?_); refine with_tabW codewrightref05_DivMod.tab10 codewrightref05_DivMod.bits10 (fun HT_ HW_ => ?_)
            generalize w41.drew = w42 at HO_2 HO_8 HO_11 BK514 HB hHeld ⊢
            refine pure_ (i := 1) (N := some 58) (v := ?_) (a' := ?_) #[false, true, false, false, false, false, false, false, false, false, false, false] rfl rfl (any_of HT_.out (by kernel_rfl)) (fun _ _ _ h => h) (Or.inl ⟨by rfl, ?_⟩) ?_ ?_
            rotate_left
            ·intro w'
             go_simp
             with_reducible rfl
            rotate_left
            ·simp only [Act.put, List.setIfInBounds_toArray, List.set_cons_zero, List.set_cons_succ, i64_w, i32_w]
             rfl
            refine pure_ (i := 4) (N := some 61) (v := ?_) (a' := ?_) #[false, true, false, false, true, false, false, false, false, false, false, false] rfl rfl (any_of HT_.out (by kernel_rfl)) (fun _ _ _ h => h) (Or.inl ⟨by rfl, ?_⟩) ?_ ?_
            rotate_left
            ·intro w'
             go_simp
             with_reducible rfl
            rotate_left
            ·simp only [Act.put, List.setIfInBounds_toArray, List.set_cons_zero, List.set_cons_succ, i64_w, i32_w]
             rfl
            refine pure_ (i := 5) (N := some 62) (v := ?_) (a' := ?_) #[false, true, false, false, true, true, false, false, false, false, false, false] rfl rfl (any_of HT_.out (by kernel_rfl)) (fun _ _ _ h => h) (Or.inl ⟨by rfl, ?_⟩) ?_ ?_
            rotate_left
            ·intro w'
             go_simp
             with_reducible rfl
            rotate_left
            ·simp only [Act.put, List.setIfInBounds_toArray, List.set_cons_zero, List.set_cons_succ, i64_w, i32_w]
             rfl
            refine pure_ (i := 7) (N := some 64) (v := ?_) (a' := ?_) #[false, true, false, false, true, true, false, true, false, false, false, false] rfl rfl (any_of HT_.out (by kernel_rfl)) (fun _ _ _ h => h) (Or.inl ⟨by rfl, ?_⟩) ?_ ?_
            rotate_left
            ·intro w'
             go_simp
             with_reducible rfl
            rotate_left
            ·simp only [Act.put, List.setIfInBounds_toArray, List.set_cons_zero, List.set_cons_succ, i64_w, i32_w]
             rfl
            refine take_ (i := 0) (N := some 57) (v := ?_) (a' := ?_) #[true, true, false, false, true, true, false, true, false, false, false, false] rfl rfl (take_ofW HT_.out HW_.out (by kernel_rfl)) (fun _ _ _ h => h) (Or.inl ⟨by rfl, ?_⟩) hHeld ?_ ?_
            rotate_left
            ·rintro w' ⟨s0, s1, s2⟩
             go_simp
             with_reducible rfl
            rotate_left
            ·simp only [Act.put, List.setIfInBounds_toArray, List.set_cons_zero, List.set_cons_succ, i64_w, i32_w]
             rfl
            refine take_ (i := 2) (N := some 59) (v := ?_) (a' := ?_) #[true, true, true, false, true, true, false, true, false, false, false, false] rfl rfl (take_ofW HT_.out HW_.out (by kernel_rfl)) (fun _ _ _ h => h) (Or.inl ⟨by rfl, ?_⟩) hHeld ?_ ?_
            rotate_left
            ·rintro w' ⟨s0, s1, s2⟩
             go_simp
             with_reducible rfl
            rotate_left
            ·simp only [Act.put, List.setIfInBounds_toArray, List.set_cons_zero, List.set_cons_succ, i64_w, i32_w]
             rfl
            refine take_ (i := 3) (N := some 60) (v := ?_) (a' := ?_) #[true, true, true, true, true, true, false, true, false, false, false, false] rfl rfl (take_ofW HT_.out HW_.out (by kernel_rfl)) (fun _ _ _ h => h) (Or.inl ⟨by rfl, ?_⟩) hHeld ?_ ?_
            rotate_left
            ·rintro w' ⟨s0, s1, s2⟩
             go_simp
             with_reducible rfl
            rotate_left
            ·simp only [Act.put, List.setIfInBounds_toArray, List.set_cons_zero, List.set_cons_succ, i64_w, i32_w]
             rfl
            refine one_ (i := 6) (N := some 63) #[true, true, true, true, true, true, true, true, false, false, false, false] rfl rfl (one_of HT_.out (by kernel_rfl)) (by decide) (fun K hK => ?_)
            refine goes_ Try.func42 (by kernel_rfl) rfl #[.agg #[.int .i64 a0_0, .int .i64 a0_1, .slice A0_2 l0_2.length c0_2], .int .i64 t530, .slice (some ad521) t515.length co18] (by rfl) rfl rfl (by ((simp only [List.map_toArray, List.map_cons, List.map_nil])); (rfl)) ?_
            with_reducible refine (codewrightref05_Scale.calls k1 a0_0 a0_1 _ _ l0_2 t530 _ _ t515 t532 _ ?side1 ?side2 ?side3 ?side4 A33.out).mono ?_
            (case side1 => repeat ((exact (Kd.C_below HR0_2.out HB.out))))
            (case side2 => exact HC0_2.out)
            (case side3 => repeat ((exact (Kd.R_reads' HO_2.out).2.2)))
            (case side4 => exact (Kd.R_reads' HO_2.out).2.1)
            rintro e w43 ⟨v533, rfl, ho0, hb⟩
            refine ⟨_, rfl, ?_⟩
            have n0_ := Aside0.mk (Kd.R_elder' HO_2.out (Kd.R_base ho0) hb)
            have n1_ := Aside0.mk (Kd.R_elder' HO_8.out (Kd.R_base ho0) hb)
            have n2_ := Aside0.mk (Kd.R_elder' HO_11.out (Kd.R_base ho0) hb)
            have n3_ := Aside0.mk (Kd.R_lower (Kd.R_new' (Kd.R_new' (Kd.R_new' ho0 (Kd.R_lt HO_2.out)) (Kd.R_lt HO_8.out)) (Kd.R_lt HO_11.out)) (below_size HB.out))
            have n4_ := Aside0.mk (blk_below (g := gb514) (o := .cells #[.int .i64 a0_0, .int .i64 a0_1, .slice A0_2 l0_2.length c0_2] 24 (0, 0)) BK514.out hb)
            have n5_ := Aside0.mk (below_step HB.out hb)
            clear HO_2 HO_8 HO_11 BK514 HB
            have HO_2 := n0_
            have HO_8 := n1_
            have HO_11 := n2_
            have HO534 := n3_
            have BK514 := n4_
            have HB := n5_
            clear n0_ n1_ n2_ n3_ n4_ n5_
            ((clear hb))
            ((clear ho0))
            refine hK.out _ _ ⟨(blk_cell BK514.out 0).trans rfl, (blk_cell BK514.out 1).trans rfl, (blk_cell BK514.out 2).trans rfl⟩ (fun hHeld => ?_)
            clear hK K
            refine norm_ (a' := ?_) ?_ ?_
            rotate_left
            ·show Act.put _ (some 63) _ = _
             simp only [Act.put, List.setIfInBounds_toArray, List.set_cons_zero, List.set_cons_succ, i64_w, i32_w]
             rfl
            refine one_ (i := 8) (N := some 65) #[true, true, true, true, true, true, true, true, true, false, false, false] rfl rfl (one_of HT_.out (by kernel_rfl)) (by decide) (fun K hK => ?_)
            refine goes_ Try.func76 (by kernel_rfl) rfl #[.int .i64 ji29] (by rfl) rfl rfl (by ((simp only [List.map_toArray, List.map_cons, List.map_nil])); (rfl)) ?_
            with_reducible refine (codewrightref05_Power.calls ji29 t535 _ A34.out).mono ?_
            rintro e w44 ⟨v536, rfl, ho0, hb⟩
            refine ⟨_, rfl, ?_⟩
            have n0_ := Aside0.mk (Kd.R_elder' HO_2.out (Kd.R_base ho0) hb)
            have n1_ := Aside0.mk (Kd.R_elder' HO_8.out (Kd.R_base ho0) hb)
            have n2_ := Aside0.mk (Kd.R_elder' HO_11.out (Kd.R_base ho0) hb)
            have n3_ := Aside0.mk (Kd.R_elder' HO534.out (Kd.R_base ho0) hb)
            have n4_ := Aside0.mk (Kd.R_lower (Kd.R_new' (Kd.R_new' (Kd.R_new' (Kd.R_new' ho0 (Kd.R_lt HO_2.out)) (Kd.R_lt HO_8.out)) (Kd.R_lt HO_11.out)) (Kd.R_lt HO534.out)) (below_size HB.out))
            have n5_ := Aside0.mk (blk_below (g := gb514) (o := .cells #[.int .i64 a0_0, .int .i64 a0_1, .slice A0_2 l0_2.length c0_2] 24 (0, 0)) BK514.out hb)
            have n6_ := Aside0.mk (below_step HB.out hb)
            clear HO_2 HO_8 HO_11 HO534 BK514 HB
            have HO_2 := n0_
            have HO_8 := n1_
            have HO_11 := n2_
            have HO534 := n3_
            have HO537 := n4_
            have BK514 := n5_
            have HB := n6_
            clear n0_ n1_ n2_ n3_ n4_ n5_ n6_
            ((clear hb))
            ((clear ho0))
            obtain ⟨Ao45, co45, eo45⟩ := Kd.R_slice HO534.out
            ((subst eo45))
            obtain ⟨Ao46, co46, eo46⟩ := Kd.R_slice HO537.out
            ((subst eo46))
            refine hK.out _ _ ⟨(blk_cell BK514.out 0).trans rfl, (blk_cell BK514.out 1).trans rfl, (blk_cell BK514.out 2).trans rfl⟩ (fun hHeld => ?_)
            clear hK K
            refine norm_ (a' := ?_) ?_ ?_
            rotate_left
            ·show Act.put _ (some 65) _ = _
             simp only [Act.put, List.setIfInBounds_toArray, List.set_cons_zero, List.set_cons_succ, i64_w, i32_w]
             rfl
            refine one_ (i := 9) (N := some 66) #[true, true, true, true, true, true, true, true, true, true, false, false] rfl rfl (one_of HT_.out (by kernel_rfl)) (by decide) (fun K hK => ?_)
            refine goes_ Try.func36 (by kernel_rfl) rfl #[.agg #[.int .i64 a0_0, .int .i64 a0_1, .slice A0_2 l0_2.length c0_2], .slice Ao45 t532.length co45, .slice Ao46 t535.length co46] (by rfl) rfl rfl (by ((simp only [List.map_toArray, List.map_cons, List.map_nil])); (rfl)) ?_
            with_reducible refine (codewrightref05_Mul.calls k1 a0_0 a0_1 _ _ l0_2 _ _ t532 _ _ t535 t538 _ ?side1 ?side2 ?side3 ?side4 ?side5 ?side6 A35.out).mono ?_
            (case side1 => repeat ((exact (Kd.C_below HR0_2.out HB.out))))
            (case side2 => exact HC0_2.out)
            (case side3 => repeat ((exact (Kd.R_reads' HO534.out).2.2)))
            (case side4 => exact (Kd.R_reads' HO534.out).2.1)
            (case side5 => repeat ((exact (Kd.R_reads' HO537.out).2.2)))
            (case side6 => exact (Kd.R_reads' HO537.out).2.1)
            rintro e w47 ⟨v539, rfl, ho0, hb⟩
            refine ⟨_, rfl, ?_⟩
            have n0_ := Aside0.mk (Kd.R_elder' HO_2.out (Kd.R_base ho0) hb)
            have n1_ := Aside0.mk (Kd.R_elder' HO_8.out (Kd.R_base ho0) hb)
            have n2_ := Aside0.mk (Kd.R_elder' HO_11.out (Kd.R_base ho0) hb)
            have n3_ := Aside0.mk (Kd.R_elder' HO534.out (Kd.R_base ho0) hb)
            have n4_ := Aside0.mk (Kd.R_elder' HO537.out (Kd.R_base ho0) hb)
            have n5_ := Aside0.mk (Kd.R_lower (Kd.R_new' (Kd.R_new' (Kd.R_new' (Kd.R_new' (Kd.R_new' ho0 (Kd.R_lt HO_2.out)) (Kd.R_lt HO_8.out)) (Kd.R_lt HO_11.out)) (Kd.R_lt HO534.out)) (Kd.R_lt HO537.out)) (below_size HB.out))
            have n6_ := Aside0.mk (blk_below (g := gb514) (o := .cells #[.int .i64 a0_0, .int .i64 a0_1, .slice A0_2 l0_2.length c0_2] 24 (0, 0)) BK514.out hb)
            have n7_ := Aside0.mk (below_step HB.out hb)
            clear HO_2 HO_8 HO_11 HO534 HO537 BK514 HB
            have HO_2 := n0_
            have HO_8 := n1_
            have HO_11 := n2_
            have HO534 := n3_
            have HO537 := n4_
            have HO540 := n5_
            have BK514 := n6_
            have HB := n7_
            clear n0_ n1_ n2_ n3_ n4_ n5_ n6_ n7_
            ((clear hb))
            ((clear ho0))
            obtain ⟨Ao48, co48, eo48⟩ := Kd.R_slice HO540.out
            ((subst eo48))
            refine hK.out _ _ ⟨(blk_cell BK514.out 0).trans rfl, (blk_cell BK514.out 1).trans rfl, (blk_cell BK514.out 2).trans rfl⟩ (fun hHeld => ?_)
            clear hK K
            refine norm_ (a' := ?_) ?_ ?_
            rotate_left
            ·show Act.put _ (some 66) _ = _
             simp only [Act.put, List.setIfInBounds_toArray, List.set_cons_zero, List.set_cons_succ, i64_w, i32_w]
             rfl
            refine one_ (i := 10) (N := some 67) #[true, true, true, true, true, true, true, true, true, true, true, false] rfl rfl (one_of HT_.out (by kernel_rfl)) (by decide) (fun K hK => ?_)
            refine goes_ Try.func75 (by kernel_rfl) rfl #[.agg #[.int .i64 a0_0, .int .i64 a0_1, .slice A0_2 l0_2.length c0_2], .slice (some ad529) x8_1.length co37, .slice Ao48 t538.length co48] (by rfl) rfl rfl (by ((simp only [List.map_toArray, List.map_cons, List.map_nil])); (rfl)) ?_
            with_reducible refine (codewrightref05_Sub.calls k1 a0_0 a0_1 _ _ l0_2 _ _ x8_1 _ _ t538 t541 _ ?side1 ?side2 ?side3 ?side4 ?side5 ?side6 A36.out).mono ?_
            (case side1 => repeat ((exact (Kd.C_below HR0_2.out HB.out))))
            (case side2 => exact HC0_2.out)
            (case side3 => repeat ((exact (Kd.R_reads' HO_8.out).2.2)))
            (case side4 => exact (Kd.R_reads' HO_8.out).2.1)
            (case side5 => repeat ((exact (Kd.R_reads' HO540.out).2.2)))
            (case side6 => exact (Kd.R_reads' HO540.out).2.1)
            rintro e w49 ⟨v542, rfl, ho0, hb⟩
            refine ⟨_, rfl, ?_⟩
            have n0_ := Aside0.mk (Kd.R_elder' HO_2.out (Kd.R_base ho0) hb)
            have n1_ := Aside0.mk (Kd.R_elder' HO_8.out (Kd.R_base ho0) hb)
            have n2_ := Aside0.mk (Kd.R_elder' HO_11.out (Kd.R_base ho0) hb)
            have n3_ := Aside0.mk (Kd.R_elder' HO534.out (Kd.R_base ho0) hb)
            have n4_ := Aside0.mk (Kd.R_elder' HO537.out (Kd.R_base ho0) hb)
            have n5_ := Aside0.mk (Kd.R_elder' HO540.out (Kd.R_base ho0) hb)
            have n6_ := Aside0.mk (Kd.R_lower (Kd.R_new' (Kd.R_new' (Kd.R_new' (Kd.R_new' (Kd.R_new' (Kd.R_new' ho0 (Kd.R_lt HO_2.out)) (Kd.R_lt HO_8.out)) (Kd.R_lt HO_11.out)) (Kd.R_lt HO534.out)) (Kd.R_lt HO537.out)) (Kd.R_lt HO540.out)) (below_size HB.out))
            have n7_ := Aside0.mk (blk_below (g := gb514) (o := .cells #[.int .i64 a0_0, .int .i64 a0_1, .slice A0_2 l0_2.length c0_2] 24 (0, 0)) BK514.out hb)
            have n8_ := Aside0.mk (below_step HB.out hb)
            clear HO_2 HO_8 HO_11 HO534 HO537 HO540 BK514 HB
            have HO_2 := n0_
            have HO_8 := n1_
            have HO_11 := n2_
            have HO534 := n3_
            have HO537 := n4_
            have HO540 := n5_
            have HO543 := n6_
            have BK514 := n7_
            have HB := n8_
            clear n0_ n1_ n2_ n3_ n4_ n5_ n6_ n7_ n8_
            ((clear hb))
            ((clear ho0))
            refine hK.out _ _ ⟨(blk_cell BK514.out 0).trans rfl, (blk_cell BK514.out 1).trans rfl, (blk_cell BK514.out 2).trans rfl⟩ (fun hHeld => ?_)
            clear hK K
            refine norm_ (a' := ?_) ?_ ?_
            rotate_left
            ·show Act.put _ (some 67) _ = _
             simp only [Act.put, List.setIfInBounds_toArray, List.set_cons_zero, List.set_cons_succ, i64_w, i32_w]
             rfl
            refine pure_ (i := 11) (N := some 8) (v := ?_) (a' := ?_) #[true, true, true, true, true, true, true, true, true, true, true, true] rfl rfl (any_of HT_.out (by kernel_rfl)) (fun _ _ _ h => h) (Or.inl ⟨by rfl, ?_⟩) ?_ ?_
            rotate_left
            ·intro w'
             go_simp
             with_reducible rfl
            rotate_left
            ·simp only [Act.put, List.setIfInBounds_toArray, List.set_cons_zero, List.set_cons_succ, i64_w, i32_w]
             rfl
            refine done_ (done_of HT_.out (by kernel_rfl)) ?_
            (go_wp2)
            go_roundg k1
            case measure => have := HK1.out; omega
            case rel => exact ⟨(t541), (y531), H', ⟨by have := HK1.out; omega⟩, ⟨by exact Kd.R_mono HO_2.out (fun _ hk => ⟨hk.2, hk.1.1.1.1.2⟩)⟩, ⟨by exact Kd.R_mono HO543.out (fun _ hk => ⟨hk.1.1.1.1.1.2, hk.1.1.1.2⟩)⟩, ⟨by exact Kd.R_mono HO_11.out (fun _ hk => ⟨hk.1.1.1.1.1, hk.2⟩)⟩, ⟨BK514.out⟩, ⟨by exact HB.out⟩⟩
           ·rw [if_neg c31] at H
            exact absurd H (by simp)
          ·rw [if_neg c30] at H
           exact absurd H (by simp)
         ·rw [if_neg c27] at H
          exact absurd H (by simp)
        ·rw [if_neg c26] at H
         exact absurd H (by simp)
       ·rw [if_neg c24] at H
        have c24b0 : decide (ji6 < (x8_1.length : Int)) = false := decide_eq_false c24
        clear c24
        obtain ⟨t526, A500, H⟩ := Option.bind_eq_some_iff.mp H
        replace H : (some (t526, x8_1)) = some (r1, r2) := H
        have A50 := Aside0.mk A500
        clear A500
        simp only [Option.some.injEq, Prod.mk.injEq] at H
        obtain ⟨rfl, rfl⟩ := H
        obtain ⟨Ao51, co51, eo51⟩ := Kd.R_slice HO_8.out
        subst eo51
        have hcz52_0 : wr.cell? ⟨gb514, 0, none⟩ = some (.int .i64 a0_0) := (blk_cell BK514.out 0).trans rfl
        have hcz52_1 : wr.cell? ⟨gb514, 1, none⟩ = some (.int .i64 a0_1) := (blk_cell BK514.out 1).trans rfl
        have hcz52_2 : wr.cell? ⟨gb514, 2, none⟩ = some (.slice A0_2 l0_2.length c0_2) := (blk_cell BK514.out 2).trans rfl
        have hfz52_0 := blk_frozen BK514.out 0
        have hfz52_1 := blk_frozen BK514.out 1
        have hfz52_2 := blk_frozen BK514.out 2
        obtain ⟨Ao53, co53, eo53⟩ := Kd.R_slice HO_11.out
        subst eo53
        go_wp2_with (((with_reducible refine gate_callee (f := 32) rfl ?_); refine goesL_ (some 70) rfl rfl Try.func32 (by kernel_rfl) rfl #[.agg #[.int .i64 a0_0, .int .i64 a0_1, .slice A0_2 l0_2.length c0_2], .slice Ao53 x11_1.length co53] rfl (by ((simp only [List.map_toArray, List.map_cons, List.map_nil])); (rfl)) ?_; (with_reducible refine (codewrightref05_Canon.calls k1 a0_0 a0_1 _ _ l0_2 _ _ x11_1 t526 _ ?side1 ?side2 ?side3 ?side4 A50.out).mono ?_); (case side1 => repeat ((exact (Kd.C_below HR0_2.out HB.out)))); (case side2 => exact HC0_2.out); (case side3 => repeat ((exact (Kd.R_reads' HO_11.out).2.2))); (case side4 => exact (Kd.R_reads' HO_11.out).2.1); rintro e w54 ⟨v527, rfl, ho0, hb⟩; refine ⟨_, rfl, ?_⟩; have n0_ := Aside0.mk (Kd.R_elder' HO_2.out (Kd.R_base ho0) hb); have n1_ := Aside0.mk (Kd.R_elder' HO_8.out (Kd.R_base ho0) hb); have n2_ := Aside0.mk (Kd.R_elder' HO_11.out (Kd.R_base ho0) hb); have n3_ := Aside0.mk (Kd.R_lower (Kd.R_new' (Kd.R_new' (Kd.R_new' ho0 (Kd.R_lt HO_2.out)) (Kd.R_lt HO_8.out)) (Kd.R_lt HO_11.out)) (below_size HB.out)); have n4_ := Aside0.mk (blk_below (g := gb514) (o := .cells #[.int .i64 a0_0, .int .i64 a0_1, .slice A0_2 l0_2.length c0_2] 24 (0, 0)) BK514.out hb); have n5_ := Aside0.mk (below_step HB.out hb); clear HO_2; clear HO_8; clear HO_11; clear BK514; clear HB; have HO_2 := n0_; have HO_8 := n1_; have HO_11 := n2_; have HO528 := n3_; have BK514 := n4_; have HB := n5_; clear n0_ n1_ n2_ n3_ n4_ n5_; ((clear hb)); (skip); (skip); (skip); ((clear ho0))))
        go_ret2
        exact ⟨_, _, by rfl, by exact Kd.R_mono HO528.out (fun _ hk => hk.1.2), by exact Kd.R_mono HO_8.out (fun _ hk => hk.2), by exact HB.out⟩
    ·rw [if_neg c12] at H
     exact absurd H (by simp)
   ·rw [if_neg c11] at H
    exact absurd H (by simp)
  ·rw [if_neg c8] at H
   exact absurd H (by simp)
 ·rw [if_neg c7] at H
  exact absurd H (by simp)
def codewrightref05_Rem.f (k : Nat) (a0_0 : Int) (a0_1 : Int) (l0_2 : List Int) (l1 : List Int) (l2 : List Int) : Option (List Int) := (codewrightref05_DivMod.f k a0_0 a0_1 l0_2 l1 l2).bind fun bt545 => (some bt545.2)
set_option maxHeartbeats 8000000 in
set_option maxRecDepth 100000 in
theorem codewrightref05_Rem.calls (k : Nat) (a0_0 : Int) (a0_1 : Int) (A0_2 : Option Addr) (c0_2 : Nat) (l0_2 : List Int) (A1 : Option Addr) (c1 : Nat) (l1 : List Int) (A2 : Option Addr) (c2 : Nat) (l2 : List Int) (r : List Int) (w : World) (hr0_2 : Kd.C (Kd.int .i64) w A0_2 l0_2.length l0_2) (hc0_2 : l0_2.length ≤ c0_2) (hr1 : Kd.C (Kd.int .i64) w A1 l1.length l1) (hc1 : l1.length ≤ c1) (hr2 : Kd.C (Kd.int .i64) w A2 l2.length l2) (hc2 : l2.length ≤ c2) (h : codewrightref05_Rem.f k a0_0 a0_1 l0_2 l1 l2 = some r) :
  Calls Try.prog 22 #[.agg #[.int .i64 a0_0, .int .i64 a0_1, .slice A0_2 l0_2.length c0_2], .slice A1 l1.length c1, .slice A2 l2.length c2] w fun e w' => ∃ v0_ : Value, e = .returned (v0_) ∧ Kd.R (Kd.int .i64) 3 w' w.heap.size (fun _ => True) v0_ r ∧ Below w.heap.size w w' := by
 have hu24 := Try.underlying24
 have HR0_2 := Aside0.mk hr0_2
 have HC0_2 := Aside0.mk hc0_2
 clear hr0_2 hc0_2
 have HR1 := Aside0.mk hr1
 have HC1 := Aside0.mk hc1
 clear hr1 hc1
 have HR2 := Aside0.mk hr2
 have HC2 := Aside0.mk hc2
 clear hr2 hc2
 have HB := Aside0.mk (Below.refl w.heap.size w)
 have H : ((codewrightref05_DivMod.f k a0_0 a0_1 l0_2 l1 l2).bind fun bt545 => (some bt545.2)) = some r := h
 clear h
 replace H := Option.bind_eq_some_iff.mp H
 obtain ⟨⟨t545, t548⟩, A40, H⟩ := H
 replace H : (some t548) = some r := H
 have A4 := Aside0.mk A40
 clear A40
 obtain rfl := Option.some.inj H
 go_enter Try.func22, Try.ntmps22
 go_wp2_with (first | ((with_reducible refine gate_dst (N := 3) rfl ?_); refine box_event ?hg (N := 3) ?hd (cs := #[.int .i64 a0_0, .int .i64 a0_1, .slice A0_2 l0_2.length c0_2]) (t := 24) ?hr ?_; (case hd => rfl); (case hg => rfl); (case hr => (go_simp; done)); intro gb544 hg w5 hbox hb; have n0_ := Aside0.mk (below_step HB.out hb); have n1_ := Aside0.mk (hbox); have n2_ := Aside0.mk ((by rw [hg]; exact (below_size HB.out) : w.heap.size ≤ gb544)); have n3_ := Aside0.mk ((by rw [hg]; exact (below_size HB.out) : w.heap.size ≤ gb544)); clear HB; have HB := n0_; have BK544 := n1_; have GW544 := n2_; have GE544 := n3_; clear n0_ n1_ n2_ n3_; clear hb hbox hg; have hcz6_0 : w5.cell? ⟨gb544, 0, none⟩ = some (.int .i64 a0_0) := (blk_cell BK544.out 0).trans rfl; have hcz6_1 : w5.cell? ⟨gb544, 1, none⟩ = some (.int .i64 a0_1) := (blk_cell BK544.out 1).trans rfl; have hcz6_2 : w5.cell? ⟨gb544, 2, none⟩ = some (.slice A0_2 l0_2.length c0_2) := (blk_cell BK544.out 2).trans rfl; have hfz6_0 := blk_frozen BK544.out 0; have hfz6_1 := blk_frozen BK544.out 1; have hfz6_2 := blk_frozen BK544.out 2) | ((with_reducible refine gate_callee (f := 47) rfl ?_); refine goesL_ (some 13) rfl rfl Try.func47 (by kernel_rfl) rfl #[.agg #[.int .i64 a0_0, .int .i64 a0_1, .slice A0_2 l0_2.length c0_2], .slice A1 l1.length c1, .slice A2 l2.length c2] rfl (by ((simp only [List.map_toArray, List.map_cons, List.map_nil])); (rfl)) ?_; (with_reducible refine (codewrightref05_DivMod.calls k a0_0 a0_1 _ _ l0_2 _ _ l1 _ _ l2 t545 t548 _ ?side1 ?side2 ?side3 ?side4 ?side5 ?side6 A4.out).mono ?_); (case side1 => repeat ((exact (Kd.C_below HR0_2.out HB.out)))); (case side2 => exact HC0_2.out); (case side3 => repeat ((exact (Kd.C_below HR1.out HB.out)))); (case side4 => exact HC1.out); (case side5 => repeat ((exact (Kd.C_below HR2.out HB.out)))); (case side6 => exact HC2.out); rintro e w7 ⟨v546, v549, rfl, ho0, ho1, hb⟩; refine ⟨_, rfl, ?_⟩; have n0_ := Aside0.mk (Kd.R_lower ho0 (below_size HB.out)); have n1_ := Aside0.mk (Kd.R_lower ho1 (below_size HB.out)); have n2_ := Aside0.mk (blk_below (g := gb544) (o := .cells #[.int .i64 a0_0, .int .i64 a0_1, .slice A0_2 l0_2.length c0_2] 24 (0, 0)) BK544.out hb); have n3_ := Aside0.mk (below_step HB.out hb); clear BK544; clear HB; have HO547 := n0_; have HO550 := n1_; have BK544 := n2_; have HB := n3_; clear n0_ n1_ n2_ n3_; ((clear hb)); (skip); (skip); (skip); ((clear ho0)); ((clear ho1))))
 go_ret
 exact ⟨_, by rfl, by exact Kd.R_mono HO550.out (fun _ hk => trivial), by exact HB.out⟩
end Go.Proofs.Ytiejggpmjapajaa.PA
end
section
namespace Go.Proofs.Ytiejggpmjapajaa.PA
open Go.RowKit Go.Proofs.YtiejggpmjapajaaW.PrintWords Go.Proofs.YtiejggpmjapajaaW.PrintLast Go.Proofs.YtiejggpmjapajaaW.PrintMore
attribute [local go_sem] max2_int min2_int max_two min_two max_three min_three max_four min_four
set_option linter.unusedVariables false
set_option linter.unusedSimpArgs false
def codewrightlaw05_short.l0 : Nat → List (List Int) → Int → Int → Option (Bool)
 | 0, _, _, _ => none
 | k + 1, x5, x6, x7 => if x7 < x6 then (if 0 ≤ x7 then (if x7 < (x5.length : Int) then (if ((rd_L2 x5 x7).length : Int) > 24 then (some false) else (codewrightlaw05_short.l0 k x5 x6 (wrap64 (x7 + 1)))) else (none)) else (none)) else (some true)
def codewrightlaw05_short.f (k : Nat) (l0 : List (List Int)) : Option (Bool) := codewrightlaw05_short.l0 k l0 (l0.length : Int) 0
set_option maxHeartbeats 8000000 in
set_option maxRecDepth 100000 in
theorem codewrightlaw05_short.calls (k : Nat) (A0 : Option Addr) (c0 : Nat) (l0 : List (List Int)) (r : Bool) (w : World) (hr0 : Kd.C (Kd.slice 3 (Kd.int .i64)) w A0 l0.length l0) (hc0 : l0.length ≤ c0) (h : codewrightlaw05_short.f k l0 = some r) :
  Calls Try.prog 16 #[.slice A0 l0.length c0] w fun e w' => e = .returned (.bool r) ∧ Drawn0 w w' := by
 have HR0 := Aside0.mk hr0
 have HC0 := Aside0.mk hc0
 clear hr0 hc0
 have H : (codewrightlaw05_short.l0 k l0 (l0.length : Int) 0) = some r := h
 clear h
 have H' := Aside0.mk H
 clear H
 go_enter Try.func16, Try.ntmps16
 go_wp2
 go_loopg [7] k (fun kq v7 w' => ∃ (x7_1 : Int), v7 = .int .i64 x7_1 ∧ Aside0 (codewrightlaw05_short.l0 kq l0 (l0.length : Int) x7_1 = some r) ∧ Aside0 (kq ≤ k) ∧ Drawn0 w w')
 case atStart => exact ⟨(0), (by rfl), H', ⟨Nat.le_refl _⟩, by repeat ((exact Drawn0.refl _))⟩
 case round =>
  clear H'
  obtain ⟨x7_1, rfl, HA, HK1, ⟨m1, rfl⟩⟩ := hrel
  cases gk with
  | zero => exact absurd HA.out (by simp [codewrightlaw05_short.l0])
  | succ k1 =>
   have H := HA.out
   clear HA
   simp only [codewrightlaw05_short.l0] at H
   by_cases c2 : x7_1 < (l0.length : Int)
   ·rw [if_pos c2] at H
    have c2b0 : decide (x7_1 < (l0.length : Int)) = true := decide_eq_true c2
    clear c2
    by_cases c3 : 0 ≤ x7_1
    ·rw [if_pos c3] at H
     have c3b0 : decide (0 ≤ x7_1) = true := decide_eq_true c3
     clear c3
     by_cases c4 : x7_1 < (l0.length : Int)
     ·rw [if_pos c4] at H
      have c4b0 : decide (x7_1 < (l0.length : Int)) = true := decide_eq_true c4
      clear c4
      by_cases c5 : ((rd_L2 l0 x7_1).length : Int) > 24
      ·rw [if_pos c5] at H
       have c5b0 : decide (24 < ((rd_L2 l0 x7_1).length : Int)) = true := decide_eq_true c5
       have c5b1 : decide (24 < (rd_L2 l0 x7_1).length) = true := decide_eq_true (by omega)
       clear c5
       obtain rfl := Option.some.inj H
       have p579 : 0 ≤ (x7_1 : Int) := of_decide_eq_true (by (with_reducible assumption))
       have q579 : x7_1 < (l0.length : Int) := of_decide_eq_true (by (with_reducible assumption))
       obtain ⟨ad579, A579_0, c579_0, e579, hx579_0, hl579_0, hi579_0⟩ := at_L2 HR0.out x7_1 p579 q579
       cases e579
       have HR579_0 := Aside0.mk hi579_0
       have HC579_0 := Aside0.mk hl579_0
       clear hi579_0 hl579_0
       replace p579 := eq_true p579
       replace q579 := eq_true q579
       go_wp2
       go_ret
       exact ⟨by rfl, by repeat (first | (exact Drawn0.refl _) | (apply Drawn0.step))⟩
      ·rw [if_neg c5] at H
       have c5b0 : decide (24 < ((rd_L2 l0 x7_1).length : Int)) = false := decide_eq_false c5
       have c5b1 : decide (24 < (rd_L2 l0 x7_1).length) = false := decide_eq_false (by omega)
       clear c5
       have H' := Aside0.mk H
       clear H
       have p579 : 0 ≤ (x7_1 : Int) := of_decide_eq_true (by (with_reducible assumption))
       have q579 : x7_1 < (l0.length : Int) := of_decide_eq_true (by (with_reducible assumption))
       obtain ⟨ad579, A579_0, c579_0, e579, hx579_0, hl579_0, hi579_0⟩ := at_L2 HR0.out x7_1 p579 q579
       cases e579
       have HR579_0 := Aside0.mk hi579_0
       have HC579_0 := Aside0.mk hl579_0
       clear hi579_0 hl579_0
       replace p579 := eq_true p579
       replace q579 := eq_true q579
       go_wp2
       go_roundg k1
       case measure => have := HK1.out; omega
       case rel => exact ⟨(wrap64 (x7_1 + 1)), (by rfl), H', ⟨by have := HK1.out; omega⟩, by repeat (first | (exact Drawn0.refl _) | (apply Drawn0.step))⟩
     ·rw [if_neg c4] at H
      exact absurd H (by simp)
    ·rw [if_neg c3] at H
     exact absurd H (by simp)
   ·rw [if_neg c2] at H
    have c2b0 : decide (x7_1 < (l0.length : Int)) = false := decide_eq_false c2
    clear c2
    obtain rfl := Option.some.inj H
    go_wp2
    go_ret
    exact ⟨by rfl, by repeat (first | (exact Drawn0.refl _) | (apply Drawn0.step))⟩
end Go.Proofs.Ytiejggpmjapajaa.PA
end
section
namespace Go.Proofs.Ytiejggpmjapajaa.PA
open Go.RowKit Go.Proofs.YtiejggpmjapajaaW.PrintWords Go.Proofs.YtiejggpmjapajaaW.PrintLast Go.Proofs.YtiejggpmjapajaaW.PrintMore
attribute [local go_sem] max2_int min2_int max_two min_two max_three min_three max_four min_four
set_option linter.unusedVariables false
set_option linter.unusedSimpArgs false
end Go.Proofs.Ytiejggpmjapajaa.PA
end
section
namespace Go.Proofs.Ytiejggpmjapajaa.PA
open Go.RowKit Go.Proofs.YtiejggpmjapajaaW.PrintWords Go.Proofs.YtiejggpmjapajaaW.PrintLast Go.Proofs.YtiejggpmjapajaaW.PrintMore
attribute [local go_sem] max2_int min2_int max_two min_two max_three min_three max_four min_four
set_option linter.unusedVariables false
set_option linter.unusedSimpArgs false
def field_GF_Scale.l0 : Nat → Int → List Int → List Int → Int → Int → Int → Int → List Int → Int → List Int → List Int → Option (List Int × Int × Int × Int)
 | 0, _, _, _, _, _, _, _, _, _, _, _ => none
 | k + 1, x1, x7, x13, x14, x15, x1000, x1001, x1002, x1003, x1004, x1005 => if x15 < x14 then (if 0 ≤ x15 then (if x15 < (x13.length : Int) then ((field_GF_Mul.f x1000 x1001 x1002 x1003 x1004 x1005 x1 (rd x13 x15)).bind fun bt636 => (if x15 < (x7.length : Int) then (field_GF_Scale.l0 k x1 (x7.set (x15 : Int).toNat bt636.1) x13 x14 (wrap64 (x15 + 1)) bt636.2.1 bt636.2.2.1 x1002 bt636.2.2.2 x1004 x1005) else (none))) else (none)) else (none)) else (some (x7, x1000, x1001, x1003))
def field_GF_Scale.f (k : Nat) (s0_0 : Int) (s0_1 : Int) (s0_2 : List Int) (s0_3 : Int) (s0_4 : List Int) (s0_5 : List Int) (a1 : Int) (l2 : List Int) : Option (List Int × Int × Int × Int) := if 0 ≤ (l2.length : Int) then (if ((l2.length : Int) : Int).toNat ≤ 35184372088832 then (field_GF_Scale.l0 k a1 (List.replicate ((l2.length : Int) : Int).toNat 0) l2 (l2.length : Int) 0 s0_0 s0_1 s0_2 s0_3 s0_4 s0_5) else (none)) else (none)
set_option maxHeartbeats 8000000 in
set_option maxRecDepth 100000 in
theorem field_GF_Scale.calls (k : Nat) (g : Nat) (s0_0 : Int) (s0_1 : Int) (s0_2 : List Int) (s0_3 : Int) (s0_4 : List Int) (s0_5 : List Int) (a1 : Int) (A2 : Option Addr) (c2 : Nat) (l2 : List Int) (r1 : List Int) (r2 : Int) (r3 : Int) (r4 : Int) (w0 w : World) (hI : IsS85 w0 w g s0_0 s0_1 s0_2 s0_3 s0_4 s0_5) (hB : Below w0.heap.size w0 w) (hr2 : Kd.C (Kd.int .i64) w A2 l2.length l2) (hc2 : l2.length ≤ c2) (hf2 : ∀ ad, A2 = some ad → 0 < l2.length → ad.block ≠ g) (h : field_GF_Scale.f k s0_0 s0_1 s0_2 s0_3 s0_4 s0_5 a1 l2 = some (r1, r2, r3, r4)) :
  Calls Try.prog 74 #[.pointer (some ⟨g, 0, none⟩), .int .i64 a1, .slice A2 l2.length c2] w fun e w' => ∃ v0_ : Value, e = .returned (v0_) ∧ Kd.R (Kd.int .i64) 3 w' w.heap.size (fun _ => True) v0_ r1 ∧ IsS85 w0 w' g r2 r3 s0_2 r4 s0_4 s0_5 ∧ Below w0.heap.size w0 w' ∧ KeepBut w w' g none := by
 have HR2 := Aside0.mk hr2
 have HC2 := Aside0.mk hc2
 clear hr2 hc2
 have HI0 := Aside0.mk hI
 have HK := Aside0.mk (KeepBut.refl w g none)
 have HL := Aside0.mk hB.size
 clear hI
 have HW0 := Aside0.mk hB.size
 have HB := Aside0.mk hB
 clear hB
 have H : (if 0 ≤ (l2.length : Int) then (if ((l2.length : Int) : Int).toNat ≤ 35184372088832 then (field_GF_Scale.l0 k a1 (List.replicate ((l2.length : Int) : Int).toNat 0) l2 (l2.length : Int) 0 s0_0 s0_1 s0_2 s0_3 s0_4 s0_5) else (none)) else (none)) = some (r1, r2, r3, r4) := h
 clear h
 by_cases c4 : 0 ≤ (l2.length : Int)
 ·rw [if_pos c4] at H
  have c4b0 := eq_true c4
  have c4b1 : decide (0 ≤ (l2.length : Int)) = true := decide_eq_true c4
  clear c4
  by_cases c5 : ((l2.length : Int) : Int).toNat ≤ 35184372088832
  ·rw [if_pos c5] at H
   have c5b0 := eq_true c5
   have c5b1 : decide (((l2.length : Int) : Int).toNat ≤ 35184372088832) = true := decide_eq_true c5
   clear c5
   obtain ⟨y632, hy632⟩ : ∃ y_ : List Int, y_ = (List.replicate ((l2.length : Int) : Int).toNat 0) := ⟨_, rfl⟩
   replace H : (field_GF_Scale.l0 k a1 y632 l2 (l2.length : Int) 0 s0_0 s0_1 s0_2 s0_3 s0_4 s0_5) = some (r1, r2, r3, r4) := by (rw [hy632]; with_reducible exact H)
   have Ny632 := Aside0.mk hy632
   clear hy632
   have H' := Aside0.mk H
   clear H
   go_enter Try.func74, Try.ntmps74
   go_wp2_with (((with_reducible refine gate_dst (N := 12) rfl ?_); refine Kd.R_make (Kd.int .i64) _ 3 rfl (N := 12) rfl 22 _ _ rfl (l2.length : Int) rfl rfl Try.underlying22 (.int .i64 0) 8 info3 rfl (by decide) (by omega) 0 (ok := fun _ => True) (okp := fun _ => True) rfl (fun _ hk => hk) trivial (of_decide_eq_true (by (with_reducible assumption))) (Nat.le_trans (Nat.mul_le_mul_right _ (of_decide_eq_true (by (with_reducible assumption)) : (l2.length : Int).toNat ≤ 35184372088832)) (by omega)) (Below.refl _ _) (Nat.le_refl _) ?_; intro v633 w6 ho7 hb hg_ hnew_; clear hg_ hnew_; ((rw [← Ny632.out] at ho7)); have n0_ := Aside0.mk (Kd.R_lower ho7 (keep_size (w := w) (g := g) (row := none) HK.out)); have n1_ := Aside0.mk (IsS85.below HI0.out hb); have n2_ := Aside0.mk (KeepBut.trans HK.out (KeepBut.of_below hb g none) (.inl rfl)); have n3_ := Aside0.mk (below_step HB.out hb); clear HI0; clear HK; clear HB; have HO634 := n0_; have HI0 := n1_; have HK := n2_; have HB := n3_; clear n0_ n1_ n2_ n3_; clear hb ho7))
   go_loopg [15] k (fun kq v15 w' => ∃ (x7_1 : List Int) (x15_1 : Int) (x1000_1 : Int) (x1001_1 : Int) (x1003_1 : Int), v15 = .int .i64 x15_1 ∧ Aside0 (field_GF_Scale.l0 kq a1 x7_1 l2 (l2.length : Int) x15_1 x1000_1 x1001_1 s0_2 x1003_1 s0_4 s0_5 = some (r1, r2, r3, r4)) ∧ Aside0 (kq ≤ k) ∧ Aside0 (Kd.R (Kd.int .i64) 3 w' w.heap.size (fun _ => True) v633 x7_1) ∧ Aside0 (IsS85 w0 w' g x1000_1 x1001_1 s0_2 x1003_1 s0_4 s0_5) ∧ Aside0 (KeepBut w w' g none) ∧ Aside0 (Below w0.heap.size w0 w'))
   case atStart => exact ⟨(y632), (0), (s0_0), (s0_1), (s0_3), (by rfl), H', ⟨Nat.le_refl _⟩, ⟨HO634.out⟩, ⟨by exact HI0.out⟩, ⟨by exact HK.out⟩, ⟨by exact HB.out⟩⟩
   case round =>
    clear H' c4b0 c4b1 c5b0 c5b1
    obtain ⟨x7_1, x15_1, x1000_1, x1001_1, x1003_1, rfl, HA, HK1, HO_7, HI0, HK, HB⟩ := hrel
    cases gk with
    | zero => exact absurd HA.out (by simp [field_GF_Scale.l0])
    | succ k1 =>
     have H := HA.out
     clear HA
     simp only [field_GF_Scale.l0] at H
     by_cases c8 : x15_1 < (l2.length : Int)
     ·rw [if_pos c8] at H
      have c8b0 : decide (x15_1 < (l2.length : Int)) = true := decide_eq_true c8
      clear c8
      by_cases c9 : 0 ≤ x15_1
      ·rw [if_pos c9] at H
       have c9b0 : decide (0 ≤ x15_1) = true := decide_eq_true c9
       clear c9
       by_cases c10 : x15_1 < (l2.length : Int)
       ·rw [if_pos c10] at H
        have c10b0 : decide (x15_1 < (l2.length : Int)) = true := decide_eq_true c10
        clear c10
        replace H := Option.bind_eq_some_iff.mp H
        obtain ⟨⟨t636, t637, t638, t639⟩, A110, H⟩ := H
        replace H : (if x15_1 < (x7_1.length : Int) then (field_GF_Scale.l0 k1 a1 (x7_1.set (x15_1 : Int).toNat t636) l2 (l2.length : Int) (wrap64 (x15_1 + 1)) t637 t638 s0_2 t639 s0_4 s0_5) else (none)) = some (r1, r2, r3, r4) := H
        have A11 := Aside0.mk A110
        clear A110
        by_cases c12 : x15_1 < (x7_1.length : Int)
        ·rw [if_pos c12] at H
         have c12b0 : decide (x15_1 < (x7_1.length : Int)) = true := decide_eq_true c12
         clear c12
         obtain ⟨y640, hy640⟩ : ∃ y_ : List Int, y_ = (x7_1.set (x15_1 : Int).toNat t636) := ⟨_, rfl⟩
         replace H : (field_GF_Scale.l0 k1 a1 y640 l2 (l2.length : Int) (wrap64 (x15_1 + 1)) t637 t638 s0_2 t639 s0_4 s0_5) = some (r1, r2, r3, r4) := by (rw [hy640]; with_reducible exact H)
         have Ny640 := Aside0.mk hy640
         clear hy640
         have H' := Aside0.mk H
         clear H
         have p635 : 0 ≤ (x15_1 : Int) := of_decide_eq_true (by (with_reducible assumption))
         have q635 : x15_1 < (l2.length : Int) := of_decide_eq_true (by (with_reducible assumption))
         obtain ⟨ad635, e635, hx635_0⟩ := Kd.at_int HR2.out x15_1 p635 q635
         cases e635
         replace hx635_0 := keep_cell HK.out hx635_0 (by (rw [add_block]; exact hf2 _ rfl (by omega)))
         replace p635 := eq_true p635
         replace q635 := eq_true q635
         go_wp2_with (first | ((with_reducible refine gate_callee (f := 49) rfl ?_); refine goesL_ (some 25) rfl rfl Try.func49 (by kernel_rfl) rfl #[.pointer (some ⟨g, 0, none⟩), .int .i64 a1, .int .i64 (rd l2 x15_1)] rfl (by ((simp only [List.map_toArray, List.map_cons, List.map_nil])); (rfl)) ?_; (with_reducible refine (field_GF_Mul.calls g x1000_1 x1001_1 s0_2 x1003_1 s0_4 s0_5 a1 (rd l2 x15_1) t636 t637 t638 t639 w0 _ ?side1 ?side2 A11.out).mono ?_); (case side1 => repeat ((with_reducible (exact HI0.out)))); (case side2 => repeat ((with_reducible (exact HB.out)))); rintro e w14 ⟨rfl, hi, hb, hk⟩; refine ⟨_, rfl, ?_⟩; have n0_ := Aside0.mk (Kd.R_mono (Kd.R_keep (IsS85.apart (show IsS85 w0 _ g x1000_1 x1001_1 s0_2 x1003_1 s0_4 s0_5 from by exact HI0.out) HO_7.out (by decide)) hk (fun _ h => h.2)) (fun _ h => h.1)); have n1_ := Aside0.mk (KeepBut.trans HK.out hk (.inl rfl)); have n2_ := Aside0.mk (hb); have n3_ := Aside0.mk (hi); clear HO_7; clear HK; clear HB; clear HI0; have HO_7 := n0_; have HK := n1_; have HB := n2_; have HI0 := n3_; clear n0_ n1_ n2_ n3_; ((clear hb)); (skip); ((clear hk)); ((clear hi)); have p13 : 0 ≤ (x15_1 : Int) := of_decide_eq_true (by (with_reducible assumption)); have q13 : (x15_1 : Int) < ((x7_1.length : Int) : Int) := of_decide_eq_true (by (with_reducible assumption)); obtain ⟨go13, co13, eo13, gb13, gl13, cl13, HG13⟩ := Kd.R_form HO_7.out (by omega); ((cases eo13)); have GB13 := Aside0.mk gb13; have GG13 := Aside0.mk HG13; clear gb13 gl13 HG13; obtain ⟨hx13_0, hf13_0⟩ := Kd.R_celln 0 HO_7.out (x15_1 : Int) p13 q13; replace p13 := eq_true p13; replace q13 := eq_true q13; obtain ⟨hy15_, hz15_⟩ := Kd.R_celln 0 HO_7.out (x15_1 : Int) (of_decide_eq_true (by (with_reducible assumption))) (of_decide_eq_true (by (with_reducible assumption))); have HP15 := Kd.R_putg HO_7.out (x15_1 : Int) t636) | ((with_reducible refine gate_store (t := 3) (p := 26) rfl ?_); refine store_event (t := 3) (p := 26) (v := ?vo_w16) (w1 := (w14.setCell ⟨go13, (x15_1 : Int).toNat, none⟩ (.int .i64 t636))) ?hg ?ho ?hn ?hr ?_; (case ho => rfl); (case hg => rfl); (case hn => rfl); (case hr => (go_simp; done)); intro w16 hw; have hg : w14.grownBy w16 (some go13) := (by rw [hw]; exact HP15.2); have hp_ : Kd.R (Kd.int .i64) 3 w16 w.heap.size (fun _ => True) (.slice (some ⟨go13, 0, none⟩) x7_1.length co13) y640 := (by rw [hw, Ny640.out]; exact HP15.1); clear HP15; have n0_ := Aside0.mk (hp_); have n1_ := Aside0.mk (IsS85.grown HI0.out hg (IsS85.own_ne HI0.out HO_7.out (by decide))); have n2_ := Aside0.mk ((by rw [hw]; exact below_set (HB.out) (Nat.le_trans HL.out GB13.out) : Below w0.heap.size w0 w16)); have n3_ := Aside0.mk (KeepBut.trans HK.out (KeepBut.of_grown hg g) (Kd.R_base2 HO_7.out)); clear HO_7; clear HI0; clear HB; clear HK; have HO_7 := n0_; have HI0 := n1_; have HB := n2_; have HK := n3_; clear n0_ n1_ n2_ n3_; clear hg hw hp_))
         go_roundg k1
         case measure => have := HK1.out; omega
         case rel => exact ⟨(y640), (wrap64 (x15_1 + 1)), (t637), (t638), (t639), (by rfl), H', ⟨by have := HK1.out; omega⟩, ⟨HO_7.out⟩, ⟨by exact HI0.out⟩, ⟨by exact HK.out⟩, ⟨by exact HB.out⟩⟩
        ·rw [if_neg c12] at H
         exact absurd H (by simp)
       ·rw [if_neg c10] at H
        exact absurd H (by simp)
      ·rw [if_neg c9] at H
       exact absurd H (by simp)
     ·rw [if_neg c8] at H
      have c8b0 : decide (x15_1 < (l2.length : Int)) = false := decide_eq_false c8
      clear c8
      simp only [Option.some.injEq, Prod.mk.injEq] at H
      obtain ⟨rfl, rfl, rfl, rfl⟩ := H
      go_wp2
      go_ret
      exact ⟨_, by rfl, by exact HO_7.out, by exact HI0.out, by exact HB.out, by exact HK.out⟩
  ·rw [if_neg c5] at H
   exact absurd H (by simp)
 ·rw [if_neg c4] at H
  exact absurd H (by simp)
def poly_Monic.f (k : Nat) (s0_0 : Int) (s0_1 : Int) (s0_2 : List Int) (s0_3 : Int) (s0_4 : List Int) (s0_5 : List Int) (l1 : List Int) : Option (List Int × Int × Int × Int × Int) := (poly_Canon.f k s0_0 s0_1 s0_2 s0_3 s0_4 s0_5 l1).bind fun bt641 => (if (bt641.1.length : Int) = 0 then (some (([] : List Int), 7, bt641.2.1, bt641.2.2.1, bt641.2.2.2)) else (if 0 ≤ (wrap64 ((bt641.1.length : Int) - 1)) then (if (wrap64 ((bt641.1.length : Int) - 1)) < (bt641.1.length : Int) then ((field_GF_Inv.f bt641.2.1 bt641.2.2.1 s0_2 bt641.2.2.2 s0_4 s0_5 (rd bt641.1 (wrap64 ((bt641.1.length : Int) - 1)))).bind fun bt648 => ((field_GF_Scale.f k bt648.2.2.1 bt648.2.2.2.1 s0_2 bt648.2.2.2.2 s0_4 s0_5 bt648.1 bt641.1).bind fun bt653 => (some (bt653.1, 0, bt653.2.1, bt653.2.2.1, bt653.2.2.2)))) else (none)) else (none)))
set_option maxHeartbeats 8000000 in
set_option maxRecDepth 100000 in
theorem poly_Monic.calls (k : Nat) (g : Nat) (s0_0 : Int) (s0_1 : Int) (s0_2 : List Int) (s0_3 : Int) (s0_4 : List Int) (s0_5 : List Int) (A1 : Option Addr) (c1 : Nat) (l1 : List Int) (r1 : List Int) (r2 : Int) (r3 : Int) (r4 : Int) (r5 : Int) (w0 w : World) (hI : IsS85 w0 w g s0_0 s0_1 s0_2 s0_3 s0_4 s0_5) (hB : Below w0.heap.size w0 w) (hr1 : Kd.C (Kd.int .i64) w A1 l1.length l1) (hc1 : l1.length ≤ c1) (hf1 : ∀ ad, A1 = some ad → 0 < l1.length → ad.block ≠ g) (h : poly_Monic.f k s0_0 s0_1 s0_2 s0_3 s0_4 s0_5 l1 = some (r1, r2, r3, r4, r5)) :
  Calls Try.prog 45 #[.pointer (some ⟨g, 0, none⟩), .slice A1 l1.length c1] w fun e w' => ∃ v0_ : Value, e = .returned (.tuple #[v0_, .int .i64 r2]) ∧ Kd.R (Kd.int .i64) 3 w' w.heap.size (fun _ => True) v0_ r1 ∧ IsS85 w0 w' g r3 r4 s0_2 r5 s0_4 s0_5 ∧ Below w0.heap.size w0 w' ∧ KeepBut w w' g none := by
 have HR1 := Aside0.mk hr1
 have HC1 := Aside0.mk hc1
 clear hr1 hc1
 have HI0 := Aside0.mk hI
 have HK := Aside0.mk (KeepBut.refl w g none)
 have HL := Aside0.mk hB.size
 clear hI
 have HW0 := Aside0.mk hB.size
 have HB := Aside0.mk hB
 clear hB
 have H : ((poly_Canon.f k s0_0 s0_1 s0_2 s0_3 s0_4 s0_5 l1).bind fun bt641 => (if (bt641.1.length : Int) = 0 then (some (([] : List Int), 7, bt641.2.1, bt641.2.2.1, bt641.2.2.2)) else (if 0 ≤ (wrap64 ((bt641.1.length : Int) - 1)) then (if (wrap64 ((bt641.1.length : Int) - 1)) < (bt641.1.length : Int) then ((field_GF_Inv.f bt641.2.1 bt641.2.2.1 s0_2 bt641.2.2.2 s0_4 s0_5 (rd bt641.1 (wrap64 ((bt641.1.length : Int) - 1)))).bind fun bt648 => ((field_GF_Scale.f k bt648.2.2.1 bt648.2.2.2.1 s0_2 bt648.2.2.2.2 s0_4 s0_5 bt648.1 bt641.1).bind fun bt653 => (some (bt653.1, 0, bt653.2.1, bt653.2.2.1, bt653.2.2.2)))) else (none)) else (none)))) = some (r1, r2, r3, r4, r5) := h
 clear h
 replace H := Option.bind_eq_some_iff.mp H
 obtain ⟨⟨t641, t644, t645, t646⟩, A30, H⟩ := H
 replace H : (if (t641.length : Int) = 0 then (some (([] : List Int), 7, t644, t645, t646)) else (if 0 ≤ (wrap64 ((t641.length : Int) - 1)) then (if (wrap64 ((t641.length : Int) - 1)) < (t641.length : Int) then ((field_GF_Inv.f t644 t645 s0_2 t646 s0_4 s0_5 (rd t641 (wrap64 ((t641.length : Int) - 1)))).bind fun bt648 => ((field_GF_Scale.f k bt648.2.2.1 bt648.2.2.2.1 s0_2 bt648.2.2.2.2 s0_4 s0_5 bt648.1 t641).bind fun bt653 => (some (bt653.1, 0, bt653.2.1, bt653.2.2.1, bt653.2.2.2)))) else (none)) else (none))) = some (r1, r2, r3, r4, r5) := H
 have A3 := Aside0.mk A30
 clear A30
 by_cases c4 : (t641.length : Int) = 0
 ·rw [if_pos c4] at H
  have c4b0 : ((t641.length : Int) == 0) = true := beq_iff_eq.mpr c4
  have c4b1 : ((t641.length : Int) != 0) = false := bne_eq_false_iff_eq.mpr c4
  clear c4
  simp only [Option.some.injEq, Prod.mk.injEq] at H
  obtain ⟨rfl, rfl, rfl, rfl, rfl⟩ := H
  go_enter Try.func45, Try.ntmps45
  go_wp2_with (((with_reducible refine gate_callee (f := 40) rfl ?_); refine goesL_ (some 11) rfl rfl Try.func40 (by kernel_rfl) rfl #[.pointer (some ⟨g, 0, none⟩), .slice A1 l1.length c1] rfl (by ((simp only [List.map_toArray, List.map_cons, List.map_nil])); (rfl)) ?_; (with_reducible refine (poly_Canon.calls k g s0_0 s0_1 s0_2 s0_3 s0_4 s0_5 _ _ l1 t641 t644 t645 t646 w0 _ ?side1 ?side2 ?side3 ?side4 ?side5 A3.out).mono ?_); (case side1 => repeat ((with_reducible (exact HI0.out)))); (case side2 => repeat ((with_reducible (exact HB.out)))); (case side3 => exact Kd.C_keep 0 HR1.out HK.out hf1); (case side4 => exact HC1.out); (case side5 => exact hf1); rintro e w5 ⟨v642, rfl, ho0, hi, hb, hk⟩; refine ⟨_, rfl, ?_⟩; have n0_ := Aside0.mk (Kd.R_lower ho0 (keep_size (w := w) (g := g) (row := none) HK.out)); have n1_ := Aside0.mk (KeepBut.trans HK.out hk (.inl rfl)); have n2_ := Aside0.mk (hb); have n3_ := Aside0.mk (hi); clear HK; clear HB; clear HI0; have HO643 := n0_; have HK := n1_; have HB := n2_; have HI0 := n3_; clear n0_ n1_ n2_ n3_; ((clear hb)); (skip); ((clear hk)); ((clear hi)); ((clear ho0)); obtain ⟨Ao6, co6, eo6⟩ := Kd.R_slice HO643.out; subst eo6))
  go_ret2
  exact ⟨_, by rfl, by (exact Kd.R_nil _ _ _ _ _), by exact HI0.out, by exact HB.out, by exact HK.out⟩
 ·rw [if_neg c4] at H
  have c4b0 : ((t641.length : Int) == 0) = false := beq_eq_false_iff_ne.mpr c4
  have c4b1 : ((t641.length : Int) != 0) = true := bne_iff_ne.mpr c4
  have c4b2 : ¬ (t641 = []) := fun h_ => c4 (by rw [h_]; rfl)
  obtain ⟨ji7, hji7⟩ : ∃ j_ : Int, (wrap64 ((t641.length : Int) - 1)) = j_ := ⟨_, rfl⟩
  replace H : (if 0 ≤ (ji7) then (if (ji7) < (t641.length : Int) then ((field_GF_Inv.f t644 t645 s0_2 t646 s0_4 s0_5 (rd t641 (ji7))).bind fun bt648 => ((field_GF_Scale.f k bt648.2.2.1 bt648.2.2.2.1 s0_2 bt648.2.2.2.2 s0_4 s0_5 bt648.1 t641).bind fun bt653 => (some (bt653.1, 0, bt653.2.1, bt653.2.2.1, bt653.2.2.2)))) else (none)) else (none)) = some (r1, r2, r3, r4, r5) := by (rw [hji7] at H; exact H)
  have hji7w : (IntKind.i64.wrap ((t641.length : Int) - 1)) = ji7 := (i64_w _).trans hji7
  by_cases c8 : 0 ≤ (ji7)
  ·rw [if_pos c8] at H
   have c8b0 : decide (0 ≤ (ji7)) = true := decide_eq_true c8
   clear c8
   by_cases c9 : (ji7) < (t641.length : Int)
   ·rw [if_pos c9] at H
    have c9b0 : decide ((ji7) < (t641.length : Int)) = true := decide_eq_true c9
    clear c9
    replace H := Option.bind_eq_some_iff.mp H
    obtain ⟨⟨t648, t649, t650, t651, t652⟩, A100, H⟩ := H
    replace H : ((field_GF_Scale.f k t650 t651 s0_2 t652 s0_4 s0_5 t648 t641).bind fun bt653 => (some (bt653.1, 0, bt653.2.1, bt653.2.2.1, bt653.2.2.2))) = some (r1, r2, r3, r4, r5) := H
    have A10 := Aside0.mk A100
    clear A100
    replace H := Option.bind_eq_some_iff.mp H
    obtain ⟨⟨t653, t656, t657, t658⟩, A110, H⟩ := H
    replace H : (some (t653, 0, t656, t657, t658)) = some (r1, r2, r3, r4, r5) := H
    have A11 := Aside0.mk A110
    clear A110
    simp only [Option.some.injEq, Prod.mk.injEq] at H
    obtain ⟨rfl, rfl, rfl, rfl, rfl⟩ := H
    go_enter Try.func45, Try.ntmps45
    go_wp2_with (first | ((with_reducible refine gate_callee (f := 40) rfl ?_); refine goesL_ (some 11) rfl rfl Try.func40 (by kernel_rfl) rfl #[.pointer (some ⟨g, 0, none⟩), .slice A1 l1.length c1] rfl (by ((simp only [List.map_toArray, List.map_cons, List.map_nil])); (rfl)) ?_; (with_reducible refine (poly_Canon.calls k g s0_0 s0_1 s0_2 s0_3 s0_4 s0_5 _ _ l1 t641 t644 t645 t646 w0 _ ?side1 ?side2 ?side3 ?side4 ?side5 A3.out).mono ?_); (case side1 => repeat ((with_reducible (exact HI0.out)))); (case side2 => repeat ((with_reducible (exact HB.out)))); (case side3 => exact Kd.C_keep 0 HR1.out HK.out hf1); (case side4 => exact HC1.out); (case side5 => exact hf1); rintro e w12 ⟨v642, rfl, ho0, hi, hb, hk⟩; refine ⟨_, rfl, ?_⟩; have n0_ := Aside0.mk (Kd.R_lower ho0 (keep_size (w := w) (g := g) (row := none) HK.out)); have n1_ := Aside0.mk (KeepBut.trans HK.out hk (.inl rfl)); have n2_ := Aside0.mk (hb); have n3_ := Aside0.mk (hi); clear HK; clear HB; clear HI0; have HO643 := n0_; have HK := n1_; have HB := n2_; have HI0 := n3_; clear n0_ n1_ n2_ n3_; ((clear hb)); (skip); ((clear hk)); ((clear hi)); ((clear ho0)); obtain ⟨Ao13, co13, eo13⟩ := Kd.R_slice HO643.out; subst eo13; have p647 : 0 ≤ ((ji7) : Int) := of_decide_eq_true (by (with_reducible assumption)); have q647 : (ji7) < (t641.length : Int) := of_decide_eq_true (by (with_reducible assumption)); obtain ⟨ad647, e647, hx647_0⟩ := Kd.at_int (Kd.R_reads' HO643.out).2.2 (ji7) p647 q647; cases e647; replace p647 := eq_true p647; replace q647 := eq_true q647) | ((with_reducible refine gate_callee (f := 62) rfl ?_); refine goesL_ (some 23) rfl rfl Try.func62 (by kernel_rfl) rfl #[.pointer (some ⟨g, 0, none⟩), .int .i64 (rd t641 (ji7))] rfl (by ((simp only [List.map_toArray, List.map_cons, List.map_nil])); (rfl)) ?_; (with_reducible refine (field_GF_Inv.calls g t644 t645 s0_2 t646 s0_4 s0_5 (rd t641 (ji7)) t648 t649 t650 t651 t652 w0 _ ?side1 ?side2 A10.out).mono ?_); (case side1 => repeat ((with_reducible (exact HI0.out)))); (case side2 => repeat ((with_reducible (exact HB.out)))); rintro e w14 ⟨rfl, hi, hb, hk⟩; refine ⟨_, rfl, ?_⟩; have n0_ := Aside0.mk (Kd.R_mono (Kd.R_keep (IsS85.apart (show IsS85 w0 _ g t644 t645 s0_2 t646 s0_4 s0_5 from by exact HI0.out) HO643.out (by decide)) hk (fun _ h => h.2)) (fun _ h => h.1)); have n1_ := Aside0.mk (KeepBut.trans HK.out hk (.inl rfl)); have n2_ := Aside0.mk (hb); have n3_ := Aside0.mk (hi); clear HO643; clear HK; clear HB; clear HI0; have HO643 := n0_; have HK := n1_; have HB := n2_; have HI0 := n3_; clear n0_ n1_ n2_ n3_; ((clear hb)); (skip); ((clear hk)); ((clear hi))) | ((with_reducible refine gate_callee (f := 74) rfl ?_); refine goesL_ (some 29) rfl rfl Try.func74 (by kernel_rfl) rfl #[.pointer (some ⟨g, 0, none⟩), .int .i64 t648, .slice (some ad647) t641.length co13] rfl (by ((simp only [List.map_toArray, List.map_cons, List.map_nil])); (rfl)) ?_; (with_reducible refine (field_GF_Scale.calls k g t650 t651 s0_2 t652 s0_4 s0_5 t648 _ _ t641 t653 t656 t657 t658 w0 _ ?side1 ?side2 ?side3 ?side4 ?side5 A11.out).mono ?_); (case side1 => repeat ((with_reducible (exact HI0.out)))); (case side2 => repeat ((with_reducible (exact HB.out)))); (case side3 => repeat ((exact (Kd.R_reads' HO643.out).2.2))); (case side4 => exact (Kd.R_reads' HO643.out).2.1); (case side5 => exact far_slice (IsS85.own_ne HI0.out HO643.out (by decide))); rintro e w15 ⟨v654, rfl, ho0, hi, hb, hk⟩; refine ⟨_, rfl, ?_⟩; have n0_ := Aside0.mk (Kd.R_mono (Kd.R_told (Kd.R_oldK (IsS85.apart (show IsS85 w0 _ g t650 t651 s0_2 t652 s0_4 s0_5 from by exact HI0.out) HO643.out (by decide)) hk) (Kd.R_base ho0)) (fun _ h_ => h_.1)); have n1_ := Aside0.mk (Kd.R_lower (Kd.R_new' ho0 (Kd.R_lt HO643.out)) (keep_size (w := w) (g := g) (row := none) HK.out)); have n2_ := Aside0.mk (KeepBut.trans HK.out hk (.inl rfl)); have n3_ := Aside0.mk (hb); have n4_ := Aside0.mk (hi); clear HO643; clear HK; clear HB; clear HI0; have HO643 := n0_; have HO655 := n1_; have HK := n2_; have HB := n3_; have HI0 := n4_; clear n0_ n1_ n2_ n3_ n4_; ((clear hb)); (skip); ((clear hk)); ((clear hi)); ((clear ho0))))
    go_ret2
    exact ⟨_, by rfl, by exact Kd.R_mono HO655.out (fun _ hk => trivial), by exact HI0.out, by exact HB.out, by exact HK.out⟩
   ·rw [if_neg c9] at H
    exact absurd H (by simp)
  ·rw [if_neg c8] at H
   exact absurd H (by simp)
def poly_Gcd.l0 : Nat → List Int → List Int → Int → Int → List Int → Int → List Int → List Int → Option (List Int × Int × Int × Int)
 | 0, _, _, _, _, _, _, _, _ => none
 | k + 1, x1, x2, x1000, x1001, x1002, x1003, x1004, x1005 => if (x2.length : Int) > 0 then ((poly_DivMod.f k x1000 x1001 x1002 x1003 x1004 x1005 x1 x2).bind fun bt671 => (poly_Gcd.l0 k x2 bt671.2.1 bt671.2.2.2.1 bt671.2.2.2.2.1 x1002 bt671.2.2.2.2.2 x1004 x1005)) else ((poly_Monic.f k x1000 x1001 x1002 x1003 x1004 x1005 x1).bind fun bt681 => (some (bt681.1, bt681.2.2.1, bt681.2.2.2.1, bt681.2.2.2.2)))
def poly_Gcd.f (k : Nat) (s0_0 : Int) (s0_1 : Int) (s0_2 : List Int) (s0_3 : Int) (s0_4 : List Int) (s0_5 : List Int) (l1 : List Int) (l2 : List Int) : Option (List Int × Int × Int × Int) := (poly_Canon.f k s0_0 s0_1 s0_2 s0_3 s0_4 s0_5 l1).bind fun bt659 => ((poly_Canon.f k bt659.2.1 bt659.2.2.1 s0_2 bt659.2.2.2 s0_4 s0_5 l2).bind fun bt665 => (poly_Gcd.l0 k bt659.1 bt665.1 bt665.2.1 bt665.2.2.1 s0_2 bt665.2.2.2 s0_4 s0_5))
set_option maxHeartbeats 8000000 in
set_option maxRecDepth 100000 in
theorem poly_Gcd.calls (k : Nat) (g : Nat) (s0_0 : Int) (s0_1 : Int) (s0_2 : List Int) (s0_3 : Int) (s0_4 : List Int) (s0_5 : List Int) (A1 : Option Addr) (c1 : Nat) (l1 : List Int) (A2 : Option Addr) (c2 : Nat) (l2 : List Int) (r1 : List Int) (r2 : Int) (r3 : Int) (r4 : Int) (w0 w : World) (hI : IsS85 w0 w g s0_0 s0_1 s0_2 s0_3 s0_4 s0_5) (hB : Below w0.heap.size w0 w) (hr1 : Kd.C (Kd.int .i64) w A1 l1.length l1) (hc1 : l1.length ≤ c1) (hf1 : ∀ ad, A1 = some ad → 0 < l1.length → ad.block ≠ g) (hr2 : Kd.C (Kd.int .i64) w A2 l2.length l2) (hc2 : l2.length ≤ c2) (hf2 : ∀ ad, A2 = some ad → 0 < l2.length → ad.block ≠ g) (h : poly_Gcd.f k s0_0 s0_1 s0_2 s0_3 s0_4 s0_5 l1 l2 = some (r1, r2, r3, r4)) :
  Calls Try.prog 20 #[.pointer (some ⟨g, 0, none⟩), .slice A1 l1.length c1, .slice A2 l2.length c2] w fun e w' => ∃ v0_ : Value, e = .returned (v0_) ∧ Kd.R (Kd.int .i64) 3 w' w.heap.size (fun _ => True) v0_ r1 ∧ IsS85 w0 w' g r2 r3 s0_2 r4 s0_4 s0_5 ∧ Below w0.heap.size w0 w' ∧ KeepBut w w' g none := by
 have HR1 := Aside0.mk hr1
 have HC1 := Aside0.mk hc1
 clear hr1 hc1
 have HR2 := Aside0.mk hr2
 have HC2 := Aside0.mk hc2
 clear hr2 hc2
 have HI0 := Aside0.mk hI
 have HK := Aside0.mk (KeepBut.refl w g none)
 have HL := Aside0.mk hB.size
 clear hI
 have HW0 := Aside0.mk hB.size
 have HB := Aside0.mk hB
 clear hB
 have H : ((poly_Canon.f k s0_0 s0_1 s0_2 s0_3 s0_4 s0_5 l1).bind fun bt659 => ((poly_Canon.f k bt659.2.1 bt659.2.2.1 s0_2 bt659.2.2.2 s0_4 s0_5 l2).bind fun bt665 => (poly_Gcd.l0 k bt659.1 bt665.1 bt665.2.1 bt665.2.2.1 s0_2 bt665.2.2.2 s0_4 s0_5))) = some (r1, r2, r3, r4) := h
 clear h
 replace H := Option.bind_eq_some_iff.mp H
 obtain ⟨⟨t659, t662, t663, t664⟩, A40, H⟩ := H
 replace H : ((poly_Canon.f k t662 t663 s0_2 t664 s0_4 s0_5 l2).bind fun bt665 => (poly_Gcd.l0 k t659 bt665.1 bt665.2.1 bt665.2.2.1 s0_2 bt665.2.2.2 s0_4 s0_5)) = some (r1, r2, r3, r4) := H
 have A4 := Aside0.mk A40
 clear A40
 replace H := Option.bind_eq_some_iff.mp H
 obtain ⟨⟨t665, t668, t669, t670⟩, A50, H⟩ := H
 replace H : (poly_Gcd.l0 k t659 t665 t668 t669 s0_2 t670 s0_4 s0_5) = some (r1, r2, r3, r4) := H
 have A5 := Aside0.mk A50
 clear A50
 have H' := Aside0.mk H
 clear H
 go_enter Try.func20, Try.ntmps20
 go_wp2_with (first | ((with_reducible refine gate_callee (f := 40) rfl ?_); refine goesL_ (some 14) rfl rfl Try.func40 (by kernel_rfl) rfl #[.pointer (some ⟨g, 0, none⟩), .slice A1 l1.length c1] rfl (by ((simp only [List.map_toArray, List.map_cons, List.map_nil])); (rfl)) ?_; (with_reducible refine (poly_Canon.calls k g s0_0 s0_1 s0_2 s0_3 s0_4 s0_5 _ _ l1 t659 t662 t663 t664 w0 _ ?side1 ?side2 ?side3 ?side4 ?side5 A4.out).mono ?_); (case side1 => repeat ((with_reducible (exact HI0.out)))); (case side2 => repeat ((with_reducible (exact HB.out)))); (case side3 => exact Kd.C_keep 0 HR1.out HK.out hf1); (case side4 => exact HC1.out); (case side5 => exact hf1); rintro e w6 ⟨v660, rfl, ho0, hi, hb, hk⟩; refine ⟨_, rfl, ?_⟩; have n0_ := Aside0.mk (Kd.R_lower ho0 (keep_size (w := w) (g := g) (row := none) HK.out)); have n1_ := Aside0.mk (KeepBut.trans HK.out hk (.inl rfl)); have n2_ := Aside0.mk (hb); have n3_ := Aside0.mk (hi); clear HK; clear HB; clear HI0; have HO661 := n0_; have HK := n1_; have HB := n2_; have HI0 := n3_; clear n0_ n1_ n2_ n3_; ((clear hb)); (skip); ((clear hk)); ((clear hi)); ((clear ho0))) | ((with_reducible refine gate_callee (f := 40) rfl ?_); refine goesL_ (some 17) rfl rfl Try.func40 (by kernel_rfl) rfl #[.pointer (some ⟨g, 0, none⟩), .slice A2 l2.length c2] rfl (by ((simp only [List.map_toArray, List.map_cons, List.map_nil])); (rfl)) ?_; (with_reducible refine (poly_Canon.calls k g t662 t663 s0_2 t664 s0_4 s0_5 _ _ l2 t665 t668 t669 t670 w0 _ ?side1 ?side2 ?side3 ?side4 ?side5 A5.out).mono ?_); (case side1 => repeat ((with_reducible (exact HI0.out)))); (case side2 => repeat ((with_reducible (exact HB.out)))); (case side3 => exact Kd.C_keep 0 HR2.out HK.out hf2); (case side4 => exact HC2.out); (case side5 => exact hf2); rintro e w7 ⟨v666, rfl, ho0, hi, hb, hk⟩; refine ⟨_, rfl, ?_⟩; have n0_ := Aside0.mk (Kd.R_mono (Kd.R_told (Kd.R_oldK (IsS85.apart (show IsS85 w0 _ g t662 t663 s0_2 t664 s0_4 s0_5 from by exact HI0.out) HO661.out (by decide)) hk) (Kd.R_base ho0)) (fun _ h_ => h_.1)); have n1_ := Aside0.mk (Kd.R_lower (Kd.R_new' ho0 (Kd.R_lt HO661.out)) (keep_size (w := w) (g := g) (row := none) HK.out)); have n2_ := Aside0.mk (KeepBut.trans HK.out hk (.inl rfl)); have n3_ := Aside0.mk (hb); have n4_ := Aside0.mk (hi); clear HO661; clear HK; clear HB; clear HI0; have HO661 := n0_; have HO667 := n1_; have HK := n2_; have HB := n3_; have HI0 := n4_; clear n0_ n1_ n2_ n3_ n4_; ((clear hb)); (skip); ((clear hk)); ((clear hi)); ((clear ho0))))
 go_loopg [1, 2] k (fun kq v1 v2 w' => ∃ (x1_1 : List Int) (x2_1 : List Int) (x1000_1 : Int) (x1001_1 : Int) (x1003_1 : Int), Aside0 (poly_Gcd.l0 kq x1_1 x2_1 x1000_1 x1001_1 s0_2 x1003_1 s0_4 s0_5 = some (r1, r2, r3, r4)) ∧ Aside0 (kq ≤ k) ∧ Aside0 (Kd.R (Kd.int .i64) 3 w' w.heap.size (fun k_ => some k_ ≠ (v2 : Value).ownBlock) v1 x1_1) ∧ Aside0 (Kd.R (Kd.int .i64) 3 w' w.heap.size (fun k_ => some k_ ≠ (v1 : Value).ownBlock) v2 x2_1) ∧ Aside0 (IsS85 w0 w' g x1000_1 x1001_1 s0_2 x1003_1 s0_4 s0_5) ∧ Aside0 (KeepBut w w' g none) ∧ Aside0 (Below w0.heap.size w0 w'))
 case atStart => exact ⟨(t659), (t665), (t668), (t669), (t670), H', ⟨Nat.le_refl _⟩, ⟨by exact Kd.R_mono HO661.out (fun _ hk => hk.2)⟩, ⟨by exact Kd.R_mono HO667.out (fun _ hk => hk.2)⟩, ⟨by exact HI0.out⟩, ⟨by exact HK.out⟩, ⟨by exact HB.out⟩⟩
 case round =>
  clear H'
  obtain ⟨x1_1, x2_1, x1000_1, x1001_1, x1003_1, HA, HK1, HO_1, HO_2, HI0, HK, HB⟩ := hrel
  cases gk with
  | zero => exact absurd HA.out (by simp [poly_Gcd.l0])
  | succ k1 =>
   have H := HA.out
   clear HA
   simp only [poly_Gcd.l0] at H
   by_cases c8 : (x2_1.length : Int) > 0
   ·rw [if_pos c8] at H
    have c8b0 : decide (0 < (x2_1.length : Int)) = true := decide_eq_true c8
    have c8b1 : decide (0 < x2_1.length) = true := decide_eq_true (by omega)
    clear c8
    replace H := Option.bind_eq_some_iff.mp H
    obtain ⟨⟨t671, t674, t677, t678, t679, t680⟩, A90, H⟩ := H
    replace H : (poly_Gcd.l0 k1 x2_1 t674 t678 t679 s0_2 t680 s0_4 s0_5) = some (r1, r2, r3, r4) := H
    have A9 := Aside0.mk A90
    clear A90
    have H' := Aside0.mk H
    clear H
    obtain ⟨Ao10, co10, eo10⟩ := Kd.R_slice HO_2.out
    subst eo10
    obtain ⟨Ao11, co11, eo11⟩ := Kd.R_slice HO_1.out
    subst eo11
    go_wp2_with (((with_reducible refine gate_callee (f := 37) rfl ?_); refine goesL_ (some 25) rfl rfl Try.func37 (by kernel_rfl) rfl #[.pointer (some ⟨g, 0, none⟩), .slice Ao11 x1_1.length co11, .slice Ao10 x2_1.length co10] rfl (by ((simp only [List.map_toArray, List.map_cons, List.map_nil])); (rfl)) ?_; (with_reducible refine (poly_DivMod.calls k1 g x1000_1 x1001_1 s0_2 x1003_1 s0_4 s0_5 _ _ x1_1 _ _ x2_1 t671 t674 t677 t678 t679 t680 w0 _ ?side1 ?side2 ?side3 ?side4 ?side5 ?side6 ?side7 ?side8 A9.out).mono ?_); (case side1 => repeat ((with_reducible (exact HI0.out)))); (case side2 => repeat ((with_reducible (exact HB.out)))); (case side3 => repeat ((exact (Kd.R_reads' HO_1.out).2.2))); (case side4 => exact (Kd.R_reads' HO_1.out).2.1); (case side5 => exact far_slice (IsS85.own_ne HI0.out HO_1.out (by decide))); (case side6 => repeat ((exact (Kd.R_reads' HO_2.out).2.2))); (case side7 => exact (Kd.R_reads' HO_2.out).2.1); (case side8 => exact far_slice (IsS85.own_ne HI0.out HO_2.out (by decide))); rintro e w12 ⟨v672, v675, rfl, ho0, ho1, hi, hb, hk⟩; refine ⟨_, rfl, ?_⟩; have n0_ := Aside0.mk (Kd.R_mono (Kd.R_told (Kd.R_told (Kd.R_oldK (IsS85.apart (show IsS85 w0 _ g x1000_1 x1001_1 s0_2 x1003_1 s0_4 s0_5 from by exact HI0.out) HO_1.out (by decide)) hk) (Kd.R_base ho0)) (Kd.R_base ho1)) (fun _ h_ => h_.1)); have n1_ := Aside0.mk (Kd.R_mono (Kd.R_told (Kd.R_told (Kd.R_oldK (IsS85.apart (show IsS85 w0 _ g x1000_1 x1001_1 s0_2 x1003_1 s0_4 s0_5 from by exact HI0.out) HO_2.out (by decide)) hk) (Kd.R_base ho0)) (Kd.R_base ho1)) (fun _ h_ => h_.1)); have n2_ := Aside0.mk (Kd.R_lower (Kd.R_new' (Kd.R_new' ho0 (Kd.R_lt HO_1.out)) (Kd.R_lt HO_2.out)) (keep_size (w := w) (g := g) (row := none) HK.out)); have n3_ := Aside0.mk (Kd.R_lower (Kd.R_new' (Kd.R_new' ho1 (Kd.R_lt HO_1.out)) (Kd.R_lt HO_2.out)) (keep_size (w := w) (g := g) (row := none) HK.out)); have n4_ := Aside0.mk (KeepBut.trans HK.out hk (.inl rfl)); have n5_ := Aside0.mk (hb); have n6_ := Aside0.mk (hi); clear HO_1; clear HO_2; clear HK; clear HB; clear HI0; have HO_1 := n0_; have HO_2 := n1_; have HO673 := n2_; have HO676 := n3_; have HK := n4_; have HB := n5_; have HI0 := n6_; clear n0_ n1_ n2_ n3_ n4_ n5_ n6_; ((clear hb)); (skip); ((clear hk)); ((clear hi)); ((clear ho0)); ((clear ho1))))
    go_roundg k1
    case measure => have := HK1.out; omega
    case rel => exact ⟨(x2_1), (t674), (t678), (t679), (t680), H', ⟨by have := HK1.out; omega⟩, ⟨by exact Kd.R_mono HO_2.out (fun _ hk => hk.2)⟩, ⟨by exact Kd.R_mono HO676.out (fun _ hk => hk.2)⟩, ⟨by exact HI0.out⟩, ⟨by exact HK.out⟩, ⟨by exact HB.out⟩⟩
   ·rw [if_neg c8] at H
    have c8b0 : decide (0 < (x2_1.length : Int)) = false := decide_eq_false c8
    have c8b1 : decide (0 < x2_1.length) = false := decide_eq_false (by omega)
    clear c8
    replace H := Option.bind_eq_some_iff.mp H
    obtain ⟨⟨t681, t684, t685, t686, t687⟩, A130, H⟩ := H
    replace H : (some (t681, t685, t686, t687)) = some (r1, r2, r3, r4) := H
    have A13 := Aside0.mk A130
    clear A130
    simp only [Option.some.injEq, Prod.mk.injEq] at H
    obtain ⟨rfl, rfl, rfl, rfl⟩ := H
    obtain ⟨Ao14, co14, eo14⟩ := Kd.R_slice HO_2.out
    subst eo14
    obtain ⟨Ao15, co15, eo15⟩ := Kd.R_slice HO_1.out
    subst eo15
    go_wp2_with (((with_reducible refine gate_callee (f := 45) rfl ?_); refine goesL_ (some 34) rfl rfl Try.func45 (by kernel_rfl) rfl #[.pointer (some ⟨g, 0, none⟩), .slice Ao15 x1_1.length co15] rfl (by ((simp only [List.map_toArray, List.map_cons, List.map_nil])); (rfl)) ?_; (with_reducible refine (poly_Monic.calls k1 g x1000_1 x1001_1 s0_2 x1003_1 s0_4 s0_5 _ _ x1_1 t681 t684 t685 t686 t687 w0 _ ?side1 ?side2 ?side3 ?side4 ?side5 A13.out).mono ?_); (case side1 => repeat ((with_reducible (exact HI0.out)))); (case side2 => repeat ((with_reducible (exact HB.out)))); (case side3 => repeat ((exact (Kd.R_reads' HO_1.out).2.2))); (case side4 => exact (Kd.R_reads' HO_1.out).2.1); (case side5 => exact far_slice (IsS85.own_ne HI0.out HO_1.out (by decide))); rintro e w16 ⟨v682, rfl, ho0, hi, hb, hk⟩; refine ⟨_, rfl, ?_⟩; have n0_ := Aside0.mk (Kd.R_mono (Kd.R_told (Kd.R_oldK (IsS85.apart (show IsS85 w0 _ g x1000_1 x1001_1 s0_2 x1003_1 s0_4 s0_5 from by exact HI0.out) HO_1.out (by decide)) hk) (Kd.R_base ho0)) (fun _ h_ => h_.1)); have n1_ := Aside0.mk (Kd.R_mono (Kd.R_told (Kd.R_oldK (IsS85.apart (show IsS85 w0 _ g x1000_1 x1001_1 s0_2 x1003_1 s0_4 s0_5 from by exact HI0.out) HO_2.out (by decide)) hk) (Kd.R_base ho0)) (fun _ h_ => h_.1)); have n2_ := Aside0.mk (Kd.R_lower (Kd.R_new' (Kd.R_new' ho0 (Kd.R_lt HO_1.out)) (Kd.R_lt HO_2.out)) (keep_size (w := w) (g := g) (row := none) HK.out)); have n3_ := Aside0.mk (KeepBut.trans HK.out hk (.inl rfl)); have n4_ := Aside0.mk (hb); have n5_ := Aside0.mk (hi); clear HO_1; clear HO_2; clear HK; clear HB; clear HI0; have HO_1 := n0_; have HO_2 := n1_; have HO683 := n2_; have HK := n3_; have HB := n4_; have HI0 := n5_; clear n0_ n1_ n2_ n3_ n4_ n5_; ((clear hb)); (skip); ((clear hk)); ((clear hi)); ((clear ho0))))
    go_ret
    exact ⟨_, by rfl, by exact Kd.R_mono HO683.out (fun _ hk => trivial), by exact HI0.out, by exact HB.out, by exact HK.out⟩
def codewrightref05_Monic.f (k : Nat) (a0_0 : Int) (a0_1 : Int) (l0_2 : List Int) (l1 : List Int) : Option (List Int) := (codewrightref05_Canon.f k a0_0 a0_1 l0_2 l1).bind fun t689 => (if (t689.length : Int) = 0 then (some t689) else (if 0 ≤ (wrap64 ((t689.length : Int) - 1)) then (if (wrap64 ((t689.length : Int) - 1)) < (t689.length : Int) then ((codewrightref04_Inv.f k a0_0 a0_1 l0_2 (rd t689 (wrap64 ((t689.length : Int) - 1)))).bind fun t693 => ((codewrightref05_Scale.f k a0_0 a0_1 l0_2 t693 t689).bind fun t694 => (some t694))) else (none)) else (none)))
def codewrightref05_Monic.T4 : Bool × List (List Nat × List Nat) := (true, [([], []), ([], []), ([], []), ([], []), ([3], [3]), ([4], [4]), ([2, 5], [2, 5]), ([6], [6]), ([1, 7], [1, 7]), ([], []), ([0, 8, 9, 8], [0, 8, 9]), ([10, 10, 0, 1, 2, 3, 4, 5, 6, 7, 8, 9, 10], [10])])
def codewrightref05_Monic.B4 : List Nat := [0, 0, 0, 0, 8, 24, 60, 124, 254, 0, 1023, 2047]
theorem codewrightref05_Monic.tab4 : rtab .any (opsOf Try.f21 4) = codewrightref05_Monic.T4 := by kernel_rfl
theorem codewrightref05_Monic.bits4 : waitsOk codewrightref05_Monic.T4.2 codewrightref05_Monic.B4 = true := by kernel_rfl
set_option maxHeartbeats 8000000 in
set_option maxRecDepth 100000 in
theorem codewrightref05_Monic.calls (k : Nat) (a0_0 : Int) (a0_1 : Int) (A0_2 : Option Addr) (c0_2 : Nat) (l0_2 : List Int) (A1 : Option Addr) (c1 : Nat) (l1 : List Int) (r : List Int) (w : World) (hr0_2 : Kd.C (Kd.int .i64) w A0_2 l0_2.length l0_2) (hc0_2 : l0_2.length ≤ c0_2) (hr1 : Kd.C (Kd.int .i64) w A1 l1.length l1) (hc1 : l1.length ≤ c1) (h : codewrightref05_Monic.f k a0_0 a0_1 l0_2 l1 = some r) :
  Calls Try.prog 21 #[.agg #[.int .i64 a0_0, .int .i64 a0_1, .slice A0_2 l0_2.length c0_2], .slice A1 l1.length c1] w fun e w' => ∃ v0_ : Value, e = .returned (v0_) ∧ Kd.R (Kd.int .i64) 3 w' w.heap.size (fun _ => True) v0_ r ∧ Below w.heap.size w w' := by
 have hu24 := Try.underlying24
 have HR0_2 := Aside0.mk hr0_2
 have HC0_2 := Aside0.mk hc0_2
 clear hr0_2 hc0_2
 have HR1 := Aside0.mk hr1
 have HC1 := Aside0.mk hc1
 clear hr1 hc1
 have HB := Aside0.mk (Below.refl w.heap.size w)
 have H : ((codewrightref05_Canon.f k a0_0 a0_1 l0_2 l1).bind fun t689 => (if (t689.length : Int) = 0 then (some t689) else (if 0 ≤ (wrap64 ((t689.length : Int) - 1)) then (if (wrap64 ((t689.length : Int) - 1)) < (t689.length : Int) then ((codewrightref04_Inv.f k a0_0 a0_1 l0_2 (rd t689 (wrap64 ((t689.length : Int) - 1)))).bind fun t693 => ((codewrightref05_Scale.f k a0_0 a0_1 l0_2 t693 t689).bind fun t694 => (some t694))) else (none)) else (none)))) = some r := h
 clear h
 obtain ⟨t689, A30, H⟩ := Option.bind_eq_some_iff.mp H
 replace H : (if (t689.length : Int) = 0 then (some t689) else (if 0 ≤ (wrap64 ((t689.length : Int) - 1)) then (if (wrap64 ((t689.length : Int) - 1)) < (t689.length : Int) then ((codewrightref04_Inv.f k a0_0 a0_1 l0_2 (rd t689 (wrap64 ((t689.length : Int) - 1)))).bind fun t693 => ((codewrightref05_Scale.f k a0_0 a0_1 l0_2 t693 t689).bind fun t694 => (some t694))) else (none)) else (none))) = some r := H
 have A3 := Aside0.mk A30
 clear A30
 by_cases c4 : (t689.length : Int) = 0
 ·rw [if_pos c4] at H
  have c4b0 : ((t689.length : Int) == 0) = true := beq_iff_eq.mpr c4
  have c4b1 : ((t689.length : Int) != 0) = false := bne_eq_false_iff_eq.mpr c4
  clear c4
  obtain rfl := Option.some.inj H
  go_enter Try.func21, Try.ntmps21
  go_wp2_with (first | ((with_reducible refine gate_dst (N := 2) rfl ?_); refine box_event ?hg (N := 2) ?hd (cs := #[.int .i64 a0_0, .int .i64 a0_1, .slice A0_2 l0_2.length c0_2]) (t := 24) ?hr ?_; (case hd => rfl); (case hg => rfl); (case hr => (go_simp; done)); intro gb688 hg w5 hbox hb; have n0_ := Aside0.mk (below_step HB.out hb); have n1_ := Aside0.mk (hbox); have n2_ := Aside0.mk ((by rw [hg]; exact (below_size HB.out) : w.heap.size ≤ gb688)); have n3_ := Aside0.mk ((by rw [hg]; exact (below_size HB.out) : w.heap.size ≤ gb688)); clear HB; have HB := n0_; have BK688 := n1_; have GW688 := n2_; have GE688 := n3_; clear n0_ n1_ n2_ n3_; clear hb hbox hg; have hcz6_0 : w5.cell? ⟨gb688, 0, none⟩ = some (.int .i64 a0_0) := (blk_cell BK688.out 0).trans rfl; have hcz6_1 : w5.cell? ⟨gb688, 1, none⟩ = some (.int .i64 a0_1) := (blk_cell BK688.out 1).trans rfl; have hcz6_2 : w5.cell? ⟨gb688, 2, none⟩ = some (.slice A0_2 l0_2.length c0_2) := (blk_cell BK688.out 2).trans rfl; have hfz6_0 := blk_frozen BK688.out 0; have hfz6_1 := blk_frozen BK688.out 1; have hfz6_2 := blk_frozen BK688.out 2) | ((with_reducible refine gate_callee (f := 32) rfl ?_); refine goesL_ (some 7) rfl rfl Try.func32 (by kernel_rfl) rfl #[.agg #[.int .i64 a0_0, .int .i64 a0_1, .slice A0_2 l0_2.length c0_2], .slice A1 l1.length c1] rfl (by ((simp only [List.map_toArray, List.map_cons, List.map_nil])); (rfl)) ?_; (with_reducible refine (codewrightref05_Canon.calls k a0_0 a0_1 _ _ l0_2 _ _ l1 t689 _ ?side1 ?side2 ?side3 ?side4 A3.out).mono ?_); (case side1 => repeat ((exact (Kd.C_below HR0_2.out HB.out)))); (case side2 => exact HC0_2.out); (case side3 => repeat ((exact (Kd.C_below HR1.out HB.out)))); (case side4 => exact HC1.out); rintro e w7 ⟨v690, rfl, ho0, hb⟩; refine ⟨_, rfl, ?_⟩; have n0_ := Aside0.mk (Kd.R_lower ho0 (below_size HB.out)); have n1_ := Aside0.mk (blk_below (g := gb688) (o := .cells #[.int .i64 a0_0, .int .i64 a0_1, .slice A0_2 l0_2.length c0_2] 24 (0, 0)) BK688.out hb); have n2_ := Aside0.mk (below_step HB.out hb); clear BK688; clear HB; have HO691 := n0_; have BK688 := n1_; have HB := n2_; clear n0_ n1_ n2_; ((clear hb)); (skip); (skip); (skip); ((clear ho0)); obtain ⟨Ao8, co8, eo8⟩ := Kd.R_slice HO691.out; subst eo8))
  go_ret
  exact ⟨_, by rfl, by exact HO691.out, by exact HB.out⟩
 ·rw [if_neg c4] at H
  have c4b0 : ((t689.length : Int) == 0) = false := beq_eq_false_iff_ne.mpr c4
  have c4b1 : ((t689.length : Int) != 0) = true := bne_iff_ne.mpr c4
  have c4b2 : ¬ (t689 = []) := fun h_ => c4 (by rw [h_]; rfl)
  obtain ⟨ji9, hji9⟩ : ∃ j_ : Int, (wrap64 ((t689.length : Int) - 1)) = j_ := ⟨_, rfl⟩
  replace H : (if 0 ≤ (ji9) then (if (ji9) < (t689.length : Int) then ((codewrightref04_Inv.f k a0_0 a0_1 l0_2 (rd t689 (ji9))).bind fun t693 => ((codewrightref05_Scale.f k a0_0 a0_1 l0_2 t693 t689).bind fun t694 => (some t694))) else (none)) else (none)) = some r := by (rw [hji9] at H; exact H)
  have hji9w : (IntKind.i64.wrap ((t689.length : Int) - 1)) = ji9 := (i64_w _).trans hji9
  by_cases c10 : 0 ≤ (ji9)
  ·rw [if_pos c10] at H
   have c10b0 : decide (0 ≤ (ji9)) = true := decide_eq_true c10
   clear c10
   by_cases c11 : (ji9) < (t689.length : Int)
   ·rw [if_pos c11] at H
    have c11b0 : decide ((ji9) < (t689.length : Int)) = true := decide_eq_true c11
    clear c11
    obtain ⟨t693, A120, H⟩ := Option.bind_eq_some_iff.mp H
    replace H : ((codewrightref05_Scale.f k a0_0 a0_1 l0_2 t693 t689).bind fun t694 => (some t694)) = some r := H
    have A12 := Aside0.mk A120
    clear A120
    obtain ⟨t694, A130, H⟩ := Option.bind_eq_some_iff.mp H
    replace H : (some t694) = some r := H
    have A13 := Aside0.mk A130
    clear A130
    obtain rfl := Option.some.inj H
    go_enter Try.func21, Try.ntmps21
    (go_wp2_with (first | ((with_reducible refine gate_dst (N := 2) rfl ?_); refine box_event ?hg (N := 2) ?hd (cs := #[.int .i64 a0_0, .int .i64 a0_1, .slice A0_2 l0_2.length c0_2]) (t := 24) ?hr ?_; (case hd => rfl); (case hg => rfl); (case hr => (go_simp; done)); intro gb688 hg w14 hbox hb; have n0_ := Aside0.mk (below_step HB.out hb); have n1_ := Aside0.mk (hbox); have n2_ := Aside0.mk ((by rw [hg]; exact (below_size HB.out) : w.heap.size ≤ gb688)); have n3_ := Aside0.mk ((by rw [hg]; exact (below_size HB.out) : w.heap.size ≤ gb688)); clear HB; have HB := n0_; have BK688 := n1_; have GW688 := n2_; have GE688 := n3_; clear n0_ n1_ n2_ n3_; clear hb hbox hg; have hcz15_0 : w14.cell? ⟨gb688, 0, none⟩ = some (.int .i64 a0_0) := (blk_cell BK688.out 0).trans rfl; have hcz15_1 : w14.cell? ⟨gb688, 1, none⟩ = some (.int .i64 a0_1) := (blk_cell BK688.out 1).trans rfl; have hcz15_2 : w14.cell? ⟨gb688, 2, none⟩ = some (.slice A0_2 l0_2.length c0_2) := (blk_cell BK688.out 2).trans rfl; have hfz15_0 := blk_frozen BK688.out 0; have hfz15_1 := blk_frozen BK688.out 1; have hfz15_2 := blk_frozen BK688.out 2) | ((with_reducible refine gate_callee (f := 32) rfl ?_); refine goesL_ (some 7) rfl rfl Try.func32 (by kernel_rfl) rfl #[.agg #[.int .i64 a0_0, .int .i64 a0_1, .slice A0_2 l0_2.length c0_2], .slice A1 l1.length c1] rfl (by ((simp only [List.map_toArray, List.map_cons, List.map_nil])); (rfl)) ?_; (with_reducible refine (codewrightref05_Canon.calls k a0_0 a0_1 _ _ l0_2 _ _ l1 t689 _ ?side1 ?side2 ?side3 ?side4 A3.out).mono ?_); (case side1 => repeat ((exact (Kd.C_below HR0_2.out HB.out)))); (case side2 => exact HC0_2.out); (case side3 => repeat ((exact (Kd.C_below HR1.out HB.out)))); (case side4 => exact HC1.out); rintro e w16 ⟨v690, rfl, ho0, hb⟩; refine ⟨_, rfl, ?_⟩; have n0_ := Aside0.mk (Kd.R_lower ho0 (below_size HB.out)); have n1_ := Aside0.mk (blk_below (g := gb688) (o := .cells #[.int .i64 a0_0, .int .i64 a0_1, .slice A0_2 l0_2.length c0_2] 24 (0, 0)) BK688.out hb); have n2_ := Aside0.mk (below_step HB.out hb); clear BK688; clear HB; have HO691 := n0_; have BK688 := n1_; have HB := n2_; clear n0_ n1_ n2_; ((clear hb)); (skip); (skip); (skip); ((clear ho0)); obtain ⟨Ao17, co17, eo17⟩ := Kd.R_slice HO691.out; subst eo17)))
    have n0_ := Aside0.mk (Kd.R_drew HO691.out)
    have n1_ := Aside0.mk (blk_drew BK688.out)
    have n2_ := Aside0.mk (below_drew1 HB.out)
    clear HO691 BK688 HB
    have HO691 := n0_
    have BK688 := n1_
    have HB := n2_
    clear n0_ n1_ n2_
    have p692 : 0 ≤ ((ji9) : Int) := of_decide_eq_true (by (with_reducible assumption))
    have q692 : (ji9) < (t689.length : Int) := of_decide_eq_true (by (with_reducible assumption))
    obtain ⟨ad692, e692, hx692_0⟩ := Kd.at_int (Kd.R_reads' HO691.out).2.2 (ji9) p692 q692
    cases e692
    replace p692 := eq_true p692
    replace q692 := eq_true q692
    refine start_ (n := 12) (S := fun w' => w'.cell? ⟨gb688, 0, none⟩ = some (.int .i64 a0_0) ∧ w'.cell? ⟨gb688, 1, none⟩ = some (.int .i64 a0_1) ∧ w'.cell? ⟨gb688, 2, none⟩ = some (.slice A0_2 l0_2.length c0_2) ∧ w'.cell? (ad692.add ((ji9)).toNat) = some (.int .i64 (rd t689 (ji9)))) (ds := []) #[false, false, false, false, false, false, false, false, false, false, false, false] (by kernel_rfl) rfl rfl ⟨(blk_cell BK688.out 0).trans rfl, (blk_cell BK688.out 1).trans rfl, (blk_cell BK688.out 2).trans rfl, hx692_0⟩ (fun hHeld => ?_); refine with_tabW codewrightref05_Monic.tab4 codewrightref05_Monic.bits4 (fun HT_ HW_ => ?_)
    generalize w16.drew = w18 at HO691 BK688 HB hx692_0 hHeld ⊢
    refine pure_ (i := 2) (N := some 14) (v := ?_) (a' := ?_) #[false, false, true, false, false, false, false, false, false, false, false, false] rfl rfl (any_of HT_.out (by kernel_rfl)) (fun _ _ _ h => h) (Or.inl ⟨by rfl, ?_⟩) ?_ ?_
    rotate_left
    ·intro w'
     go_simp
     with_reducible rfl
    rotate_left
    ·simp only [Act.put, List.setIfInBounds_toArray, List.set_cons_zero, List.set_cons_succ, i64_w, i32_w]
     rfl
    refine pure_ (i := 3) (N := some 15) (v := ?_) (a' := ?_) #[false, false, true, true, false, false, false, false, false, false, false, false] rfl rfl (any_of HT_.out (by kernel_rfl)) (fun _ _ _ h => h) (Or.inl ⟨by rfl, ?_⟩) ?_ ?_
    rotate_left
    ·intro w'
     go_simp
     with_reducible rfl
    rotate_left
    ·simp only [Act.put, List.setIfInBounds_toArray, List.set_cons_zero, List.set_cons_succ, i64_w, i32_w]
     rfl
    refine pure_ (i := 4) (N := some 16) (v := ?_) (a' := ?_) #[false, false, true, true, true, false, false, false, false, false, false, false] rfl rfl (any_of HT_.out (by kernel_rfl)) (fun _ _ _ h => h) (Or.inl ⟨by rfl, ?_⟩) ?_ ?_
    rotate_left
    ·intro w'
     go_simp
     with_reducible rfl
    rotate_left
    ·simp only [Act.put, List.setIfInBounds_toArray, List.set_cons_zero, List.set_cons_succ, i64_w, i32_w]
     rfl
    refine pure_ (i := 5) (N := some 17) (v := ?_) (a' := ?_) #[false, false, true, true, true, true, false, false, false, false, false, false] rfl rfl (any_of HT_.out (by kernel_rfl)) (fun _ _ _ h => h) (Or.inl ⟨by rfl, ?_⟩) ?_ ?_
    rotate_left
    ·intro w'
     go_simp
     with_reducible rfl
    rotate_left
    ·simp only [Act.put, List.setIfInBounds_toArray, List.set_cons_zero, List.set_cons_succ, i64_w, i32_w]
     rfl
    refine pure_ (i := 6) (N := some 18) (v := ?_) (a' := ?_) #[false, false, true, true, true, true, true, false, false, false, false, false] rfl rfl (any_of HT_.out (by kernel_rfl)) (fun _ _ _ h => h) (Or.inl ⟨by rfl, ?_⟩) ?_ ?_
    rotate_left
    ·intro w'
     go_simp
     with_reducible rfl
    rotate_left
    ·simp only [Act.put, List.setIfInBounds_toArray, List.set_cons_zero, List.set_cons_succ, i64_w, i32_w]
     rfl
    refine pure_ (i := 9) (N := some 21) (v := ?_) (a' := ?_) #[false, false, true, true, true, true, true, false, false, true, false, false] rfl rfl (any_of HT_.out (by kernel_rfl)) (fun _ _ _ h => h) (Or.inl ⟨by rfl, ?_⟩) ?_ ?_
    rotate_left
    ·intro w'
     go_simp
     with_reducible rfl
    rotate_left
    ·simp only [Act.put, List.setIfInBounds_toArray, List.set_cons_zero, List.set_cons_succ, i64_w, i32_w]
     rfl
    refine take_ (i := 0) (N := some 12) (v := ?_) (a' := ?_) #[true, false, true, true, true, true, true, false, false, true, false, false] rfl rfl (take_ofW HT_.out HW_.out (by kernel_rfl)) (fun _ _ _ h => h) (Or.inl ⟨by rfl, ?_⟩) hHeld ?_ ?_
    rotate_left
    ·rintro w' ⟨s0, s1, s2, s3⟩
     go_simp
     with_reducible rfl
    rotate_left
    ·simp only [Act.put, List.setIfInBounds_toArray, List.set_cons_zero, List.set_cons_succ, i64_w, i32_w]
     rfl
    refine take_ (i := 1) (N := some 13) (v := ?_) (a' := ?_) #[true, true, true, true, true, true, true, false, false, true, false, false] rfl rfl (take_ofW HT_.out HW_.out (by kernel_rfl)) (fun _ _ _ h => h) (Or.inl ⟨by rfl, ?_⟩) hHeld ?_ ?_
    rotate_left
    ·rintro w' ⟨s0, s1, s2, s3⟩
     go_simp
     with_reducible rfl
    rotate_left
    ·simp only [Act.put, List.setIfInBounds_toArray, List.set_cons_zero, List.set_cons_succ, i64_w, i32_w]
     rfl
    refine take_ (i := 7) (N := some 19) (v := ?_) (a' := ?_) #[true, true, true, true, true, true, true, true, false, true, false, false] rfl rfl (take_ofW HT_.out HW_.out (by kernel_rfl)) (fun _ _ _ h => h) (Or.inl ⟨by rfl, ?_⟩) hHeld ?_ ?_
    rotate_left
    ·rintro w' ⟨s0, s1, s2, s3⟩
     go_simp
     with_reducible rfl
    rotate_left
    ·simp only [Act.put, List.setIfInBounds_toArray, List.set_cons_zero, List.set_cons_succ, i64_w, i32_w]
     rfl
    refine one_ (i := 8) (N := some 20) #[true, true, true, true, true, true, true, true, true, true, false, false] rfl rfl (one_of HT_.out (by kernel_rfl)) (by decide) (fun K hK => ?_)
    refine goes_ Try.func46 (by kernel_rfl) rfl #[.agg #[.int .i64 a0_0, .int .i64 a0_1, .slice A0_2 l0_2.length c0_2], .int .i64 (rd t689 (ji9))] (by rfl) rfl rfl (by ((simp only [List.map_toArray, List.map_cons, List.map_nil])); (rfl)) ?_
    with_reducible refine (codewrightref04_Inv.calls k a0_0 a0_1 _ _ l0_2 (rd t689 (ji9)) t693 _ ?side1 ?side2 A12.out).mono ?_
    (case side1 => repeat ((exact (Kd.C_below HR0_2.out HB.out))))
    (case side2 => exact HC0_2.out)
    rintro e w19 ⟨rfl, hb⟩
    have HS3_ := (hb.cell (World.block_lt_of_cell? _ _ (hHeld.2.2.2))).trans (hHeld.2.2.2)
    refine ⟨_, rfl, ?_⟩
    have n0_ := Aside0.mk (Kd.R_below HO691.out hb)
    have n1_ := Aside0.mk (blk_below (g := gb688) (o := .cells #[.int .i64 a0_0, .int .i64 a0_1, .slice A0_2 l0_2.length c0_2] 24 (0, 0)) BK688.out hb)
    have n2_ := Aside0.mk (below_step HB.out hb)
    clear HO691 BK688 HB
    have HO691 := n0_
    have BK688 := n1_
    have HB := n2_
    clear n0_ n1_ n2_
    ((clear hb))
    refine hK.out _ _ ⟨(blk_cell BK688.out 0).trans rfl, (blk_cell BK688.out 1).trans rfl, (blk_cell BK688.out 2).trans rfl, HS3_⟩ (fun hHeld => ?_)
    clear hK K
    refine norm_ (a' := ?_) ?_ ?_
    rotate_left
    ·show Act.put _ (some 20) _ = _
     simp only [Act.put, List.setIfInBounds_toArray, List.set_cons_zero, List.set_cons_succ, i64_w, i32_w]
     rfl
    refine one_ (i := 10) (N := some 22) #[true, true, true, true, true, true, true, true, true, true, true, false] rfl rfl (one_of HT_.out (by kernel_rfl)) (by decide) (fun K hK => ?_)
    refine goes_ Try.func42 (by kernel_rfl) rfl #[.agg #[.int .i64 a0_0, .int .i64 a0_1, .slice A0_2 l0_2.length c0_2], .int .i64 t693, .slice (some ad692) t689.length co17] (by rfl) rfl rfl (by ((simp only [List.map_toArray, List.map_cons, List.map_nil])); (rfl)) ?_
    with_reducible refine (codewrightref05_Scale.calls k a0_0 a0_1 _ _ l0_2 t693 _ _ t689 t694 _ ?side1 ?side2 ?side3 ?side4 A13.out).mono ?_
    (case side1 => repeat ((exact (Kd.C_below HR0_2.out HB.out))))
    (case side2 => exact HC0_2.out)
    (case side3 => repeat ((exact (Kd.R_reads' HO691.out).2.2)))
    (case side4 => exact (Kd.R_reads' HO691.out).2.1)
    rintro e w20 ⟨v695, rfl, ho0, hb⟩
    have HS3_ := (hb.cell (World.block_lt_of_cell? _ _ (hHeld.2.2.2))).trans (hHeld.2.2.2)
    refine ⟨_, rfl, ?_⟩
    have n0_ := Aside0.mk (Kd.R_elder' HO691.out (Kd.R_base ho0) hb)
    have n1_ := Aside0.mk (Kd.R_lower (Kd.R_new' ho0 (Kd.R_lt HO691.out)) (below_size HB.out))
    have n2_ := Aside0.mk (blk_below (g := gb688) (o := .cells #[.int .i64 a0_0, .int .i64 a0_1, .slice A0_2 l0_2.length c0_2] 24 (0, 0)) BK688.out hb)
    have n3_ := Aside0.mk (below_step HB.out hb)
    clear HO691 BK688 HB
    have HO691 := n0_
    have HO696 := n1_
    have BK688 := n2_
    have HB := n3_
    clear n0_ n1_ n2_ n3_
    ((clear hb))
    ((clear ho0))
    refine hK.out _ _ ⟨(blk_cell BK688.out 0).trans rfl, (blk_cell BK688.out 1).trans rfl, (blk_cell BK688.out 2).trans rfl, HS3_⟩ (fun hHeld => ?_)
    clear hK K
    refine norm_ (a' := ?_) ?_ ?_
    rotate_left
    ·show Act.put _ (some 22) _ = _
     simp only [Act.put, List.setIfInBounds_toArray, List.set_cons_zero, List.set_cons_succ, i64_w, i32_w]
     rfl
    refine pure_ (i := 11) (N := some 4) (v := ?_) (a' := ?_) #[true, true, true, true, true, true, true, true, true, true, true, true] rfl rfl (any_of HT_.out (by kernel_rfl)) (fun _ _ _ h => h) (Or.inl ⟨by rfl, ?_⟩) ?_ ?_
    rotate_left
    ·intro w'
     go_simp
     with_reducible rfl
    rotate_left
    ·simp only [Act.put, List.setIfInBounds_toArray, List.set_cons_zero, List.set_cons_succ, i64_w, i32_w]
     rfl
    refine done_ (done_of HT_.out (by kernel_rfl)) ?_
    (go_wp2)
    go_ret
    exact ⟨_, by rfl, by exact Kd.R_mono HO696.out (fun _ hk => trivial), by exact HB.out⟩
   ·rw [if_neg c11] at H
    exact absurd H (by simp)
  ·rw [if_neg c10] at H
   exact absurd H (by simp)
end Go.Proofs.Ytiejggpmjapajaa.PA
end
section
namespace Go.Proofs.Ytiejggpmjapajaa.PA
open Go.RowKit Go.Proofs.YtiejggpmjapajaaW.PrintWords Go.Proofs.YtiejggpmjapajaaW.PrintLast Go.Proofs.YtiejggpmjapajaaW.PrintMore
attribute [local go_sem] max2_int min2_int max_two min_two max_three min_three max_four min_four
set_option linter.unusedVariables false
set_option linter.unusedSimpArgs false
end Go.Proofs.Ytiejggpmjapajaa.PA
end
section
namespace Go.Proofs.Ytiejggpmjapajaa.PA
open Go.RowKit Go.Proofs.YtiejggpmjapajaaW.PrintWords Go.Proofs.YtiejggpmjapajaaW.PrintLast Go.Proofs.YtiejggpmjapajaaW.PrintMore
attribute [local go_sem] max2_int min2_int max_two min_two max_three min_three max_four min_four
set_option linter.unusedVariables false
set_option linter.unusedSimpArgs false
end Go.Proofs.Ytiejggpmjapajaa.PA
end
section
namespace Go.Proofs.Ytiejggpmjapajaa.PA
open Go.RowKit Go.Proofs.YtiejggpmjapajaaW.PrintWords Go.Proofs.YtiejggpmjapajaaW.PrintLast Go.Proofs.YtiejggpmjapajaaW.PrintMore
attribute [local go_sem] max2_int min2_int max_two min_two max_three min_three max_four min_four
set_option linter.unusedVariables false
set_option linter.unusedSimpArgs false
end Go.Proofs.Ytiejggpmjapajaa.PA
end
section
namespace Go.Proofs.Ytiejggpmjapajaa.PA
open Go.RowKit Go.Proofs.YtiejggpmjapajaaW.PrintWords Go.Proofs.YtiejggpmjapajaaW.PrintLast Go.Proofs.YtiejggpmjapajaaW.PrintMore
attribute [local go_sem] max2_int min2_int max_two min_two max_three min_three max_four min_four
set_option linter.unusedVariables false
set_option linter.unusedSimpArgs false
end Go.Proofs.Ytiejggpmjapajaa.PA
end
section
namespace Go.Proofs.Ytiejggpmjapajaa.PA
open Go.RowKit Go.Proofs.YtiejggpmjapajaaW.PrintWords Go.Proofs.YtiejggpmjapajaaW.PrintLast Go.Proofs.YtiejggpmjapajaaW.PrintMore
attribute [local go_sem] max2_int min2_int max_two min_two max_three min_three max_four min_four
set_option linter.unusedVariables false
set_option linter.unusedSimpArgs false
end Go.Proofs.Ytiejggpmjapajaa.PA
end
section
namespace Go.Proofs.Ytiejggpmjapajaa.PA
open Go.RowKit Go.Proofs.YtiejggpmjapajaaW.PrintWords Go.Proofs.YtiejggpmjapajaaW.PrintLast Go.Proofs.YtiejggpmjapajaaW.PrintMore
theorem Ev.succ {α : Type} {g : Nat → Option α} {r : α} (h : Ev (fun k => g (k + 1)) r) : Ev g r := Ev.step (fun _ => rfl) h
theorem Ev.ifp {α : Type} {c : Prop} [Decidable c] {f g : Nat → Option α} {r : α} (h : c) (e : Ev f r) : Ev (fun k => if c then f k else g k) r := by simp only [if_pos h]; exact e
theorem Ev.ifn {α : Type} {c : Prop} [Decidable c] {f g : Nat → Option α} {r : α} (h : ¬ c) (e : Ev g r) : Ev (fun k => if c then f k else g k) r := by simp only [if_neg h]; exact e
theorem Ev.val {α : Type} {a r : α} (h : a = r) : Ev (fun _ => some a) r := h ▸ Ev.now a
theorem Ev.some_bind {α β : Type} {a : α} {f : Nat → α → Option β} {r : β} (h : Ev (fun k => f k a) r) : Ev (fun k => (some a).bind (f k)) r := h
theorem Ev.opt_bind {α β : Type} {o : Option α} {a : α} {f : Nat → α → Option β} {r : β} (h0 : o = some a) (h : Ev (fun k => f k a) r) : Ev (fun k => o.bind (f k)) r := by subst h0; exact h
theorem w64 {n : Int} (h : -4000000000000000000 ≤ n ∧ n ≤ 4000000000000000000) : wrap64 n = n := by unfold wrap64; omega
theorem rd_nat (xs : List Int) (j : Nat) : rd xs (j : Int) = xs.getD j 0 := by unfold rd; rw [Int.toNat_natCast]
theorem rd_set (xs : List Int) (i j : Nat) (v : Int) (h : i < xs.length) : (xs.set i v).getD j 0 = if i = j then v else xs.getD j 0 := by
  rw [List.getD_eq_getElem?_getD, List.getElem?_set]
  split
  · rename_i e; subst e; simp [h]
  · rw [List.getD_eq_getElem?_getD]
theorem tdiv_pos {a b : Int} (h : 0 ≤ a) : Int.tdiv a b = a / b := Int.tdiv_eq_ediv_of_nonneg h
theorem tmod_pos {a b : Int} (h : 0 ≤ a) : Int.tmod a b = a % b := Int.tmod_eq_emod_of_nonneg h
theorem getD_nat_lt (xs : List Int) (j : Nat) (h : xs.length ≤ j) : xs.getD j 0 = 0 := by
  rw [List.getD_eq_getElem?_getD, List.getElem?_eq_none h]; rfl
theorem getD_zeros (n j : Nat) : (List.replicate n (0 : Int)).getD j 0 = 0 := by
  rw [List.getD_eq_getElem?_getD, List.getElem?_replicate]; split <;> rfl
end Go.Proofs.Ytiejggpmjapajaa.PA
end
