/- Proved: for every input the law KeyequationRecovers returns true and leaves its arguments as they were; no conditions. Part 5 of 7 of the proof. -/
import Derived.Test.YtkdakjlopheefaaZKeyequationRecovers3
set_option linter.unusedSectionVars false
set_option linter.unusedSimpArgs false
set_option linter.unusedVariables false
section
namespace Go.Proofs.Ytkdakjlopheefaa.PA
open Go.RowKit Go.Proofs.YtkdakjlopheefaaW.PrintWords Go.Proofs.YtkdakjlopheefaaW.PrintLast Go.Proofs.YtkdakjlopheefaaW.PrintMore
attribute [local go_sem] max2_int min2_int max_two min_two max_three min_three max_four min_four
set_option linter.unusedVariables false
set_option linter.unusedSimpArgs false
def codewrightref04_Add.l0 : Nat → List Int → List Int → Int → Int → Int → List Int → Option (Int)
 | 0, _, _, _, _, _, _ => none
 | k + 1, x7, x8, x9, x544000, x544001, x544002 => if x9 < (x7.length : Int) then (if 0 ≤ x9 then (if x9 < (x8.length : Int) then (if x544000 = 0 then (none) else (codewrightref04_Add.l0 k (x7.set (x9 : Int).toNat (Int.tmod (wrap64 ((rd x7 x9) + (rd x8 x9))) x544000)) x8 (wrap64 (x9 + 1)) x544000 x544001 x544002)) else (none)) else (none)) else ((codewrightref04_Value.f k x544000 x544001 x544002 x7).bind fun t553 => (some t553))
def codewrightref04_Add.f (k : Nat) (a0_0 : Int) (a0_1 : Int) (l0_2 : List Int) (a1 : Int) (a2 : Int) : Option (Int) := (codewrightref04_Digits.f k a0_0 a0_1 l0_2 a1).bind fun t544 => ((codewrightref04_Digits.f k a0_0 a0_1 l0_2 a2).bind fun t547 => (codewrightref04_Add.l0 k t544 t547 0 a0_0 a0_1 l0_2))
def codewrightref04_Add.T6 : Bool × List (List Nat × List Nat) := (true, [([], []), ([], []), ([], []), ([], []), ([2, 3], [2, 3]), ([4], [4]), ([], []), ([], []), ([6, 7], [6, 7]), ([8], [8]), ([5, 9], [5, 9]), ([], []), ([11], [11]), ([10, 12], [10, 12]), ([0, 1, 0, 1, 2, 3, 4, 5, 6, 7, 8, 9, 10, 11, 12, 13], [0, 1]), ([14, 13, 0, 1, 2, 3, 4, 5, 6, 7, 8, 9, 10, 11, 12, 13], [13, 14])])
def codewrightref04_Add.B6 : List Nat := [0, 0, 0, 0, 12, 28, 0, 0, 192, 448, 1020, 0, 2048, 8188, 16383, 32767]
theorem codewrightref04_Add.tab6 : rtab .any (opsOf Try.f55 6) = codewrightref04_Add.T6 := by kernel_rfl
theorem codewrightref04_Add.bits6 : waitsOk codewrightref04_Add.T6.2 codewrightref04_Add.B6 = true := by kernel_rfl
set_option maxHeartbeats 8000000 in
set_option maxRecDepth 100000 in
theorem codewrightref04_Add.calls (k : Nat) (a0_0 : Int) (a0_1 : Int) (A0_2 : Option Addr) (c0_2 : Nat) (l0_2 : List Int) (a1 : Int) (a2 : Int) (r : Int) (w : World) (hr0_2 : Kd.C (Kd.int .i64) w A0_2 l0_2.length l0_2) (hc0_2 : l0_2.length ≤ c0_2) (h : codewrightref04_Add.f k a0_0 a0_1 l0_2 a1 a2 = some r) :
  Calls Try.prog 55 #[.agg #[.int .i64 a0_0, .int .i64 a0_1, .slice A0_2 l0_2.length c0_2], .int .i64 a1, .int .i64 a2] w fun e w' => e = .returned (.int .i64 r) ∧ Below w.heap.size w w' := by
 have hu24 := Try.underlying24
 have HR0_2 := Aside0.mk hr0_2
 have HC0_2 := Aside0.mk hc0_2
 clear hr0_2 hc0_2
 have HB := Aside0.mk (Below.refl w.heap.size w)
 have H : ((codewrightref04_Digits.f k a0_0 a0_1 l0_2 a1).bind fun t544 => ((codewrightref04_Digits.f k a0_0 a0_1 l0_2 a2).bind fun t547 => (codewrightref04_Add.l0 k t544 t547 0 a0_0 a0_1 l0_2))) = some r := h
 clear h
 obtain ⟨t544, A40, H⟩ := Option.bind_eq_some_iff.mp H
 replace H : ((codewrightref04_Digits.f k a0_0 a0_1 l0_2 a2).bind fun t547 => (codewrightref04_Add.l0 k t544 t547 0 a0_0 a0_1 l0_2)) = some r := H
 have A4 := Aside0.mk A40
 clear A40
 obtain ⟨t547, A50, H⟩ := Option.bind_eq_some_iff.mp H
 replace H : (codewrightref04_Add.l0 k t544 t547 0 a0_0 a0_1 l0_2) = some r := H
 have A5 := Aside0.mk A50
 clear A50
 have H' := Aside0.mk H
 clear H
 go_enter Try.func55, Try.ntmps55
 go_wp2_with (first | ((with_reducible refine gate_dst (N := 3) rfl ?_); refine box_event ?hg (N := 3) ?hd (cs := #[.int .i64 a0_0, .int .i64 a0_1, .slice A0_2 l0_2.length c0_2]) (t := 24) ?hr ?_; (case hd => rfl); (case hg => rfl); (case hr => (go_simp; done)); intro gb543 hg w6 hbox hb; have n0_ := Aside0.mk (below_step HB.out hb); have n1_ := Aside0.mk (hbox); have n2_ := Aside0.mk ((by rw [hg]; exact (below_size HB.out) : w.heap.size ≤ gb543)); have n3_ := Aside0.mk ((by rw [hg]; exact (below_size HB.out) : w.heap.size ≤ gb543)); clear HB; have HB := n0_; have BK543 := n1_; have GW543 := n2_; have GE543 := n3_; clear n0_ n1_ n2_ n3_; clear hb hbox hg; have hcz7_0 : w6.cell? ⟨gb543, 0, none⟩ = some (.int .i64 a0_0) := (blk_cell BK543.out 0).trans rfl; have hcz7_1 : w6.cell? ⟨gb543, 1, none⟩ = some (.int .i64 a0_1) := (blk_cell BK543.out 1).trans rfl; have hcz7_2 : w6.cell? ⟨gb543, 2, none⟩ = some (.slice A0_2 l0_2.length c0_2) := (blk_cell BK543.out 2).trans rfl; have hfz7_0 := blk_frozen BK543.out 0; have hfz7_1 := blk_frozen BK543.out 1; have hfz7_2 := blk_frozen BK543.out 2) | ((with_reducible refine gate_callee (f := 69) rfl ?_); refine goesL_ (some 12) rfl rfl Try.func69 (by kernel_rfl) rfl #[.agg #[.int .i64 a0_0, .int .i64 a0_1, .slice A0_2 l0_2.length c0_2], .int .i64 a1] rfl (by ((simp only [List.map_toArray, List.map_cons, List.map_nil])); (rfl)) ?_; (with_reducible refine (codewrightref04_Digits.calls k a0_0 a0_1 _ _ l0_2 a1 t544 _ ?side1 ?side2 A4.out).mono ?_); (case side1 => repeat ((exact (Kd.C_below HR0_2.out HB.out)))); (case side2 => exact HC0_2.out); rintro e w8 ⟨v545, rfl, ho0, hb⟩; refine ⟨_, rfl, ?_⟩; have n0_ := Aside0.mk (Kd.R_lower ho0 (below_size HB.out)); have n1_ := Aside0.mk (blk_below (g := gb543) (o := .cells #[.int .i64 a0_0, .int .i64 a0_1, .slice A0_2 l0_2.length c0_2] 24 (0, 0)) BK543.out hb); have n2_ := Aside0.mk (below_step HB.out hb); clear BK543; clear HB; have HO546 := n0_; have BK543 := n1_; have HB := n2_; clear n0_ n1_ n2_; ((clear hb)); (skip); (skip); (skip); ((clear ho0)); have hcz9_0 : w8.cell? ⟨gb543, 0, none⟩ = some (.int .i64 a0_0) := (blk_cell BK543.out 0).trans rfl; have hcz9_1 : w8.cell? ⟨gb543, 1, none⟩ = some (.int .i64 a0_1) := (blk_cell BK543.out 1).trans rfl; have hcz9_2 : w8.cell? ⟨gb543, 2, none⟩ = some (.slice A0_2 l0_2.length c0_2) := (blk_cell BK543.out 2).trans rfl; have hfz9_0 := blk_frozen BK543.out 0; have hfz9_1 := blk_frozen BK543.out 1; have hfz9_2 := blk_frozen BK543.out 2) | ((with_reducible refine gate_callee (f := 69) rfl ?_); refine goesL_ (some 15) rfl rfl Try.func69 (by kernel_rfl) rfl #[.agg #[.int .i64 a0_0, .int .i64 a0_1, .slice A0_2 l0_2.length c0_2], .int .i64 a2] rfl (by ((simp only [List.map_toArray, List.map_cons, List.map_nil])); (rfl)) ?_; (with_reducible refine (codewrightref04_Digits.calls k a0_0 a0_1 _ _ l0_2 a2 t547 _ ?side1 ?side2 A5.out).mono ?_); (case side1 => repeat ((exact (Kd.C_below HR0_2.out HB.out)))); (case side2 => exact HC0_2.out); rintro e w10 ⟨v548, rfl, ho0, hb⟩; refine ⟨_, rfl, ?_⟩; have n0_ := Aside0.mk (Kd.R_elder' HO546.out (Kd.R_base ho0) hb); have n1_ := Aside0.mk (Kd.R_lower (Kd.R_new' ho0 (Kd.R_lt HO546.out)) (below_size HB.out)); have n2_ := Aside0.mk (blk_below (g := gb543) (o := .cells #[.int .i64 a0_0, .int .i64 a0_1, .slice A0_2 l0_2.length c0_2] 24 (0, 0)) BK543.out hb); have n3_ := Aside0.mk (below_step HB.out hb); clear HO546; clear BK543; clear HB; have HO546 := n0_; have HO549 := n1_; have BK543 := n2_; have HB := n3_; clear n0_ n1_ n2_ n3_; ((clear hb)); (skip); (skip); (skip); ((clear ho0))))
 go_loopg [9] k (fun kq v9 w' => ∃ (x7_1 : List Int) (x9_1 : Int), v9 = .int .i64 x9_1 ∧ Aside0 (codewrightref04_Add.l0 kq x7_1 t547 x9_1 a0_0 a0_1 l0_2 = some r) ∧ Aside0 (kq ≤ k) ∧ Aside0 (Kd.R (Kd.int .i64) 3 w' w.heap.size (fun k_ => some k_ ≠ (v548 : Value).ownBlock) v545 x7_1) ∧ Aside0 (Kd.R (Kd.int .i64) 3 w' w.heap.size (fun k_ => some k_ ≠ (v545 : Value).ownBlock) v548 t547) ∧ Aside0 (w'.heap[gb543]? = some (.cells #[.int .i64 a0_0, .int .i64 a0_1, (.slice A0_2 l0_2.length c0_2)] 24 (0, 0))) ∧ Aside0 (Below w.heap.size w w'))
 case atStart => exact ⟨(t544), (0), (by rfl), H', ⟨Nat.le_refl _⟩, ⟨by exact Kd.R_mono HO546.out (fun _ hk => hk.2)⟩, ⟨by exact Kd.R_mono HO549.out (fun _ hk => hk.2)⟩, ⟨BK543.out⟩, ⟨HB.out⟩⟩
 case round =>
  clear H' hcz7_0 hcz7_1 hcz7_2 hcz9_0 hcz9_1 hcz9_2 hfz7_0 hfz7_1 hfz7_2 hfz9_0 hfz9_1 hfz9_2
  obtain ⟨x7_1, x9_1, rfl, HA, HK1, HO_7, HO_8, BK543, HB⟩ := hrel
  cases gk with
  | zero => exact absurd HA.out (by simp [codewrightref04_Add.l0])
  | succ k1 =>
   have H := HA.out
   clear HA
   simp only [codewrightref04_Add.l0] at H
   by_cases c11 : x9_1 < (x7_1.length : Int)
   ·rw [if_pos c11] at H
    have c11b0 : decide (x9_1 < (x7_1.length : Int)) = true := decide_eq_true c11
    clear c11
    by_cases c12 : 0 ≤ x9_1
    ·rw [if_pos c12] at H
     have c12b0 : decide (0 ≤ x9_1) = true := decide_eq_true c12
     clear c12
     by_cases c13 : x9_1 < (t547.length : Int)
     ·rw [if_pos c13] at H
      have c13b0 : decide (x9_1 < (t547.length : Int)) = true := decide_eq_true c13
      clear c13
      by_cases c14 : a0_0 = 0
      ·rw [if_pos c14] at H
       exact absurd H (by simp)
      ·rw [if_neg c14] at H
       have c14b0 : (a0_0 == 0) = false := beq_eq_false_iff_ne.mpr c14
       have c14b1 : (a0_0 != 0) = true := bne_iff_ne.mpr c14
       obtain ⟨y552, hy552⟩ : ∃ y_ : List Int, y_ = (x7_1.set (x9_1 : Int).toNat (Int.tmod (wrap64 ((rd x7_1 x9_1) + (rd t547 x9_1))) a0_0)) := ⟨_, rfl⟩
       replace H : (codewrightref04_Add.l0 k1 y552 t547 (wrap64 (x9_1 + 1)) a0_0 a0_1 l0_2) = some r := by (rw [hy552]; with_reducible exact H)
       have Ny552 := Aside0.mk hy552
       clear hy552
       have H' := Aside0.mk H
       clear H
       obtain ⟨Ao16, co16, eo16⟩ := Kd.R_slice HO_7.out
       subst eo16
       (go_wp2)
       have n0_ := Aside0.mk (Kd.R_drew HO_7.out)
       have n1_ := Aside0.mk (Kd.R_drew HO_8.out)
       have n2_ := Aside0.mk (blk_drew BK543.out)
       have n3_ := Aside0.mk (below_drew1 HB.out)
       clear HO_7 HO_8 BK543 HB
       have HO_7 := n0_
       have HO_8 := n1_
       have BK543 := n2_
       have HB := n3_
       clear n0_ n1_ n2_ n3_
       have p550 : 0 ≤ (x9_1 : Int) := of_decide_eq_true (by (with_reducible assumption))
       have q550 : x9_1 < (x7_1.length : Int) := of_decide_eq_true (by (with_reducible assumption))
       obtain ⟨ad550, e550, hx550_0⟩ := Kd.at_int (Kd.R_reads' HO_7.out).2.2 x9_1 p550 q550
       cases e550
       replace p550 := eq_true p550
       replace q550 := eq_true q550
       obtain ⟨Ao18, co18, eo18⟩ := Kd.R_slice HO_8.out
       ((subst eo18))
       have p551 : 0 ≤ (x9_1 : Int) := of_decide_eq_true (by (with_reducible assumption))
       have q551 : x9_1 < (t547.length : Int) := of_decide_eq_true (by (with_reducible assumption))
       obtain ⟨ad551, e551, hx551_0⟩ := Kd.at_int (Kd.R_reads' HO_8.out).2.2 x9_1 p551 q551
       cases e551
       replace p551 := eq_true p551
       replace q551 := eq_true q551
       have p15 : 0 ≤ (x9_1 : Int) := of_decide_eq_true (by (with_reducible assumption))
       have q15 : (x9_1 : Int) < ((x7_1.length : Int) : Int) := of_decide_eq_true (by (with_reducible assumption))
       obtain ⟨go15, co15, eo15, gb15, gl15, cl15, HG15⟩ := Kd.R_form HO_7.out (by omega)
       ((cases eo15))
       have GB15 := Aside0.mk gb15
       have GG15 := Aside0.mk HG15
       clear gb15 gl15 HG15
       ((simp only [add_plain] at hx550_0))
       obtain ⟨hx15_0, hf15_0⟩ := Kd.R_celln 0 HO_7.out (x9_1 : Int) p15 q15
       replace p15 := eq_true p15
       replace q15 := eq_true q15
       have HP19 := Kd.R_putn HO_7.out (x9_1 : Int) (Int.tmod (wrap64 ((rd x7_1 x9_1) + (rd t547 x9_1))) a0_0)
       rw [← Ny552.out] at HP19
       have HQ19 := Aside0.mk HP19
       clear HP19
       refine start_ (n := 16) (S := fun w' => w'.cell? ⟨gb543, 0, none⟩ = some (.int .i64 a0_0) ∧ w'.cell? ⟨gb543, 1, none⟩ = some (.int .i64 a0_1) ∧ w'.cell? ⟨gb543, 2, none⟩ = some (.slice A0_2 l0_2.length c0_2) ∧ w'.cell? ⟨go15, (x9_1).toNat, none⟩ = some (.int .i64 (rd x7_1 x9_1)) ∧ w'.cell? (ad551.add (x9_1).toNat) = some (.int .i64 (rd t547 x9_1))) (ds := [15]) (bm 16 0) (by kernel_rfl) rfl rfl ⟨(blk_cell BK543.out 0).trans rfl, (blk_cell BK543.out 1).trans rfl, (blk_cell BK543.out 2).trans rfl, hx550_0, hx551_0⟩ (fun hHeld => ?_); refine with_tabW codewrightref04_Add.tab6 codewrightref04_Add.bits6 (fun HT_ HW_ => ?_)
       generalize wr.drew = w17 at HO_7 HO_8 BK543 HB GG15 HQ19 hf15_0 hx15_0 hx550_0 hx551_0 hHeld ⊢
       refine pure_ (i := 0) (N := some 22) (v := ?_) (a' := ?_) (bm 16 1) rfl rfl (any_of HT_.out (by kernel_rfl)) (fun _ _ _ h => h) (Or.inl ⟨by rfl, ?_⟩) ?_ ?_;rotate_left;(intro w';go_simp;with_reducible rfl);rotate_left;(simp only [ps_];rfl)
       refine pure_ (i := 1) (N := some 23) (v := ?_) (a' := ?_) (bm 16 3) rfl rfl (any_of HT_.out (by kernel_rfl)) (fun _ _ _ h => h) (Or.inl ⟨by rfl, ?_⟩) ?_ ?_;rotate_left;(intro w';go_simp;with_reducible rfl);rotate_left;(simp only [ps_];rfl)
       refine pure_ (i := 2) (N := some 24) (v := ?_) (a' := ?_) (bm 16 7) rfl rfl (any_of HT_.out (by kernel_rfl)) (fun _ _ _ h => h) (Or.inl ⟨by rfl, ?_⟩) ?_ ?_;rotate_left;(intro w';go_simp;with_reducible rfl);rotate_left;(simp only [ps_];rfl)
       refine pure_ (i := 3) (N := some 25) (v := ?_) (a' := ?_) (bm 16 15) rfl rfl (any_of HT_.out (by kernel_rfl)) (fun _ _ _ h => h) (Or.inl ⟨by rfl, ?_⟩) ?_ ?_;rotate_left;(intro w';go_simp;with_reducible rfl);rotate_left;(simp only [ps_];rfl)
       refine pure_ (i := 4) (N := some 26) (v := ?_) (a' := ?_) (bm 16 31) rfl rfl (any_of HT_.out (by kernel_rfl)) (fun _ _ _ h => h) (Or.inl ⟨by rfl, ?_⟩) ?_ ?_;rotate_left;(intro w';go_simp;with_reducible rfl);rotate_left;(simp only [ps_];rfl)
       refine pure_ (i := 6) (N := some 28) (v := ?_) (a' := ?_) (bm 16 95) rfl rfl (any_of HT_.out (by kernel_rfl)) (fun _ _ _ h => h) (Or.inl ⟨by rfl, ?_⟩) ?_ ?_;rotate_left;(intro w';go_simp;with_reducible rfl);rotate_left;(simp only [ps_];rfl)
       refine pure_ (i := 7) (N := some 29) (v := ?_) (a' := ?_) (bm 16 223) rfl rfl (any_of HT_.out (by kernel_rfl)) (fun _ _ _ h => h) (Or.inl ⟨by rfl, ?_⟩) ?_ ?_;rotate_left;(intro w';go_simp;with_reducible rfl);rotate_left;(simp only [ps_];rfl)
       refine pure_ (i := 8) (N := some 30) (v := ?_) (a' := ?_) (bm 16 479) rfl rfl (any_of HT_.out (by kernel_rfl)) (fun _ _ _ h => h) (Or.inl ⟨by rfl, ?_⟩) ?_ ?_;rotate_left;(intro w';go_simp;with_reducible rfl);rotate_left;(simp only [ps_];rfl)
       refine pure_ (i := 11) (N := some 33) (v := ?_) (a' := ?_) (bm 16 2527) rfl rfl (any_of HT_.out (by kernel_rfl)) (fun _ _ _ h => h) (Or.inl ⟨by rfl, ?_⟩) ?_ ?_;rotate_left;(intro w';go_simp;with_reducible rfl);rotate_left;(simp only [ps_];rfl)
       refine take_ (i := 5) (N := some 27) (v := ?_) (a' := ?_) (bm 16 2559) rfl rfl (take_ofW HT_.out HW_.out (by kernel_rfl)) (fun _ _ _ h => h) (Or.inl ⟨by rfl, ?_⟩) hHeld ?_ ?_;rotate_left;(rintro w' ⟨s0, s1, s2, s3, s4⟩;go_simp;with_reducible rfl);rotate_left;(simp only [ps_];rfl)
       refine take_ (i := 9) (N := some 31) (v := ?_) (a' := ?_) (bm 16 3071) rfl rfl (take_ofW HT_.out HW_.out (by kernel_rfl)) (fun _ _ _ h => h) (Or.inl ⟨by rfl, ?_⟩) hHeld ?_ ?_;rotate_left;(rintro w' ⟨s0, s1, s2, s3, s4⟩;go_simp;with_reducible rfl);rotate_left;(simp only [ps_];rfl)
       refine pure_ (i := 10) (N := some 32) (v := ?_) (a' := ?_) (bm 16 4095) rfl rfl (any_of HT_.out (by kernel_rfl)) (fun _ _ _ h => h) (Or.inl ⟨by rfl, ?_⟩) ?_ ?_;rotate_left;(intro w';go_simp;with_reducible rfl);rotate_left;(simp only [ps_];rfl)
       refine take_ (i := 12) (N := some 34) (v := ?_) (a' := ?_) (bm 16 8191) rfl rfl (take_ofW HT_.out HW_.out (by kernel_rfl)) (fun _ _ _ h => h) (Or.inl ⟨by rfl, ?_⟩) hHeld ?_ ?_;rotate_left;(rintro w' ⟨s0, s1, s2, s3, s4⟩;go_simp;with_reducible rfl);rotate_left;(simp only [ps_];rfl)
       refine pure_ (i := 13) (N := some 35) (v := ?_) (a' := ?_) (bm 16 16383) rfl rfl (any_of HT_.out (by kernel_rfl)) (fun _ _ _ h => h) (Or.inl ⟨by rfl, ?_⟩) ?_ ?_;rotate_left;(intro w';go_simp;with_reducible rfl);rotate_left;(simp only [ps_];rfl)
       refine pure_ (i := 14) (N := some 36) (v := ?_) (a' := ?_) (bm 16 32767) rfl rfl (any_of HT_.out (by kernel_rfl)) (fun _ _ _ h => h) (Or.inl ⟨by rfl, ?_⟩) ?_ ?_;rotate_left;(intro w';go_simp;with_reducible rfl);rotate_left;(simp only [ps_];rfl)
       refine last_ (i := 15) (N := none) (bm 16 65535) rfl rfl (one_of HT_.out (by kernel_rfl)) (by decide) (fun K hK => ?_)
       refine skip_ (w1 := ?_) (by rfl) rfl ?_ ?_
       rotate_left
       ·go_simp
        rfl
       refine hK.out _ _ ?_
       clear hK K
       refine done_ (done_of HT_.out (by kernel_rfl)) ?_
       (go_wp2)
       go_roundg k1
       case measure => have := HK1.out; omega
       case rel => exact ⟨(y552), (wrap64 (x9_1 + 1)), (by rfl), H', ⟨by have := HK1.out; omega⟩, ⟨HQ19.out⟩, ⟨by exact Kd.R_mono (Kd.R_far (p := ⟨go15, (x9_1 : Int).toNat, none⟩) (Kd.R_mono HO_8.out (fun k_ hk => (⟨hk, fun e_ => hk (by rw [e_]; rfl)⟩ : _ ∧ k_ ≠ go15))) (fun _ hk => hk.2) (.int .i64 (Int.tmod (wrap64 ((rd x7_1 x9_1) + (rd t547 x9_1))) a0_0))) (fun _ hk => hk.1)⟩, ⟨by (with_reducible repeat (fail)); refine blk_far ?_ (by have h_ := Kd.R_ne HO_7.out BK543.out (by decide); intro e_; exact h_ (by rw [e_]; rfl)) _; (with_reducible repeat (fail)); exact BK543.out⟩, ⟨by repeat ((with_reducible first | (exact HB.out) | (refine below_set ?_ GB15.out)))⟩⟩
     ·rw [if_neg c13] at H
      exact absurd H (by simp)
    ·rw [if_neg c12] at H
     exact absurd H (by simp)
   ·rw [if_neg c11] at H
    have c11b0 : decide (x9_1 < (x7_1.length : Int)) = false := decide_eq_false c11
    clear c11
    obtain ⟨t553, A200, H⟩ := Option.bind_eq_some_iff.mp H
    replace H : (some t553) = some r := H
    have A20 := Aside0.mk A200
    clear A200
    obtain rfl := Option.some.inj H
    obtain ⟨Ao21, co21, eo21⟩ := Kd.R_slice HO_7.out
    subst eo21
    have hcz22_0 : wr.cell? ⟨gb543, 0, none⟩ = some (.int .i64 a0_0) := (blk_cell BK543.out 0).trans rfl
    have hcz22_1 : wr.cell? ⟨gb543, 1, none⟩ = some (.int .i64 a0_1) := (blk_cell BK543.out 1).trans rfl
    have hcz22_2 : wr.cell? ⟨gb543, 2, none⟩ = some (.slice A0_2 l0_2.length c0_2) := (blk_cell BK543.out 2).trans rfl
    have hfz22_0 := blk_frozen BK543.out 0
    have hfz22_1 := blk_frozen BK543.out 1
    have hfz22_2 := blk_frozen BK543.out 2
    go_wp2_with (((with_reducible refine gate_callee (f := 70) rfl ?_); refine goesL_ (some 39) rfl rfl Try.func70 (by kernel_rfl) rfl #[.agg #[.int .i64 a0_0, .int .i64 a0_1, .slice A0_2 l0_2.length c0_2], .slice Ao21 x7_1.length co21] rfl (by ((simp only [List.map_toArray, List.map_cons, List.map_nil])); (rfl)) ?_; (with_reducible refine (codewrightref04_Value.calls k1 a0_0 a0_1 _ _ l0_2 _ _ x7_1 t553 _ ?side1 ?side2 ?side3 ?side4 A20.out).mono ?_); (case side1 => repeat ((exact (Kd.C_below HR0_2.out HB.out)))); (case side2 => exact HC0_2.out); (case side3 => repeat ((exact (Kd.R_reads' HO_7.out).2.2))); (case side4 => exact (Kd.R_reads' HO_7.out).2.1); rintro e w23 ⟨rfl, hb⟩; refine ⟨_, rfl, ?_⟩; have n0_ := Aside0.mk (Kd.R_below HO_7.out hb); have n1_ := Aside0.mk (Kd.R_below HO_8.out hb); have n2_ := Aside0.mk (blk_below (g := gb543) (o := .cells #[.int .i64 a0_0, .int .i64 a0_1, .slice A0_2 l0_2.length c0_2] 24 (0, 0)) BK543.out hb); have n3_ := Aside0.mk (below_step HB.out hb); clear HO_7; clear HO_8; clear BK543; clear HB; have HO_7 := n0_; have HO_8 := n1_; have BK543 := n2_; have HB := n3_; clear n0_ n1_ n2_ n3_; ((clear hb)); (skip); (skip); (skip)))
    go_ret
    exact ⟨by rfl, by exact HB.out⟩
def codewrightref05_Eval.l0 : Nat → List Int → Int → Int → Int → Int → Int → Int → List Int → Option (Int)
 | 0, _, _, _, _, _, _, _, _ => none
 | k + 1, x1, x2, x7, x8, x9, x555000, x555001, x555002 => if x9 < (x1.length : Int) then (if 0 ≤ x9 then ((codewrightref04_Mul.f k x555000 x555001 x555002 (rd x1 x9) x8).bind fun t556 => ((codewrightref04_Add.f k x555000 x555001 x555002 x7 t556).bind fun t557 => ((codewrightref04_Mul.f k x555000 x555001 x555002 x8 x2).bind fun t558 => (codewrightref05_Eval.l0 k x1 x2 t557 t558 (wrap64 (x9 + 1)) x555000 x555001 x555002)))) else (none)) else (some x7)
def codewrightref05_Eval.f (k : Nat) (a0_0 : Int) (a0_1 : Int) (l0_2 : List Int) (l1 : List Int) (a2 : Int) : Option (Int) := codewrightref05_Eval.l0 k l1 a2 0 1 0 a0_0 a0_1 l0_2
def codewrightref05_Eval.T6 : Bool × List (List Nat × List Nat) := (true, [([], []), ([], []), ([], []), ([], []), ([], []), ([3, 4], [3, 4]), ([5], [5]), ([], []), ([2, 6, 7], [2, 6, 7]), ([0, 1, 8, 8], [0, 1, 8]), ([9, 9, 0, 1, 2, 3, 4, 5, 6, 7, 8, 9], [1, 9])])
def codewrightref05_Eval.B6 : List Nat := [0, 0, 0, 0, 0, 24, 56, 0, 252, 511, 1023]
theorem codewrightref05_Eval.tab6 : rtab .any (opsOf Try.f39 6) = codewrightref05_Eval.T6 := by kernel_rfl
theorem codewrightref05_Eval.bits6 : waitsOk codewrightref05_Eval.T6.2 codewrightref05_Eval.B6 = true := by kernel_rfl
set_option maxHeartbeats 8000000 in
set_option maxRecDepth 100000 in
theorem codewrightref05_Eval.calls (k : Nat) (a0_0 : Int) (a0_1 : Int) (A0_2 : Option Addr) (c0_2 : Nat) (l0_2 : List Int) (A1 : Option Addr) (c1 : Nat) (l1 : List Int) (a2 : Int) (r : Int) (w : World) (hr0_2 : Kd.C (Kd.int .i64) w A0_2 l0_2.length l0_2) (hc0_2 : l0_2.length ≤ c0_2) (hr1 : Kd.C (Kd.int .i64) w A1 l1.length l1) (hc1 : l1.length ≤ c1) (h : codewrightref05_Eval.f k a0_0 a0_1 l0_2 l1 a2 = some r) :
  Calls Try.prog 39 #[.agg #[.int .i64 a0_0, .int .i64 a0_1, .slice A0_2 l0_2.length c0_2], .slice A1 l1.length c1, .int .i64 a2] w fun e w' => e = .returned (.int .i64 r) ∧ Below w.heap.size w w' := by
 have hu24 := Try.underlying24
 have HR0_2 := Aside0.mk hr0_2
 have HC0_2 := Aside0.mk hc0_2
 clear hr0_2 hc0_2
 have HR1 := Aside0.mk hr1
 have HC1 := Aside0.mk hc1
 clear hr1 hc1
 have HB := Aside0.mk (Below.refl w.heap.size w)
 have H : (codewrightref05_Eval.l0 k l1 a2 0 1 0 a0_0 a0_1 l0_2) = some r := h
 clear h
 have H' := Aside0.mk H
 clear H
 go_enter Try.func39, Try.ntmps39
 go_wp2_with (((with_reducible refine gate_dst (N := 3) rfl ?_); refine box_event ?hg (N := 3) ?hd (cs := #[.int .i64 a0_0, .int .i64 a0_1, .slice A0_2 l0_2.length c0_2]) (t := 24) ?hr ?_; (case hd => rfl); (case hg => rfl); (case hr => (go_simp; done)); intro gb554 hg w4 hbox hb; have n0_ := Aside0.mk (below_step HB.out hb); have n1_ := Aside0.mk (hbox); have n2_ := Aside0.mk ((by rw [hg]; exact (below_size HB.out) : w.heap.size ≤ gb554)); have n3_ := Aside0.mk ((by rw [hg]; exact (below_size HB.out) : w.heap.size ≤ gb554)); clear HB; have HB := n0_; have BK554 := n1_; have GW554 := n2_; have GE554 := n3_; clear n0_ n1_ n2_ n3_; clear hb hbox hg))
 go_loopg [7, 8, 9] k (fun kq v7 v8 v9 w' => ∃ (x7_1 : Int) (x8_1 : Int) (x9_1 : Int), v7 = .int .i64 x7_1 ∧ v8 = .int .i64 x8_1 ∧ v9 = .int .i64 x9_1 ∧ Aside0 (codewrightref05_Eval.l0 kq l1 a2 x7_1 x8_1 x9_1 a0_0 a0_1 l0_2 = some r) ∧ Aside0 (kq ≤ k) ∧ Aside0 (w'.heap[gb554]? = some (.cells #[.int .i64 a0_0, .int .i64 a0_1, (.slice A0_2 l0_2.length c0_2)] 24 (0, 0))) ∧ Aside0 (Below w.heap.size w w'))
 case atStart => exact ⟨(0), (1), (0), (by rfl), (by rfl), (by rfl), H', ⟨Nat.le_refl _⟩, ⟨BK554.out⟩, ⟨HB.out⟩⟩
 case round =>
  clear H'
  obtain ⟨x7_1, x8_1, x9_1, rfl, rfl, rfl, HA, HK1, BK554, HB⟩ := hrel
  cases gk with
  | zero => exact absurd HA.out (by simp [codewrightref05_Eval.l0])
  | succ k1 =>
   have H := HA.out
   clear HA
   simp only [codewrightref05_Eval.l0] at H
   by_cases c5 : x9_1 < (l1.length : Int)
   ·rw [if_pos c5] at H
    have c5b0 : decide (x9_1 < (l1.length : Int)) = true := decide_eq_true c5
    clear c5
    by_cases c6 : 0 ≤ x9_1
    ·rw [if_pos c6] at H
     have c6b0 : decide (0 ≤ x9_1) = true := decide_eq_true c6
     clear c6
     obtain ⟨t556, A70, H⟩ := Option.bind_eq_some_iff.mp H
     replace H : ((codewrightref04_Add.f k1 a0_0 a0_1 l0_2 x7_1 t556).bind fun t557 => ((codewrightref04_Mul.f k1 a0_0 a0_1 l0_2 x8_1 a2).bind fun t558 => (codewrightref05_Eval.l0 k1 l1 a2 t557 t558 (wrap64 (x9_1 + 1)) a0_0 a0_1 l0_2))) = some r := H
     have A7 := Aside0.mk A70
     clear A70
     obtain ⟨t557, A80, H⟩ := Option.bind_eq_some_iff.mp H
     replace H : ((codewrightref04_Mul.f k1 a0_0 a0_1 l0_2 x8_1 a2).bind fun t558 => (codewrightref05_Eval.l0 k1 l1 a2 t557 t558 (wrap64 (x9_1 + 1)) a0_0 a0_1 l0_2)) = some r := H
     have A8 := Aside0.mk A80
     clear A80
     obtain ⟨t558, A90, H⟩ := Option.bind_eq_some_iff.mp H
     replace H : (codewrightref05_Eval.l0 k1 l1 a2 t557 t558 (wrap64 (x9_1 + 1)) a0_0 a0_1 l0_2) = some r := H
     have A9 := Aside0.mk A90
     clear A90
     have H' := Aside0.mk H
     clear H
     (go_wp2)
     have n0_ := Aside0.mk (blk_drew BK554.out)
     have n1_ := Aside0.mk (below_drew1 HB.out)
     clear BK554 HB
     have BK554 := n0_
     have HB := n1_
     clear n0_ n1_
     have p555 : 0 ≤ (x9_1 : Int) := of_decide_eq_true (by (with_reducible assumption))
     have q555 : x9_1 < (l1.length : Int) := of_decide_eq_true (by (with_reducible assumption))
     obtain ⟨ad555, e555, hx555_0⟩ := Kd.at_int HR1.out x9_1 p555 q555
     have hw555_0 := hx555_0
     cases e555
     replace hx555_0 := (HB.out.cell (World.block_lt_of_cell? w _ hx555_0)).trans hx555_0
     replace p555 := eq_true p555
     replace q555 := eq_true q555
     refine start_ (n := 11) (S := fun w' => w'.cell? ⟨gb554, 0, none⟩ = some (.int .i64 a0_0) ∧ w'.cell? ⟨gb554, 1, none⟩ = some (.int .i64 a0_1) ∧ w'.cell? ⟨gb554, 2, none⟩ = some (.slice A0_2 l0_2.length c0_2) ∧ w'.cell? (ad555.add (x9_1).toNat) = some (.int .i64 (rd l1 x9_1))) (ds := []) (bm 11 0) (by kernel_rfl) rfl rfl ⟨(blk_cell BK554.out 0).trans rfl, (blk_cell BK554.out 1).trans rfl, (blk_cell BK554.out 2).trans rfl, ((HB.out.cell (World.block_lt_of_cell? w _ hw555_0)).trans hw555_0)⟩ (fun hHeld => ?_); refine with_tabW codewrightref05_Eval.tab6 codewrightref05_Eval.bits6 (fun HT_ HW_ => ?_)
     generalize wr.drew = w10 at BK554 HB hx555_0 hHeld ⊢
     refine pure_ (i := 1) (N := some 17) (v := ?_) (a' := ?_) (bm 11 2) rfl rfl (any_of HT_.out (by kernel_rfl)) (fun _ _ _ h => h) (Or.inl ⟨by rfl, ?_⟩) ?_ ?_;rotate_left;(intro w';go_simp;with_reducible rfl);rotate_left;(simp only [ps_];rfl)
     refine pure_ (i := 3) (N := some 19) (v := ?_) (a' := ?_) (bm 11 10) rfl rfl (any_of HT_.out (by kernel_rfl)) (fun _ _ _ h => h) (Or.inl ⟨by rfl, ?_⟩) ?_ ?_;rotate_left;(intro w';go_simp;with_reducible rfl);rotate_left;(simp only [ps_];rfl)
     refine pure_ (i := 4) (N := some 20) (v := ?_) (a' := ?_) (bm 11 26) rfl rfl (any_of HT_.out (by kernel_rfl)) (fun _ _ _ h => h) (Or.inl ⟨by rfl, ?_⟩) ?_ ?_;rotate_left;(intro w';go_simp;with_reducible rfl);rotate_left;(simp only [ps_];rfl)
     refine pure_ (i := 5) (N := some 21) (v := ?_) (a' := ?_) (bm 11 58) rfl rfl (any_of HT_.out (by kernel_rfl)) (fun _ _ _ h => h) (Or.inl ⟨by rfl, ?_⟩) ?_ ?_;rotate_left;(intro w';go_simp;with_reducible rfl);rotate_left;(simp only [ps_];rfl)
     refine pure_ (i := 7) (N := some 23) (v := ?_) (a' := ?_) (bm 11 186) rfl rfl (any_of HT_.out (by kernel_rfl)) (fun _ _ _ h => h) (Or.inl ⟨by rfl, ?_⟩) ?_ ?_;rotate_left;(intro w';go_simp;with_reducible rfl);rotate_left;(simp only [ps_];rfl)
     refine take_ (i := 0) (N := some 16) (v := ?_) (a' := ?_) (bm 11 187) rfl rfl (take_ofW HT_.out HW_.out (by kernel_rfl)) (fun _ _ _ h => h) (Or.inl ⟨by rfl, ?_⟩) hHeld ?_ ?_;rotate_left;(rintro w' ⟨s0, s1, s2, s3⟩;go_simp;with_reducible rfl);rotate_left;(simp only [ps_];rfl)
     refine take_ (i := 2) (N := some 18) (v := ?_) (a' := ?_) (bm 11 191) rfl rfl (take_ofW HT_.out HW_.out (by kernel_rfl)) (fun _ _ _ h => h) (Or.inl ⟨by rfl, ?_⟩) hHeld ?_ ?_;rotate_left;(rintro w' ⟨s0, s1, s2, s3⟩;go_simp;with_reducible rfl);rotate_left;(simp only [ps_];rfl)
     refine take_ (i := 6) (N := some 22) (v := ?_) (a' := ?_) (bm 11 255) rfl rfl (take_ofW HT_.out HW_.out (by kernel_rfl)) (fun _ _ _ h => h) (Or.inl ⟨by rfl, ?_⟩) hHeld ?_ ?_;rotate_left;(rintro w' ⟨s0, s1, s2, s3⟩;go_simp;with_reducible rfl);rotate_left;(simp only [ps_];rfl)
     refine one_ (i := 8) (N := some 24) (bm 11 511) rfl rfl (one_of HT_.out (by kernel_rfl)) (by decide) (fun K hK => ?_)
     refine goes_ Try.func38 (by kernel_rfl) rfl #[.agg #[.int .i64 a0_0, .int .i64 a0_1, .slice A0_2 l0_2.length c0_2], .int .i64 (rd l1 x9_1), .int .i64 x8_1] (by rfl) rfl rfl (by ((simp only [List.map_toArray, List.map_cons, List.map_nil])); (rfl)) ?_
     with_reducible refine (codewrightref04_Mul.calls k1 a0_0 a0_1 _ _ l0_2 (rd l1 x9_1) x8_1 t556 _ ?side1 ?side2 A7.out).mono ?_
     (case side1 => repeat ((exact (Kd.C_below HR0_2.out HB.out))))
     (case side2 => exact HC0_2.out)
     rintro e w11 ⟨rfl, hb⟩
     refine ⟨_, rfl, ?_⟩
     have n0_ := Aside0.mk (blk_below (g := gb554) (o := .cells #[.int .i64 a0_0, .int .i64 a0_1, .slice A0_2 l0_2.length c0_2] 24 (0, 0)) BK554.out hb)
     have n1_ := Aside0.mk (below_step HB.out hb)
     clear BK554 HB
     have BK554 := n0_
     have HB := n1_
     clear n0_ n1_
     ((clear hb))
     refine hK.out _ _ ⟨(blk_cell BK554.out 0).trans rfl, (blk_cell BK554.out 1).trans rfl, (blk_cell BK554.out 2).trans rfl, ((HB.out.cell (World.block_lt_of_cell? w _ hw555_0)).trans hw555_0)⟩ (fun hHeld => ?_)
     clear hK K
     refine norm_ (a' := ?_) ?_ ?_
     rotate_left
     ·show Act.put _ (some 24) _ = _
      simp only [Act.put, List.setIfInBounds_toArray, List.set_cons_zero, List.set_cons_succ, i64_w, i32_w]
      rfl
     refine one_ (i := 9) (N := some 25) (bm 11 1023) rfl rfl (one_of HT_.out (by kernel_rfl)) (by decide) (fun K hK => ?_)
     refine goes_ Try.func55 (by kernel_rfl) rfl #[.agg #[.int .i64 a0_0, .int .i64 a0_1, .slice A0_2 l0_2.length c0_2], .int .i64 x7_1, .int .i64 t556] (by rfl) rfl rfl (by ((simp only [List.map_toArray, List.map_cons, List.map_nil])); (rfl)) ?_
     with_reducible refine (codewrightref04_Add.calls k1 a0_0 a0_1 _ _ l0_2 x7_1 t556 t557 _ ?side1 ?side2 A8.out).mono ?_
     (case side1 => repeat ((exact (Kd.C_below HR0_2.out HB.out))))
     (case side2 => exact HC0_2.out)
     rintro e w12 ⟨rfl, hb⟩
     refine ⟨_, rfl, ?_⟩
     have n0_ := Aside0.mk (blk_below (g := gb554) (o := .cells #[.int .i64 a0_0, .int .i64 a0_1, .slice A0_2 l0_2.length c0_2] 24 (0, 0)) BK554.out hb)
     have n1_ := Aside0.mk (below_step HB.out hb)
     clear BK554 HB
     have BK554 := n0_
     have HB := n1_
     clear n0_ n1_
     ((clear hb))
     refine hK.out _ _ ⟨(blk_cell BK554.out 0).trans rfl, (blk_cell BK554.out 1).trans rfl, (blk_cell BK554.out 2).trans rfl, ((HB.out.cell (World.block_lt_of_cell? w _ hw555_0)).trans hw555_0)⟩ (fun hHeld => ?_)
     clear hK K
     refine norm_ (a' := ?_) ?_ ?_
     rotate_left
     ·show Act.put _ (some 25) _ = _
      simp only [Act.put, List.setIfInBounds_toArray, List.set_cons_zero, List.set_cons_succ, i64_w, i32_w]
      rfl
     refine pure_ (i := 10) (N := some 7) (v := ?_) (a' := ?_) (bm 11 2047) rfl rfl (any_of HT_.out (by kernel_rfl)) (fun _ _ _ h => h) (Or.inl ⟨by rfl, ?_⟩) ?_ ?_;rotate_left;(intro w';go_simp;with_reducible rfl);rotate_left;(simp only [ps_];rfl)
     refine done_ (done_of HT_.out (by kernel_rfl)) ?_
     have hcz13_0 : w12.cell? ⟨gb554, 0, none⟩ = some (.int .i64 a0_0) := (blk_cell BK554.out 0).trans rfl
     have hcz13_1 : w12.cell? ⟨gb554, 1, none⟩ = some (.int .i64 a0_1) := (blk_cell BK554.out 1).trans rfl
     have hcz13_2 : w12.cell? ⟨gb554, 2, none⟩ = some (.slice A0_2 l0_2.length c0_2) := (blk_cell BK554.out 2).trans rfl
     have hfz13_0 := blk_frozen BK554.out 0
     have hfz13_1 := blk_frozen BK554.out 1
     have hfz13_2 := blk_frozen BK554.out 2
     (go_wp2_with (((with_reducible refine gate_callee (f := 38) rfl ?_); refine goesL_ (some 29) rfl rfl Try.func38 (by kernel_rfl) rfl #[.agg #[.int .i64 a0_0, .int .i64 a0_1, .slice A0_2 l0_2.length c0_2], .int .i64 x8_1, .int .i64 a2] rfl (by ((simp only [List.map_toArray, List.map_cons, List.map_nil])); (rfl)) ?_; (with_reducible refine (codewrightref04_Mul.calls k1 a0_0 a0_1 _ _ l0_2 x8_1 a2 t558 _ ?side1 ?side2 A9.out).mono ?_); (case side1 => repeat ((exact (Kd.C_below HR0_2.out HB.out)))); (case side2 => exact HC0_2.out); rintro e w14 ⟨rfl, hb⟩; refine ⟨_, rfl, ?_⟩; have n0_ := Aside0.mk (blk_below (g := gb554) (o := .cells #[.int .i64 a0_0, .int .i64 a0_1, .slice A0_2 l0_2.length c0_2] 24 (0, 0)) BK554.out hb); have n1_ := Aside0.mk (below_step HB.out hb); clear BK554; clear HB; have BK554 := n0_; have HB := n1_; clear n0_ n1_; ((clear hb)); (skip); (skip); (skip))))
     go_roundg k1
     case measure => have := HK1.out; omega
     case rel => exact ⟨(t557), (t558), (wrap64 (x9_1 + 1)), (by rfl), (by rfl), (by rfl), H', ⟨by have := HK1.out; omega⟩, ⟨BK554.out⟩, ⟨HB.out⟩⟩
    ·rw [if_neg c6] at H
     exact absurd H (by simp)
   ·rw [if_neg c5] at H
    have c5b0 : decide (x9_1 < (l1.length : Int)) = false := decide_eq_false c5
    clear c5
    obtain rfl := Option.some.inj H
    go_wp2
    go_ret
    exact ⟨by rfl, by exact HB.out⟩
end Go.Proofs.Ytkdakjlopheefaa.PA
end
section
namespace Go.Proofs.Ytkdakjlopheefaa.PA
open Go.RowKit Go.Proofs.YtkdakjlopheefaaW.PrintWords Go.Proofs.YtkdakjlopheefaaW.PrintLast Go.Proofs.YtkdakjlopheefaaW.PrintMore
attribute [local go_sem] max2_int min2_int max_two min_two max_three min_three max_four min_four
set_option linter.unusedVariables false
set_option linter.unusedSimpArgs false
def codewrightref38_Distance.l0 : Nat → List Int → List Int → List Int → Int → Int → Int → Int → List Int → Option (Int)
 | 0, _, _, _, _, _, _, _, _ => none
 | k + 1, x1, x2, x3, x9, x10, x560000, x560001, x560002 => if x10 < (x2.length : Int) then (if 0 ≤ x10 then ((codewrightref05_Eval.f k x560000 x560001 x560002 x1 (rd x2 x10)).bind fun t561 => (if x10 < (x3.length : Int) then ((codewrightref04_In.f k x560000 x560001 x560002 (rd x3 x10)).bind fun t563 => (if t561 = t563 then (codewrightref38_Distance.l0 k x1 x2 x3 x9 (wrap64 (x10 + 1)) x560000 x560001 x560002) else (codewrightref38_Distance.l0 k x1 x2 x3 (wrap64 (x9 + 1)) (wrap64 (x10 + 1)) x560000 x560001 x560002))) else (none))) else (none)) else (some x9)
def codewrightref38_Distance.f (k : Nat) (a0_0 : Int) (a0_1 : Int) (l0_2 : List Int) (l1 : List Int) (l2 : List Int) (l3 : List Int) : Option (Int) := codewrightref38_Distance.l0 k l1 l2 l3 0 0 a0_0 a0_1 l0_2
def codewrightref38_Distance.T5 : Bool × List (List Nat × List Nat) := (true, [([], []), ([], []), ([], []), ([], []), ([2, 3], [2, 3]), ([4], [4]), ([0, 1, 5], [0, 1, 5]), ([], []), ([], []), ([], []), ([8, 9], [8, 9]), ([10], [10]), ([7, 11, 6], [7, 11]), ([6, 12], [6, 12])])
def codewrightref38_Distance.B5 : List Nat := [0, 0, 0, 0, 12, 28, 63, 0, 0, 0, 768, 1792, 4095, 8191]
theorem codewrightref38_Distance.tab5 : rtab .any (opsOf Try.f21 5) = codewrightref38_Distance.T5 := by kernel_rfl
theorem codewrightref38_Distance.bits5 : waitsOk codewrightref38_Distance.T5.2 codewrightref38_Distance.B5 = true := by kernel_rfl
set_option maxHeartbeats 8000000 in
set_option maxRecDepth 100000 in
theorem codewrightref38_Distance.calls (k : Nat) (a0_0 : Int) (a0_1 : Int) (A0_2 : Option Addr) (c0_2 : Nat) (l0_2 : List Int) (A1 : Option Addr) (c1 : Nat) (l1 : List Int) (A2 : Option Addr) (c2 : Nat) (l2 : List Int) (A3 : Option Addr) (c3 : Nat) (l3 : List Int) (r : Int) (w : World) (hr0_2 : Kd.C (Kd.int .i64) w A0_2 l0_2.length l0_2) (hc0_2 : l0_2.length ≤ c0_2) (hr1 : Kd.C (Kd.int .i64) w A1 l1.length l1) (hc1 : l1.length ≤ c1) (hr2 : Kd.C (Kd.int .i64) w A2 l2.length l2) (hc2 : l2.length ≤ c2) (hr3 : Kd.C (Kd.int .i64) w A3 l3.length l3) (hc3 : l3.length ≤ c3) (h : codewrightref38_Distance.f k a0_0 a0_1 l0_2 l1 l2 l3 = some r) :
  Calls Try.prog 21 #[.agg #[.int .i64 a0_0, .int .i64 a0_1, .slice A0_2 l0_2.length c0_2], .slice A1 l1.length c1, .slice A2 l2.length c2, .slice A3 l3.length c3] w fun e w' => e = .returned (.int .i64 r) ∧ Below w.heap.size w w' := by
 have hu24 := Try.underlying24
 have HR0_2 := Aside0.mk hr0_2
 have HC0_2 := Aside0.mk hc0_2
 clear hr0_2 hc0_2
 have HR1 := Aside0.mk hr1
 have HC1 := Aside0.mk hc1
 clear hr1 hc1
 have HR2 := Aside0.mk hr2
 have HC2 := Aside0.mk hc2
 clear hr2 hc2
 have HR3 := Aside0.mk hr3
 have HC3 := Aside0.mk hc3
 clear hr3 hc3
 have HB := Aside0.mk (Below.refl w.heap.size w)
 have H : (codewrightref38_Distance.l0 k l1 l2 l3 0 0 a0_0 a0_1 l0_2) = some r := h
 clear h
 have H' := Aside0.mk H
 clear H
 go_enter Try.func21, Try.ntmps21
 go_wp2_with (((with_reducible refine gate_dst (N := 4) rfl ?_); refine box_event ?hg (N := 4) ?hd (cs := #[.int .i64 a0_0, .int .i64 a0_1, .slice A0_2 l0_2.length c0_2]) (t := 24) ?hr ?_; (case hd => rfl); (case hg => rfl); (case hr => (go_simp; done)); intro gb559 hg w5 hbox hb; have n0_ := Aside0.mk (below_step HB.out hb); have n1_ := Aside0.mk (hbox); have n2_ := Aside0.mk ((by rw [hg]; exact (below_size HB.out) : w.heap.size ≤ gb559)); have n3_ := Aside0.mk ((by rw [hg]; exact (below_size HB.out) : w.heap.size ≤ gb559)); clear HB; have HB := n0_; have BK559 := n1_; have GW559 := n2_; have GE559 := n3_; clear n0_ n1_ n2_ n3_; clear hb hbox hg))
 go_loopg [9, 10] k (fun kq v9 v10 w' => ∃ (x9_1 : Int) (x10_1 : Int), v9 = .int .i64 x9_1 ∧ v10 = .int .i64 x10_1 ∧ Aside0 (codewrightref38_Distance.l0 kq l1 l2 l3 x9_1 x10_1 a0_0 a0_1 l0_2 = some r) ∧ Aside0 (kq ≤ k) ∧ Aside0 (w'.heap[gb559]? = some (.cells #[.int .i64 a0_0, .int .i64 a0_1, (.slice A0_2 l0_2.length c0_2)] 24 (0, 0))) ∧ Aside0 (Below w.heap.size w w'))
 case atStart => exact ⟨(0), (0), (by rfl), (by rfl), H', ⟨Nat.le_refl _⟩, ⟨BK559.out⟩, ⟨HB.out⟩⟩
 case round =>
  clear H'
  obtain ⟨x9_1, x10_1, rfl, rfl, HA, HK1, BK559, HB⟩ := hrel
  cases gk with
  | zero => exact absurd HA.out (by simp [codewrightref38_Distance.l0])
  | succ k1 =>
   have H := HA.out
   clear HA
   simp only [codewrightref38_Distance.l0] at H
   by_cases c6 : x10_1 < (l2.length : Int)
   ·rw [if_pos c6] at H
    have c6b0 : decide (x10_1 < (l2.length : Int)) = true := decide_eq_true c6
    clear c6
    by_cases c7 : 0 ≤ x10_1
    ·rw [if_pos c7] at H
     have c7b0 : decide (0 ≤ x10_1) = true := decide_eq_true c7
     clear c7
     obtain ⟨t561, A80, H⟩ := Option.bind_eq_some_iff.mp H
     replace H : (if x10_1 < (l3.length : Int) then ((codewrightref04_In.f k1 a0_0 a0_1 l0_2 (rd l3 x10_1)).bind fun t563 => (if t561 = t563 then (codewrightref38_Distance.l0 k1 l1 l2 l3 x9_1 (wrap64 (x10_1 + 1)) a0_0 a0_1 l0_2) else (codewrightref38_Distance.l0 k1 l1 l2 l3 (wrap64 (x9_1 + 1)) (wrap64 (x10_1 + 1)) a0_0 a0_1 l0_2))) else (none)) = some r := H
     have A8 := Aside0.mk A80
     clear A80
     by_cases c9 : x10_1 < (l3.length : Int)
     ·rw [if_pos c9] at H
      have c9b0 : decide (x10_1 < (l3.length : Int)) = true := decide_eq_true c9
      clear c9
      obtain ⟨t563, A100, H⟩ := Option.bind_eq_some_iff.mp H
      replace H : (if t561 = t563 then (codewrightref38_Distance.l0 k1 l1 l2 l3 x9_1 (wrap64 (x10_1 + 1)) a0_0 a0_1 l0_2) else (codewrightref38_Distance.l0 k1 l1 l2 l3 (wrap64 (x9_1 + 1)) (wrap64 (x10_1 + 1)) a0_0 a0_1 l0_2)) = some r := H
      have A10 := Aside0.mk A100
      clear A100
      by_cases c11 : t561 = t563
      ·rw [if_pos c11] at H
       have c11b0 : (t561 == t563) = true := beq_iff_eq.mpr c11
       have c11b1 : (t561 != t563) = false := bne_eq_false_iff_eq.mpr c11
       clear c11
       have H' := Aside0.mk H
       clear H
       (go_wp2)
       have n0_ := Aside0.mk (blk_drew BK559.out)
       have n1_ := Aside0.mk (below_drew1 HB.out)
       clear BK559 HB
       have BK559 := n0_
       have HB := n1_
       clear n0_ n1_
       have p560 : 0 ≤ (x10_1 : Int) := of_decide_eq_true (by (with_reducible assumption))
       have q560 : x10_1 < (l2.length : Int) := of_decide_eq_true (by (with_reducible assumption))
       obtain ⟨ad560, e560, hx560_0⟩ := Kd.at_int HR2.out x10_1 p560 q560
       have hw560_0 := hx560_0
       cases e560
       replace hx560_0 := (HB.out.cell (World.block_lt_of_cell? w _ hx560_0)).trans hx560_0
       replace p560 := eq_true p560
       replace q560 := eq_true q560
       have p562 : 0 ≤ (x10_1 : Int) := of_decide_eq_true (by (with_reducible assumption))
       have q562 : x10_1 < (l3.length : Int) := of_decide_eq_true (by (with_reducible assumption))
       obtain ⟨ad562, e562, hx562_0⟩ := Kd.at_int HR3.out x10_1 p562 q562
       have hw562_0 := hx562_0
       cases e562
       replace hx562_0 := (HB.out.cell (World.block_lt_of_cell? w _ hx562_0)).trans hx562_0
       replace p562 := eq_true p562
       replace q562 := eq_true q562
       refine start_ (n := 14) (S := fun w' => w'.cell? ⟨gb559, 0, none⟩ = some (.int .i64 a0_0) ∧ w'.cell? ⟨gb559, 1, none⟩ = some (.int .i64 a0_1) ∧ w'.cell? ⟨gb559, 2, none⟩ = some (.slice A0_2 l0_2.length c0_2) ∧ w'.cell? (ad560.add (x10_1).toNat) = some (.int .i64 (rd l2 x10_1)) ∧ w'.cell? (ad562.add (x10_1).toNat) = some (.int .i64 (rd l3 x10_1))) (ds := []) (bm 14 0) (by kernel_rfl) rfl rfl ⟨(blk_cell BK559.out 0).trans rfl, (blk_cell BK559.out 1).trans rfl, (blk_cell BK559.out 2).trans rfl, ((HB.out.cell (World.block_lt_of_cell? w _ hw560_0)).trans hw560_0), ((HB.out.cell (World.block_lt_of_cell? w _ hw562_0)).trans hw562_0)⟩ (fun hHeld => ?_); refine with_tabW codewrightref38_Distance.tab5 codewrightref38_Distance.bits5 (fun HT_ HW_ => ?_)
       generalize wr.drew = w12 at BK559 HB hx560_0 hx562_0 hHeld ⊢
       refine pure_ (i := 1) (N := some 18) (v := ?_) (a' := ?_) (bm 14 2) rfl rfl (any_of HT_.out (by kernel_rfl)) (fun _ _ _ h => h) (Or.inl ⟨by rfl, ?_⟩) ?_ ?_;rotate_left;(intro w';go_simp;with_reducible rfl);rotate_left;(simp only [ps_];rfl)
       refine pure_ (i := 2) (N := some 19) (v := ?_) (a' := ?_) (bm 14 6) rfl rfl (any_of HT_.out (by kernel_rfl)) (fun _ _ _ h => h) (Or.inl ⟨by rfl, ?_⟩) ?_ ?_;rotate_left;(intro w';go_simp;with_reducible rfl);rotate_left;(simp only [ps_];rfl)
       refine pure_ (i := 3) (N := some 20) (v := ?_) (a' := ?_) (bm 14 14) rfl rfl (any_of HT_.out (by kernel_rfl)) (fun _ _ _ h => h) (Or.inl ⟨by rfl, ?_⟩) ?_ ?_;rotate_left;(intro w';go_simp;with_reducible rfl);rotate_left;(simp only [ps_];rfl)
       refine pure_ (i := 4) (N := some 21) (v := ?_) (a' := ?_) (bm 14 30) rfl rfl (any_of HT_.out (by kernel_rfl)) (fun _ _ _ h => h) (Or.inl ⟨by rfl, ?_⟩) ?_ ?_;rotate_left;(intro w';go_simp;with_reducible rfl);rotate_left;(simp only [ps_];rfl)
       refine pure_ (i := 8) (N := some 25) (v := ?_) (a' := ?_) (bm 14 286) rfl rfl (any_of HT_.out (by kernel_rfl)) (fun _ _ _ h => h) (Or.inl ⟨by rfl, ?_⟩) ?_ ?_;rotate_left;(intro w';go_simp;with_reducible rfl);rotate_left;(simp only [ps_];rfl)
       refine pure_ (i := 9) (N := some 26) (v := ?_) (a' := ?_) (bm 14 798) rfl rfl (any_of HT_.out (by kernel_rfl)) (fun _ _ _ h => h) (Or.inl ⟨by rfl, ?_⟩) ?_ ?_;rotate_left;(intro w';go_simp;with_reducible rfl);rotate_left;(simp only [ps_];rfl)
       refine pure_ (i := 10) (N := some 27) (v := ?_) (a' := ?_) (bm 14 1822) rfl rfl (any_of HT_.out (by kernel_rfl)) (fun _ _ _ h => h) (Or.inl ⟨by rfl, ?_⟩) ?_ ?_;rotate_left;(intro w';go_simp;with_reducible rfl);rotate_left;(simp only [ps_];rfl)
       refine take_ (i := 0) (N := some 17) (v := ?_) (a' := ?_) (bm 14 1823) rfl rfl (take_ofW HT_.out HW_.out (by kernel_rfl)) (fun _ _ _ h => h) (Or.inl ⟨by rfl, ?_⟩) hHeld ?_ ?_;rotate_left;(rintro w' ⟨s0, s1, s2, s3, s4⟩;go_simp;with_reducible rfl);rotate_left;(simp only [ps_];rfl)
       refine take_ (i := 5) (N := some 22) (v := ?_) (a' := ?_) (bm 14 1855) rfl rfl (take_ofW HT_.out HW_.out (by kernel_rfl)) (fun _ _ _ h => h) (Or.inl ⟨by rfl, ?_⟩) hHeld ?_ ?_;rotate_left;(rintro w' ⟨s0, s1, s2, s3, s4⟩;go_simp;with_reducible rfl);rotate_left;(simp only [ps_];rfl)
       refine take_ (i := 7) (N := some 24) (v := ?_) (a' := ?_) (bm 14 1983) rfl rfl (take_ofW HT_.out HW_.out (by kernel_rfl)) (fun _ _ _ h => h) (Or.inl ⟨by rfl, ?_⟩) hHeld ?_ ?_;rotate_left;(rintro w' ⟨s0, s1, s2, s3, s4⟩;go_simp;with_reducible rfl);rotate_left;(simp only [ps_];rfl)
       refine take_ (i := 11) (N := some 28) (v := ?_) (a' := ?_) (bm 14 4031) rfl rfl (take_ofW HT_.out HW_.out (by kernel_rfl)) (fun _ _ _ h => h) (Or.inl ⟨by rfl, ?_⟩) hHeld ?_ ?_;rotate_left;(rintro w' ⟨s0, s1, s2, s3, s4⟩;go_simp;with_reducible rfl);rotate_left;(simp only [ps_];rfl)
       refine one_ (i := 6) (N := some 23) (bm 14 4095) rfl rfl (one_of HT_.out (by kernel_rfl)) (by decide) (fun K hK => ?_)
       refine goes_ Try.func39 (by kernel_rfl) rfl #[.agg #[.int .i64 a0_0, .int .i64 a0_1, .slice A0_2 l0_2.length c0_2], .slice A1 l1.length c1, .int .i64 (rd l2 x10_1)] (by rfl) rfl rfl (by ((simp only [List.map_toArray, List.map_cons, List.map_nil])); (rfl)) ?_
       with_reducible refine (codewrightref05_Eval.calls k1 a0_0 a0_1 _ _ l0_2 _ _ l1 (rd l2 x10_1) t561 _ ?side1 ?side2 ?side3 ?side4 A8.out).mono ?_
       (case side1 => repeat ((exact (Kd.C_below HR0_2.out HB.out))))
       (case side2 => exact HC0_2.out)
       (case side3 => repeat ((exact (Kd.C_below HR1.out HB.out))))
       (case side4 => exact HC1.out)
       rintro e w13 ⟨rfl, hb⟩
       refine ⟨_, rfl, ?_⟩
       have n0_ := Aside0.mk (blk_below (g := gb559) (o := .cells #[.int .i64 a0_0, .int .i64 a0_1, .slice A0_2 l0_2.length c0_2] 24 (0, 0)) BK559.out hb)
       have n1_ := Aside0.mk (below_step HB.out hb)
       clear BK559 HB
       have BK559 := n0_
       have HB := n1_
       clear n0_ n1_
       ((clear hb))
       refine hK.out _ _ ⟨(blk_cell BK559.out 0).trans rfl, (blk_cell BK559.out 1).trans rfl, (blk_cell BK559.out 2).trans rfl, ((HB.out.cell (World.block_lt_of_cell? w _ hw560_0)).trans hw560_0), ((HB.out.cell (World.block_lt_of_cell? w _ hw562_0)).trans hw562_0)⟩ (fun hHeld => ?_)
       clear hK K
       refine norm_ (a' := ?_) ?_ ?_
       rotate_left
       ·show Act.put _ (some 23) _ = _
        simp only [Act.put, List.setIfInBounds_toArray, List.set_cons_zero, List.set_cons_succ, i64_w, i32_w]
        rfl
       refine one_ (i := 12) (N := some 29) (bm 14 8191) rfl rfl (one_of HT_.out (by kernel_rfl)) (by decide) (fun K hK => ?_)
       refine goes_ Try.func31 (by kernel_rfl) rfl #[.agg #[.int .i64 a0_0, .int .i64 a0_1, .slice A0_2 l0_2.length c0_2], .int .i64 (rd l3 x10_1)] (by rfl) rfl rfl (by ((simp only [List.map_toArray, List.map_cons, List.map_nil])); (rfl)) ?_
       with_reducible refine (codewrightref04_In.calls k1 a0_0 a0_1 _ _ l0_2 (rd l3 x10_1) t563 _ ?side1 ?side2 A10.out).mono ?_
       (case side1 => repeat ((exact (Kd.C_below HR0_2.out HB.out))))
       (case side2 => exact HC0_2.out)
       rintro e w14 ⟨rfl, hb⟩
       refine ⟨_, rfl, ?_⟩
       have n0_ := Aside0.mk (blk_below (g := gb559) (o := .cells #[.int .i64 a0_0, .int .i64 a0_1, .slice A0_2 l0_2.length c0_2] 24 (0, 0)) BK559.out hb)
       have n1_ := Aside0.mk (below_step HB.out hb)
       clear BK559 HB
       have BK559 := n0_
       have HB := n1_
       clear n0_ n1_
       ((clear hb))
       refine hK.out _ _ ⟨(blk_cell BK559.out 0).trans rfl, (blk_cell BK559.out 1).trans rfl, (blk_cell BK559.out 2).trans rfl, ((HB.out.cell (World.block_lt_of_cell? w _ hw560_0)).trans hw560_0), ((HB.out.cell (World.block_lt_of_cell? w _ hw562_0)).trans hw562_0)⟩ (fun hHeld => ?_)
       clear hK K
       refine norm_ (a' := ?_) ?_ ?_
       rotate_left
       ·show Act.put _ (some 29) _ = _
        simp only [Act.put, List.setIfInBounds_toArray, List.set_cons_zero, List.set_cons_succ, i64_w, i32_w]
        rfl
       refine pure_ (i := 13) (N := some 30) (v := ?_) (a' := ?_) (bm 14 16383) rfl rfl (any_of HT_.out (by kernel_rfl)) (fun _ _ _ h => h) (Or.inl ⟨by rfl, ?_⟩) ?_ ?_;rotate_left;(intro w';go_simp;with_reducible rfl);rotate_left;(simp only [ps_];rfl)
       refine done_ (done_of HT_.out (by kernel_rfl)) ?_
       (go_wp2)
       go_roundg k1
       case measure => have := HK1.out; omega
       case rel => exact ⟨(x9_1), (wrap64 (x10_1 + 1)), (by rfl), (by rfl), H', ⟨by have := HK1.out; omega⟩, ⟨BK559.out⟩, ⟨HB.out⟩⟩
      ·rw [if_neg c11] at H
       have c11b0 : (t561 == t563) = false := beq_eq_false_iff_ne.mpr c11
       have c11b1 : (t561 != t563) = true := bne_iff_ne.mpr c11
       have H' := Aside0.mk H
       clear H
       (go_wp2)
       have n0_ := Aside0.mk (blk_drew BK559.out)
       have n1_ := Aside0.mk (below_drew1 HB.out)
       clear BK559 HB
       have BK559 := n0_
       have HB := n1_
       clear n0_ n1_
       have p560 : 0 ≤ (x10_1 : Int) := of_decide_eq_true (by (with_reducible assumption))
       have q560 : x10_1 < (l2.length : Int) := of_decide_eq_true (by (with_reducible assumption))
       obtain ⟨ad560, e560, hx560_0⟩ := Kd.at_int HR2.out x10_1 p560 q560
       have hw560_0 := hx560_0
       cases e560
       replace hx560_0 := (HB.out.cell (World.block_lt_of_cell? w _ hx560_0)).trans hx560_0
       replace p560 := eq_true p560
       replace q560 := eq_true q560
       have p562 : 0 ≤ (x10_1 : Int) := of_decide_eq_true (by (with_reducible assumption))
       have q562 : x10_1 < (l3.length : Int) := of_decide_eq_true (by (with_reducible assumption))
       obtain ⟨ad562, e562, hx562_0⟩ := Kd.at_int HR3.out x10_1 p562 q562
       have hw562_0 := hx562_0
       cases e562
       replace hx562_0 := (HB.out.cell (World.block_lt_of_cell? w _ hx562_0)).trans hx562_0
       replace p562 := eq_true p562
       replace q562 := eq_true q562
       refine start_ (n := 14) (S := fun w' => w'.cell? ⟨gb559, 0, none⟩ = some (.int .i64 a0_0) ∧ w'.cell? ⟨gb559, 1, none⟩ = some (.int .i64 a0_1) ∧ w'.cell? ⟨gb559, 2, none⟩ = some (.slice A0_2 l0_2.length c0_2) ∧ w'.cell? (ad560.add (x10_1).toNat) = some (.int .i64 (rd l2 x10_1)) ∧ w'.cell? (ad562.add (x10_1).toNat) = some (.int .i64 (rd l3 x10_1))) (ds := []) (bm 14 0) (by kernel_rfl) rfl rfl ⟨(blk_cell BK559.out 0).trans rfl, (blk_cell BK559.out 1).trans rfl, (blk_cell BK559.out 2).trans rfl, ((HB.out.cell (World.block_lt_of_cell? w _ hw560_0)).trans hw560_0), ((HB.out.cell (World.block_lt_of_cell? w _ hw562_0)).trans hw562_0)⟩ (fun hHeld => ?_); refine with_tabW codewrightref38_Distance.tab5 codewrightref38_Distance.bits5 (fun HT_ HW_ => ?_)
       generalize wr.drew = w15 at BK559 HB hx560_0 hx562_0 hHeld ⊢
       refine pure_ (i := 1) (N := some 18) (v := ?_) (a' := ?_) (bm 14 2) rfl rfl (any_of HT_.out (by kernel_rfl)) (fun _ _ _ h => h) (Or.inl ⟨by rfl, ?_⟩) ?_ ?_;rotate_left;(intro w';go_simp;with_reducible rfl);rotate_left;(simp only [ps_];rfl)
       refine pure_ (i := 2) (N := some 19) (v := ?_) (a' := ?_) (bm 14 6) rfl rfl (any_of HT_.out (by kernel_rfl)) (fun _ _ _ h => h) (Or.inl ⟨by rfl, ?_⟩) ?_ ?_;rotate_left;(intro w';go_simp;with_reducible rfl);rotate_left;(simp only [ps_];rfl)
       refine pure_ (i := 3) (N := some 20) (v := ?_) (a' := ?_) (bm 14 14) rfl rfl (any_of HT_.out (by kernel_rfl)) (fun _ _ _ h => h) (Or.inl ⟨by rfl, ?_⟩) ?_ ?_;rotate_left;(intro w';go_simp;with_reducible rfl);rotate_left;(simp only [ps_];rfl)
       refine pure_ (i := 4) (N := some 21) (v := ?_) (a' := ?_) (bm 14 30) rfl rfl (any_of HT_.out (by kernel_rfl)) (fun _ _ _ h => h) (Or.inl ⟨by rfl, ?_⟩) ?_ ?_;rotate_left;(intro w';go_simp;with_reducible rfl);rotate_left;(simp only [ps_];rfl)
       refine pure_ (i := 8) (N := some 25) (v := ?_) (a' := ?_) (bm 14 286) rfl rfl (any_of HT_.out (by kernel_rfl)) (fun _ _ _ h => h) (Or.inl ⟨by rfl, ?_⟩) ?_ ?_;rotate_left;(intro w';go_simp;with_reducible rfl);rotate_left;(simp only [ps_];rfl)
       refine pure_ (i := 9) (N := some 26) (v := ?_) (a' := ?_) (bm 14 798) rfl rfl (any_of HT_.out (by kernel_rfl)) (fun _ _ _ h => h) (Or.inl ⟨by rfl, ?_⟩) ?_ ?_;rotate_left;(intro w';go_simp;with_reducible rfl);rotate_left;(simp only [ps_];rfl)
       refine pure_ (i := 10) (N := some 27) (v := ?_) (a' := ?_) (bm 14 1822) rfl rfl (any_of HT_.out (by kernel_rfl)) (fun _ _ _ h => h) (Or.inl ⟨by rfl, ?_⟩) ?_ ?_;rotate_left;(intro w';go_simp;with_reducible rfl);rotate_left;(simp only [ps_];rfl)
       refine take_ (i := 0) (N := some 17) (v := ?_) (a' := ?_) (bm 14 1823) rfl rfl (take_ofW HT_.out HW_.out (by kernel_rfl)) (fun _ _ _ h => h) (Or.inl ⟨by rfl, ?_⟩) hHeld ?_ ?_;rotate_left;(rintro w' ⟨s0, s1, s2, s3, s4⟩;go_simp;with_reducible rfl);rotate_left;(simp only [ps_];rfl)
       refine take_ (i := 5) (N := some 22) (v := ?_) (a' := ?_) (bm 14 1855) rfl rfl (take_ofW HT_.out HW_.out (by kernel_rfl)) (fun _ _ _ h => h) (Or.inl ⟨by rfl, ?_⟩) hHeld ?_ ?_;rotate_left;(rintro w' ⟨s0, s1, s2, s3, s4⟩;go_simp;with_reducible rfl);rotate_left;(simp only [ps_];rfl)
       refine take_ (i := 7) (N := some 24) (v := ?_) (a' := ?_) (bm 14 1983) rfl rfl (take_ofW HT_.out HW_.out (by kernel_rfl)) (fun _ _ _ h => h) (Or.inl ⟨by rfl, ?_⟩) hHeld ?_ ?_;rotate_left;(rintro w' ⟨s0, s1, s2, s3, s4⟩;go_simp;with_reducible rfl);rotate_left;(simp only [ps_];rfl)
       refine take_ (i := 11) (N := some 28) (v := ?_) (a' := ?_) (bm 14 4031) rfl rfl (take_ofW HT_.out HW_.out (by kernel_rfl)) (fun _ _ _ h => h) (Or.inl ⟨by rfl, ?_⟩) hHeld ?_ ?_;rotate_left;(rintro w' ⟨s0, s1, s2, s3, s4⟩;go_simp;with_reducible rfl);rotate_left;(simp only [ps_];rfl)
       refine one_ (i := 6) (N := some 23) (bm 14 4095) rfl rfl (one_of HT_.out (by kernel_rfl)) (by decide) (fun K hK => ?_)
       refine goes_ Try.func39 (by kernel_rfl) rfl #[.agg #[.int .i64 a0_0, .int .i64 a0_1, .slice A0_2 l0_2.length c0_2], .slice A1 l1.length c1, .int .i64 (rd l2 x10_1)] (by rfl) rfl rfl (by ((simp only [List.map_toArray, List.map_cons, List.map_nil])); (rfl)) ?_
       with_reducible refine (codewrightref05_Eval.calls k1 a0_0 a0_1 _ _ l0_2 _ _ l1 (rd l2 x10_1) t561 _ ?side1 ?side2 ?side3 ?side4 A8.out).mono ?_
       (case side1 => repeat ((exact (Kd.C_below HR0_2.out HB.out))))
       (case side2 => exact HC0_2.out)
       (case side3 => repeat ((exact (Kd.C_below HR1.out HB.out))))
       (case side4 => exact HC1.out)
       rintro e w16 ⟨rfl, hb⟩
       refine ⟨_, rfl, ?_⟩
       have n0_ := Aside0.mk (blk_below (g := gb559) (o := .cells #[.int .i64 a0_0, .int .i64 a0_1, .slice A0_2 l0_2.length c0_2] 24 (0, 0)) BK559.out hb)
       have n1_ := Aside0.mk (below_step HB.out hb)
       clear BK559 HB
       have BK559 := n0_
       have HB := n1_
       clear n0_ n1_
       ((clear hb))
       refine hK.out _ _ ⟨(blk_cell BK559.out 0).trans rfl, (blk_cell BK559.out 1).trans rfl, (blk_cell BK559.out 2).trans rfl, ((HB.out.cell (World.block_lt_of_cell? w _ hw560_0)).trans hw560_0), ((HB.out.cell (World.block_lt_of_cell? w _ hw562_0)).trans hw562_0)⟩ (fun hHeld => ?_)
       clear hK K
       refine norm_ (a' := ?_) ?_ ?_
       rotate_left
       ·show Act.put _ (some 23) _ = _
        simp only [Act.put, List.setIfInBounds_toArray, List.set_cons_zero, List.set_cons_succ, i64_w, i32_w]
        rfl
       refine one_ (i := 12) (N := some 29) (bm 14 8191) rfl rfl (one_of HT_.out (by kernel_rfl)) (by decide) (fun K hK => ?_)
       refine goes_ Try.func31 (by kernel_rfl) rfl #[.agg #[.int .i64 a0_0, .int .i64 a0_1, .slice A0_2 l0_2.length c0_2], .int .i64 (rd l3 x10_1)] (by rfl) rfl rfl (by ((simp only [List.map_toArray, List.map_cons, List.map_nil])); (rfl)) ?_
       with_reducible refine (codewrightref04_In.calls k1 a0_0 a0_1 _ _ l0_2 (rd l3 x10_1) t563 _ ?side1 ?side2 A10.out).mono ?_
       (case side1 => repeat ((exact (Kd.C_below HR0_2.out HB.out))))
       (case side2 => exact HC0_2.out)
       rintro e w17 ⟨rfl, hb⟩
       refine ⟨_, rfl, ?_⟩
       have n0_ := Aside0.mk (blk_below (g := gb559) (o := .cells #[.int .i64 a0_0, .int .i64 a0_1, .slice A0_2 l0_2.length c0_2] 24 (0, 0)) BK559.out hb)
       have n1_ := Aside0.mk (below_step HB.out hb)
       clear BK559 HB
       have BK559 := n0_
       have HB := n1_
       clear n0_ n1_
       ((clear hb))
       refine hK.out _ _ ⟨(blk_cell BK559.out 0).trans rfl, (blk_cell BK559.out 1).trans rfl, (blk_cell BK559.out 2).trans rfl, ((HB.out.cell (World.block_lt_of_cell? w _ hw560_0)).trans hw560_0), ((HB.out.cell (World.block_lt_of_cell? w _ hw562_0)).trans hw562_0)⟩ (fun hHeld => ?_)
       clear hK K
       refine norm_ (a' := ?_) ?_ ?_
       rotate_left
       ·show Act.put _ (some 29) _ = _
        simp only [Act.put, List.setIfInBounds_toArray, List.set_cons_zero, List.set_cons_succ, i64_w, i32_w]
        rfl
       refine pure_ (i := 13) (N := some 30) (v := ?_) (a' := ?_) (bm 14 16383) rfl rfl (any_of HT_.out (by kernel_rfl)) (fun _ _ _ h => h) (Or.inl ⟨by rfl, ?_⟩) ?_ ?_;rotate_left;(intro w';go_simp;with_reducible rfl);rotate_left;(simp only [ps_];rfl)
       refine done_ (done_of HT_.out (by kernel_rfl)) ?_
       (go_wp2)
       go_roundg k1
       case measure => have := HK1.out; omega
       case rel => exact ⟨(wrap64 (x9_1 + 1)), (wrap64 (x10_1 + 1)), (by rfl), (by rfl), H', ⟨by have := HK1.out; omega⟩, ⟨BK559.out⟩, ⟨HB.out⟩⟩
     ·rw [if_neg c9] at H
      exact absurd H (by simp)
    ·rw [if_neg c7] at H
     exact absurd H (by simp)
   ·rw [if_neg c6] at H
    have c6b0 : decide (x10_1 < (l2.length : Int)) = false := decide_eq_false c6
    clear c6
    obtain rfl := Option.some.inj H
    go_wp2
    go_ret
    exact ⟨by rfl, by exact HB.out⟩
def field_GF_Order.f (s0_0 : Int) (s0_1 : Int) (s0_2 : List Int) (s0_3 : Int) (s0_4 : List Int) (s0_5 : List Int) : Option (Int × Int × Int × Int) := some (s0_3, s0_0, s0_1, s0_3)
set_option maxHeartbeats 8000000 in
set_option maxRecDepth 100000 in
theorem field_GF_Order.calls (g : Nat) (s0_0 : Int) (s0_1 : Int) (s0_2 : List Int) (s0_3 : Int) (s0_4 : List Int) (s0_5 : List Int) (r1 : Int) (r2 : Int) (r3 : Int) (r4 : Int) (w0 w : World) (hI : IsS93 w0 w g s0_0 s0_1 s0_2 s0_3 s0_4 s0_5) (hB : Below w0.heap.size w0 w) (h : field_GF_Order.f s0_0 s0_1 s0_2 s0_3 s0_4 s0_5 = some (r1, r2, r3, r4)) :
  Calls Try.prog 82 #[.pointer (some ⟨g, 0, none⟩)] w fun e w' => e = .returned (.int .i64 r1) ∧ IsS93 w0 w' g r2 r3 s0_2 r4 s0_4 s0_5 ∧ Below w0.heap.size w0 w' ∧ KeepBut w w' g none := by
 have HI0 := Aside0.mk hI
 have HK := Aside0.mk (KeepBut.refl w g none)
 have HL := Aside0.mk hB.size
 clear hI
 have HW0 := Aside0.mk hB.size
 have HB := Aside0.mk hB
 clear hB
 have H : (some (s0_3, s0_0, s0_1, s0_3)) = some (r1, r2, r3, r4) := h
 clear h
 simp only [Option.some.injEq, Prod.mk.injEq] at H
 obtain ⟨rfl, rfl, rfl, rfl⟩ := H
 obtain ⟨ASz2_2, cSz2_2, ASz2_4, cSz2_4, ASz2_5, cSz2_5, HGz2, hgz2, HSz2_2, HSz2_4, HSz2_5⟩ := HI0.out
 have hcz2_0 := cellS93_0 HGz2
 have hcz2_1 := cellS93_1 HGz2
 have hcz2_2 := cellS93_2 HGz2
 have hcz2_3 := cellS93_3 HGz2
 have hcz2_4 := cellS93_4 HGz2
 have hcz2_5 := cellS93_5 HGz2
 have hfz2_0 := blk_frozen HGz2 0
 have hfz2_1 := blk_frozen HGz2 1
 have hfz2_3 := blk_frozen HGz2 3
 clear HGz2 hgz2
 go_enter Try.func82, Try.ntmps82
 go_wp2
 go_ret
 exact ⟨by rfl, by exact HI0.out, by exact HB.out, by exact HK.out⟩
end Go.Proofs.Ytkdakjlopheefaa.PA
end
section
namespace Go.Proofs.Ytkdakjlopheefaa.PA
open Go.RowKit Go.Proofs.YtkdakjlopheefaaW.PrintWords Go.Proofs.YtkdakjlopheefaaW.PrintLast Go.Proofs.YtkdakjlopheefaaW.PrintMore
attribute [local go_sem] max2_int min2_int max_two min_two max_three min_three max_four min_four
set_option linter.unusedVariables false
set_option linter.unusedSimpArgs false
mutual
def poly_Interpolate.l0 : Nat → List Int → List Int → List Bool → List Int → Int → Int → Int → Int → List Int → Int → List Int → List Int → Option (List Int × Int × Int × Int × Int)
 | 0, _, _, _, _, _, _, _, _, _, _, _, _ => none
 | k + 1, x1, x2, x8, x26, x27, x28, x1000, x1001, x1002, x1003, x1004, x1005 => if x28 < x27 then (if 0 ≤ x28 then (if x28 < (x26.length : Int) then ((field_GF_Add.f k x1000 x1001 x1002 x1003 x1004 x1005 (rd x26 x28) 0).bind fun bt572 => (if 0 ≤ bt572.1 then (if bt572.1 < (x8.length : Int) then (if rdOf false x8 bt572.1 = true then (some (([] : List Int), 18, bt572.2.1, bt572.2.2.1, bt572.2.2.2)) else (poly_Interpolate.l0 k x1 x2 (x8.set (bt572.1 : Int).toNat true) x26 x27 (wrap64 (x28 + 1)) bt572.2.1 bt572.2.2.1 x1002 bt572.2.2.2 x1004 x1005)) else (none)) else (none))) else (none)) else (none)) else (poly_Interpolate.l1 k x2 ([] : List Int) (([1] : List Int)) x1 (x1.length : Int) 0 x1000 x1001 x1002 x1003 x1004 x1005)
def poly_Interpolate.l1 : Nat → List Int → List Int → List Int → List Int → Int → Int → Int → Int → List Int → Int → List Int → List Int → Option (List Int × Int × Int × Int × Int)
 | 0, _, _, _, _, _, _, _, _, _, _, _, _ => none
 | k + 1, x2, x11, x12, x44, x45, x46, x1000, x1001, x1002, x1003, x1004, x1005 => if x46 < x45 then (if 0 ≤ x46 then (if x46 < (x44.length : Int) then (if x46 < (x2.length : Int) then ((poly_Eval.f k x1000 x1001 x1002 x1003 x1004 x1005 x11 (rd x44 x46)).bind fun bt583 => ((field_GF_Sub.f k bt583.2.1 bt583.2.2.1 x1002 bt583.2.2.2 x1004 x1005 (rd x2 x46) bt583.1).bind fun bt587 => ((poly_Eval.f k bt587.2.1 bt587.2.2.1 x1002 bt587.2.2.2 x1004 x1005 x12 (rd x44 x46)).bind fun bt591 => ((field_GF_Div.f bt591.2.1 bt591.2.2.1 x1002 bt591.2.2.2 x1004 x1005 bt587.1 bt591.1).bind fun bt595 => ((poly_combine.f k bt595.2.2.1 bt595.2.2.2.1 x1002 bt595.2.2.2.2 x1004 x1005 x11 bt595.1 x12).bind fun bt600 => ((field_GF_Neg.f k bt600.2.1 bt600.2.2.1 x1002 bt600.2.2.2 x1004 x1005 (rd x44 x46)).bind fun bt606 => ((poly_product.f k bt606.2.1 bt606.2.2.1 x1002 bt606.2.2.2 x1004 x1005 x12 (([bt606.1, 1] : List Int))).bind fun bt613 => (poly_Interpolate.l1 k x2 bt600.1 bt613.1 x44 x45 (wrap64 (x46 + 1)) bt613.2.1 bt613.2.2.1 x1002 bt613.2.2.2 x1004 x1005)))))))) else (none)) else (none)) else (none)) else (some (x11, 0, x1000, x1001, x1003))
end
def poly_Interpolate.f (k : Nat) (s0_0 : Int) (s0_1 : Int) (s0_2 : List Int) (s0_3 : Int) (s0_4 : List Int) (s0_5 : List Int) (l1 : List Int) (l2 : List Int) : Option (List Int × Int × Int × Int × Int) := if (l1.length : Int) = (l2.length : Int) then ((field_GF_Order.f s0_0 s0_1 s0_2 s0_3 s0_4 s0_5).bind fun bt564 => (if 0 ≤ bt564.1 then (if (bt564.1 : Int).toNat ≤ 281474976710656 then (poly_Interpolate.l0 k l1 l2 (List.replicate (bt564.1 : Int).toNat false) l1 (l1.length : Int) 0 bt564.2.1 bt564.2.2.1 s0_2 bt564.2.2.2 s0_4 s0_5) else (none)) else (none))) else (some (([] : List Int), 3, s0_0, s0_1, s0_3))
def poly_Interpolate.T17 : Bool × List (List Nat × List Nat) := (true, [([], []), ([], []), ([], []), ([1, 2], [1, 2]), ([3], [3]), ([], []), ([], []), ([], []), ([5, 6, 7], [5, 6, 7]), ([0, 4, 8, 8], [0, 4, 8]), ([9, 9, 0, 1, 2, 3, 4, 5, 6, 7, 8, 9], [9])])
def poly_Interpolate.B17 : List Nat := [0, 0, 0, 6, 14, 0, 0, 0, 224, 511, 1023]
theorem poly_Interpolate.tab17 : rtab .any (opsOf Try.f49 17) = poly_Interpolate.T17 := by kernel_rfl
theorem poly_Interpolate.bits17 : waitsOk poly_Interpolate.T17.2 poly_Interpolate.B17 = true := by kernel_rfl
set_option maxHeartbeats 8000000 in
set_option maxRecDepth 100000 in
theorem poly_Interpolate.calls (k : Nat) (g : Nat) (s0_0 : Int) (s0_1 : Int) (s0_2 : List Int) (s0_3 : Int) (s0_4 : List Int) (s0_5 : List Int) (A1 : Option Addr) (c1 : Nat) (l1 : List Int) (A2 : Option Addr) (c2 : Nat) (l2 : List Int) (r1 : List Int) (r2 : Int) (r3 : Int) (r4 : Int) (r5 : Int) (w0 w : World) (hI : IsS93 w0 w g s0_0 s0_1 s0_2 s0_3 s0_4 s0_5) (hB : Below w0.heap.size w0 w) (hr1 : Kd.C (Kd.int .i64) w A1 l1.length l1) (hc1 : l1.length ≤ c1) (hf1 : ∀ ad, A1 = some ad → 0 < l1.length → ad.block ≠ g) (hr2 : Kd.C (Kd.int .i64) w A2 l2.length l2) (hc2 : l2.length ≤ c2) (hf2 : ∀ ad, A2 = some ad → 0 < l2.length → ad.block ≠ g) (h : poly_Interpolate.f k s0_0 s0_1 s0_2 s0_3 s0_4 s0_5 l1 l2 = some (r1, r2, r3, r4, r5)) :
  Calls Try.prog 49 #[.pointer (some ⟨g, 0, none⟩), .slice A1 l1.length c1, .slice A2 l2.length c2] w fun e w' => ∃ v0_ : Value, e = .returned (.tuple #[v0_, .int .i64 r2]) ∧ Kd.R (Kd.int .i64) 3 w' w.heap.size (fun _ => True) v0_ r1 ∧ IsS93 w0 w' g r3 r4 s0_2 r5 s0_4 s0_5 ∧ Below w0.heap.size w0 w' ∧ KeepBut w w' g none := by
 have HR1 := Aside0.mk hr1
 have HC1 := Aside0.mk hc1
 clear hr1 hc1
 have HR2 := Aside0.mk hr2
 have HC2 := Aside0.mk hc2
 clear hr2 hc2
 have HI0 := Aside0.mk hI
 have HK := Aside0.mk (KeepBut.refl w g none)
 have HL := Aside0.mk hB.size
 clear hI
 have HW0 := Aside0.mk hB.size
 have HB := Aside0.mk hB
 clear hB
 have H : (if (l1.length : Int) = (l2.length : Int) then ((field_GF_Order.f s0_0 s0_1 s0_2 s0_3 s0_4 s0_5).bind fun bt564 => (if 0 ≤ bt564.1 then (if (bt564.1 : Int).toNat ≤ 281474976710656 then (poly_Interpolate.l0 k l1 l2 (List.replicate (bt564.1 : Int).toNat false) l1 (l1.length : Int) 0 bt564.2.1 bt564.2.2.1 s0_2 bt564.2.2.2 s0_4 s0_5) else (none)) else (none))) else (some (([] : List Int), 3, s0_0, s0_1, s0_3))) = some (r1, r2, r3, r4, r5) := h
 clear h
 by_cases c4 : (l1.length : Int) = (l2.length : Int)
 ·rw [if_pos c4] at H
  have c4b0 : ((l1.length : Int) == (l2.length : Int)) = true := beq_iff_eq.mpr c4
  have c4b1 : ((l1.length : Int) != (l2.length : Int)) = false := bne_eq_false_iff_eq.mpr c4
  have c4b2 : (l1.length == l2.length) = true := by (simp at c4 ⊢; omega)
  clear c4
  replace H := Option.bind_eq_some_iff.mp H
  obtain ⟨⟨t564, t565, t566, t567⟩, A50, H⟩ := H
  replace H : (if 0 ≤ t564 then (if (t564 : Int).toNat ≤ 281474976710656 then (poly_Interpolate.l0 k l1 l2 (List.replicate (t564 : Int).toNat false) l1 (l1.length : Int) 0 t565 t566 s0_2 t567 s0_4 s0_5) else (none)) else (none)) = some (r1, r2, r3, r4, r5) := H
  have A5 := Aside0.mk A50
  clear A50
  by_cases c6 : 0 ≤ t564
  ·rw [if_pos c6] at H
   have c6b0 := eq_true c6
   have c6b1 : decide (0 ≤ t564) = true := decide_eq_true c6
   clear c6
   by_cases c7 : (t564 : Int).toNat ≤ 281474976710656
   ·rw [if_pos c7] at H
    have c7b0 := eq_true c7
    have c7b1 : decide ((t564 : Int).toNat ≤ 281474976710656) = true := decide_eq_true c7
    clear c7
    obtain ⟨y568, hy568⟩ : ∃ y_ : List Bool, y_ = (List.replicate (t564 : Int).toNat false) := ⟨_, rfl⟩
    replace H : (poly_Interpolate.l0 k l1 l2 y568 l1 (l1.length : Int) 0 t565 t566 s0_2 t567 s0_4 s0_5) = some (r1, r2, r3, r4, r5) := by (rw [hy568]; with_reducible exact H)
    have Ny568 := Aside0.mk hy568
    clear hy568
    have H' := Aside0.mk H
    clear H
    go_enter Try.func49, Try.ntmps49
    go_wp2_with (first | ((with_reducible refine gate_callee (f := 82) rfl ?_); refine goesL_ (some 24) rfl rfl Try.func82 (by kernel_rfl) rfl #[.pointer (some ⟨g, 0, none⟩)] rfl (by ((simp only [List.map_toArray, List.map_cons, List.map_nil])); (rfl)) ?_; (with_reducible refine (field_GF_Order.calls g s0_0 s0_1 s0_2 s0_3 s0_4 s0_5 t564 t565 t566 t567 w0 _ ?side1 ?side2 A5.out).mono ?_); (case side1 => repeat ((with_reducible (exact HI0.out)))); (case side2 => repeat ((with_reducible (exact HB.out)))); rintro e w8 ⟨rfl, hi, hb, hk⟩; refine ⟨_, rfl, ?_⟩; have n0_ := Aside0.mk (KeepBut.trans HK.out hk (.inl rfl)); have n1_ := Aside0.mk (hb); have n2_ := Aside0.mk (hi); clear HK; clear HB; clear HI0; have HK := n0_; have HB := n1_; have HI0 := n2_; clear n0_ n1_ n2_; ((clear hb)); (skip); ((clear hk)); ((clear hi))) | ((with_reducible refine gate_dst (N := 25) rfl ?_); refine Kd.R_make Kd.bool _ 4 rfl (N := 25) rfl 97 _ _ rfl t564 rfl rfl Try.underlying97 (.bool false) 1 info4 rfl (by decide) (by omega) false (ok := fun _ => True) (okp := fun _ => True) rfl (fun _ hk => hk) trivial (of_decide_eq_true (by (with_reducible assumption))) (Nat.le_trans (Nat.mul_le_mul_right _ (of_decide_eq_true (by (with_reducible assumption)) : t564.toNat ≤ 281474976710656)) (by omega)) (Below.refl _ _) (Nat.le_refl _) ?_; intro v569 w9 ho10 hb hg_ hnew_; clear hg_ hnew_; ((rw [← Ny568.out] at ho10)); have n0_ := Aside0.mk (Kd.R_lower ho10 (keep_size (w := w) (g := g) (row := none) HK.out)); have n1_ := Aside0.mk (IsS93.below HI0.out hb); have n2_ := Aside0.mk (KeepBut.trans HK.out (KeepBut.of_below hb g none) (.inl rfl)); have n3_ := Aside0.mk (below_step HB.out hb); clear HI0; clear HK; clear HB; have HO570 := n0_; have HI0 := n1_; have HK := n2_; have HB := n3_; clear n0_ n1_ n2_ n3_; clear hb ho10))
    go_loopg [28] k (fun kq v28 w' => ∃ (x8_1 : List Bool) (x28_1 : Int) (x1000_1 : Int) (x1001_1 : Int) (x1003_1 : Int), v28 = .int .i64 x28_1 ∧ Aside0 (poly_Interpolate.l0 kq l1 l2 x8_1 l1 (l1.length : Int) x28_1 x1000_1 x1001_1 s0_2 x1003_1 s0_4 s0_5 = some (r1, r2, r3, r4, r5)) ∧ Aside0 (kq ≤ k) ∧ Aside0 (Kd.R Kd.bool 4 w' w.heap.size (fun _ => True) v569 x8_1) ∧ Aside0 (IsS93 w0 w' g x1000_1 x1001_1 s0_2 x1003_1 s0_4 s0_5) ∧ Aside0 (KeepBut w w' g none) ∧ Aside0 (Below w0.heap.size w0 w'))
    case atStart => exact ⟨(y568), (0), (t565), (t566), (t567), (by rfl), H', ⟨Nat.le_refl _⟩, ⟨HO570.out⟩, ⟨HI0.out⟩, ⟨HK.out⟩, ⟨HB.out⟩⟩
    case round =>
     clear H' c4b0 c4b1 c4b2 c6b0 c6b1 c7b0 c7b1
     obtain ⟨x8_1, x28_1, x1000_1, x1001_1, x1003_1, rfl, HA, HK1, HO_8, HI0, HK, HB⟩ := hrel
     cases gk with
     | zero => exact absurd HA.out (by simp [poly_Interpolate.l0])
     | succ k1 =>
      have H := HA.out
      clear HA
      simp only [poly_Interpolate.l0] at H
      by_cases c11 : x28_1 < (l1.length : Int)
      ·rw [if_pos c11] at H
       have c11b0 : decide (x28_1 < (l1.length : Int)) = true := decide_eq_true c11
       clear c11
       by_cases c12 : 0 ≤ x28_1
       ·rw [if_pos c12] at H
        have c12b0 : decide (0 ≤ x28_1) = true := decide_eq_true c12
        clear c12
        by_cases c13 : x28_1 < (l1.length : Int)
        ·rw [if_pos c13] at H
         have c13b0 : decide (x28_1 < (l1.length : Int)) = true := decide_eq_true c13
         clear c13
         replace H := Option.bind_eq_some_iff.mp H
         obtain ⟨⟨t572, t573, t574, t575⟩, A140, H⟩ := H
         replace H : (if 0 ≤ t572 then (if t572 < (x8_1.length : Int) then (if rdOf false x8_1 t572 = true then (some (([] : List Int), 18, t573, t574, t575)) else (poly_Interpolate.l0 k1 l1 l2 (x8_1.set (t572 : Int).toNat true) l1 (l1.length : Int) (wrap64 (x28_1 + 1)) t573 t574 s0_2 t575 s0_4 s0_5)) else (none)) else (none)) = some (r1, r2, r3, r4, r5) := H
         have A14 := Aside0.mk A140
         clear A140
         by_cases c15 : 0 ≤ t572
         ·rw [if_pos c15] at H
          have c15b0 : decide (0 ≤ t572) = true := decide_eq_true c15
          clear c15
          by_cases c16 : t572 < (x8_1.length : Int)
          ·rw [if_pos c16] at H
           have c16b0 : decide (t572 < (x8_1.length : Int)) = true := decide_eq_true c16
           clear c16
           obtain ⟨bq17, hbq17⟩ : ∃ b_ : Bool, b_ = (rdOf false x8_1 t572) := ⟨_, rfl⟩
           replace H : (if bq17 = true then (some (([] : List Int), 18, t573, t574, t575)) else (poly_Interpolate.l0 k1 l1 l2 (x8_1.set (t572 : Int).toNat true) l1 (l1.length : Int) (wrap64 (x28_1 + 1)) t573 t574 s0_2 t575 s0_4 s0_5)) = some (r1, r2, r3, r4, r5) := by rw [← hbq17] at H; exact H
           have Nbq17 := Aside0.mk hbq17
           clear hbq17
           by_cases c18 : bq17 = true
           ·subst c18
            have H1 : (some (([] : List Int), 18, t573, t574, t575)) = some (r1, r2, r3, r4, r5) := by rw [if_pos rfl] at H; exact H
            clear H
            have H := H1
            clear H1
            simp only [Option.some.injEq, Prod.mk.injEq] at H
            obtain ⟨rfl, rfl, rfl, rfl, rfl⟩ := H
            have p571 : 0 ≤ (x28_1 : Int) := of_decide_eq_true (by (with_reducible assumption))
            have q571 : x28_1 < (l1.length : Int) := of_decide_eq_true (by (with_reducible assumption))
            obtain ⟨ad571, e571, hx571_0⟩ := Kd.at_int HR1.out x28_1 p571 q571
            cases e571
            replace hx571_0 := keep_cell HK.out hx571_0 (by (rw [add_block]; exact hf1 _ rfl (by omega)))
            replace p571 := eq_true p571
            replace q571 := eq_true q571
            go_wp2_with (((with_reducible refine gate_callee (f := 53) rfl ?_); refine goesL_ (some 34) rfl rfl Try.func53 (by kernel_rfl) rfl #[.pointer (some ⟨g, 0, none⟩), .int .i64 (rd l1 x28_1), .int .i64 0] rfl (by ((simp only [List.map_toArray, List.map_cons, List.map_nil])); (rfl)) ?_; (with_reducible refine (field_GF_Add.calls k1 g x1000_1 x1001_1 s0_2 x1003_1 s0_4 s0_5 (rd l1 x28_1) 0 t572 t573 t574 t575 w0 _ ?side1 ?side2 A14.out).mono ?_); (case side1 => repeat ((with_reducible (exact HI0.out)))); (case side2 => repeat ((with_reducible (exact HB.out)))); rintro e w19 ⟨rfl, hi, hb, hk⟩; refine ⟨_, rfl, ?_⟩; have n0_ := Aside0.mk (Kd.R_mono (Kd.R_keep (IsS93.apart (show IsS93 w0 _ g x1000_1 x1001_1 s0_2 x1003_1 s0_4 s0_5 from by exact HI0.out) HO_8.out (by decide)) hk (fun _ h => h.2)) (fun _ h => h.1)); have n1_ := Aside0.mk (KeepBut.trans HK.out hk (.inl rfl)); have n2_ := Aside0.mk (hb); have n3_ := Aside0.mk (hi); clear HO_8; clear HK; clear HB; clear HI0; have HO_8 := n0_; have HK := n1_; have HB := n2_; have HI0 := n3_; clear n0_ n1_ n2_ n3_; ((clear hb)); (skip); ((clear hk)); ((clear hi)); obtain ⟨Ao20, co20, eo20⟩ := Kd.R_slice HO_8.out; subst eo20; have p576 : 0 ≤ (t572 : Int) := of_decide_eq_true (by (with_reducible assumption)); have q576 : t572 < (x8_1.length : Int) := of_decide_eq_true (by (with_reducible assumption)); obtain ⟨ad576, e576, hx576_0⟩ := Kd.at_bool (Kd.R_reads' HO_8.out).2.2 t572 p576 q576; ((rw [← Nbq17.out] at hx576_0)); cases e576; replace p576 := eq_true p576; replace q576 := eq_true q576))
            go_ret2
            exact ⟨_, by rfl, by (exact Kd.R_nil _ _ _ _ _), by exact HI0.out, by exact HB.out, by exact HK.out⟩
           ·replace c18 := Bool.eq_false_iff.mpr c18
            subst c18
            have H1 : (poly_Interpolate.l0 k1 l1 l2 (x8_1.set (t572 : Int).toNat true) l1 (l1.length : Int) (wrap64 (x28_1 + 1)) t573 t574 s0_2 t575 s0_4 s0_5) = some (r1, r2, r3, r4, r5) := by rw [if_neg (show ¬ (false = true) by decide)] at H; exact H
            clear H
            have H := H1
            clear H1
            obtain ⟨y577, hy577⟩ : ∃ y_ : List Bool, y_ = (x8_1.set (t572 : Int).toNat true) := ⟨_, rfl⟩
            replace H : (poly_Interpolate.l0 k1 l1 l2 y577 l1 (l1.length : Int) (wrap64 (x28_1 + 1)) t573 t574 s0_2 t575 s0_4 s0_5) = some (r1, r2, r3, r4, r5) := by (rw [hy577]; with_reducible exact H)
            have Ny577 := Aside0.mk hy577
            clear hy577
            have H' := Aside0.mk H
            clear H
            have p571 : 0 ≤ (x28_1 : Int) := of_decide_eq_true (by (with_reducible assumption))
            have q571 : x28_1 < (l1.length : Int) := of_decide_eq_true (by (with_reducible assumption))
            obtain ⟨ad571, e571, hx571_0⟩ := Kd.at_int HR1.out x28_1 p571 q571
            cases e571
            replace hx571_0 := keep_cell HK.out hx571_0 (by (rw [add_block]; exact hf1 _ rfl (by omega)))
            replace p571 := eq_true p571
            replace q571 := eq_true q571
            go_wp2_with (first | ((with_reducible refine gate_callee (f := 53) rfl ?_); refine goesL_ (some 34) rfl rfl Try.func53 (by kernel_rfl) rfl #[.pointer (some ⟨g, 0, none⟩), .int .i64 (rd l1 x28_1), .int .i64 0] rfl (by ((simp only [List.map_toArray, List.map_cons, List.map_nil])); (rfl)) ?_; (with_reducible refine (field_GF_Add.calls k1 g x1000_1 x1001_1 s0_2 x1003_1 s0_4 s0_5 (rd l1 x28_1) 0 t572 t573 t574 t575 w0 _ ?side1 ?side2 A14.out).mono ?_); (case side1 => repeat ((with_reducible (exact HI0.out)))); (case side2 => repeat ((with_reducible (exact HB.out)))); rintro e w22 ⟨rfl, hi, hb, hk⟩; refine ⟨_, rfl, ?_⟩; have n0_ := Aside0.mk (Kd.R_mono (Kd.R_keep (IsS93.apart (show IsS93 w0 _ g x1000_1 x1001_1 s0_2 x1003_1 s0_4 s0_5 from by exact HI0.out) HO_8.out (by decide)) hk (fun _ h => h.2)) (fun _ h => h.1)); have n1_ := Aside0.mk (KeepBut.trans HK.out hk (.inl rfl)); have n2_ := Aside0.mk (hb); have n3_ := Aside0.mk (hi); clear HO_8; clear HK; clear HB; clear HI0; have HO_8 := n0_; have HK := n1_; have HB := n2_; have HI0 := n3_; clear n0_ n1_ n2_ n3_; ((clear hb)); (skip); ((clear hk)); ((clear hi)); obtain ⟨Ao23, co23, eo23⟩ := Kd.R_slice HO_8.out; subst eo23; have p576 : 0 ≤ (t572 : Int) := of_decide_eq_true (by (with_reducible assumption)); have q576 : t572 < (x8_1.length : Int) := of_decide_eq_true (by (with_reducible assumption)); obtain ⟨ad576, e576, hx576_0⟩ := Kd.at_bool (Kd.R_reads' HO_8.out).2.2 t572 p576 q576; ((rw [← Nbq17.out] at hx576_0)); cases e576; replace p576 := eq_true p576; replace q576 := eq_true q576; have p21 : 0 ≤ (t572 : Int) := of_decide_eq_true (by (with_reducible assumption)); have q21 : (t572 : Int) < ((x8_1.length : Int) : Int) := of_decide_eq_true (by (with_reducible assumption)); obtain ⟨go21, co21, eo21, gb21, gl21, cl21, HG21⟩ := Kd.R_form HO_8.out (by omega); ((cases eo21)); have GB21 := Aside0.mk gb21; have GG21 := Aside0.mk HG21; clear gb21 gl21 HG21; ((simp only [add_plain] at hx576_0)); obtain ⟨hx21_0, hf21_0⟩ := Kd.R_celln false HO_8.out (t572 : Int) p21 q21; replace p21 := eq_true p21; replace q21 := eq_true q21; obtain ⟨hy24_, hz24_⟩ := Kd.R_celln false HO_8.out (t572 : Int) (of_decide_eq_true (by (with_reducible assumption))) (of_decide_eq_true (by (with_reducible assumption))); have HP24 := Kd.R_putg HO_8.out (t572 : Int) true) | ((with_reducible refine gate_store (t := 4) (p := 41) rfl ?_); refine store_event (t := 4) (p := 41) (v := ?vo_w25) (w1 := (w22.setCell ⟨go21, (t572 : Int).toNat, none⟩ (.bool true))) ?hg ?ho ?hn ?hr ?_; (case ho => rfl); (case hg => rfl); (case hn => rfl); (case hr => (go_simp; done)); intro w25 hw; have hg : w22.grownBy w25 (some go21) := (by rw [hw]; exact HP24.2); have hp_ : Kd.R Kd.bool 4 w25 w.heap.size (fun _ => True) (.slice (some ⟨go21, 0, none⟩) x8_1.length co23) y577 := (by rw [hw, Ny577.out]; exact HP24.1); clear HP24; have n0_ := Aside0.mk (hp_); have n1_ := Aside0.mk (IsS93.grown HI0.out hg (IsS93.own_ne HI0.out HO_8.out (by decide))); have n2_ := Aside0.mk ((by rw [hw]; exact below_set (HB.out) (Nat.le_trans HL.out GB21.out) : Below w0.heap.size w0 w25)); have n3_ := Aside0.mk (KeepBut.trans HK.out (KeepBut.of_grown hg g) (Kd.R_base2 HO_8.out)); clear HO_8; clear HI0; clear HB; clear HK; have HO_8 := n0_; have HI0 := n1_; have HB := n2_; have HK := n3_; clear n0_ n1_ n2_ n3_; clear hg hw hp_))
            go_roundg k1
            case measure => have := HK1.out; omega
            case rel => exact ⟨(y577), (wrap64 (x28_1 + 1)), (t573), (t574), (t575), (by rfl), H', ⟨by have := HK1.out; omega⟩, ⟨HO_8.out⟩, ⟨HI0.out⟩, ⟨HK.out⟩, ⟨HB.out⟩⟩
          ·rw [if_neg c16] at H
           exact absurd H (by simp)
         ·rw [if_neg c15] at H
          exact absurd H (by simp)
        ·rw [if_neg c13] at H
         exact absurd H (by simp)
       ·rw [if_neg c12] at H
        exact absurd H (by simp)
      ·rw [if_neg c11] at H
       have c11b0 : decide (x28_1 < (l1.length : Int)) = false := decide_eq_false c11
       clear c11
       obtain ⟨y578, hy578⟩ : ∃ y_ : List Int, y_ = (([1] : List Int)) := ⟨_, rfl⟩
       replace H : (poly_Interpolate.l1 k1 l2 ([] : List Int) y578 l1 (l1.length : Int) 0 x1000_1 x1001_1 s0_2 x1003_1 s0_4 s0_5) = some (r1, r2, r3, r4, r5) := by (rw [hy578]; with_reducible exact H)
       have Ny578 := Aside0.mk hy578
       clear hy578
       have H' := Aside0.mk H
       clear H
       go_wp2_with (((with_reducible refine gate_dst (N := 43) rfl ?_); refine Kd.R_lit (Kd.int .i64) _ 3 ?hg (N := 43) ?hd (xs := ([1] : List Int)) (inner := [.int .i64 1]) (ok := fun _ => True) (okp := fun _ => True) ?hr ?hp (fun _ hk => hk) trivial (Below.refl _ _) (Nat.le_refl _) (by simp) ?_; (case hd => rfl); (case hg => rfl); (case hr => (go_simp; done)); (case hp => exact (Reps.one (show Kd.M (Kd.int .i64) _ _ _ 1 [.int .i64 1] from rfl) (Reps.none _ _))); intro v579 w26 ho27 hb hg_ hnew_; clear hg_ hnew_; ((rw [← Ny578.out] at ho27)); have n0_ := Aside0.mk (Kd.R_below HO_8.out hb); have n1_ := Aside0.mk (Kd.R_lower ho27 (keep_size (w := w) (g := g) (row := none) HK.out)); have n2_ := Aside0.mk (IsS93.below HI0.out hb); have n3_ := Aside0.mk (KeepBut.trans HK.out (KeepBut.of_below hb g none) (.inl rfl)); have n4_ := Aside0.mk (below_step HB.out hb); clear HO_8; clear HI0; clear HK; clear HB; have HO_8 := n0_; have HO580 := n1_; have HI0 := n2_; have HK := n3_; have HB := n4_; clear n0_ n1_ n2_ n3_ n4_; clear hb ho27))
       go_loopg [11, 12, 46] k1 (fun kq v11 v12 v46 w' => ∃ (x11_2 : List Int) (x12_2 : List Int) (x46_2 : Int) (x1000_2 : Int) (x1001_2 : Int) (x1003_2 : Int), v46 = .int .i64 x46_2 ∧ Aside0 (poly_Interpolate.l1 kq l2 x11_2 x12_2 l1 (l1.length : Int) x46_2 x1000_2 x1001_2 s0_2 x1003_2 s0_4 s0_5 = some (r1, r2, r3, r4, r5)) ∧ Aside0 (kq ≤ k1) ∧ Aside0 (Kd.R (Kd.int .i64) 3 w' w.heap.size (fun k_ => some k_ ≠ (v12 : Value).ownBlock) v11 x11_2) ∧ Aside0 (Kd.R (Kd.int .i64) 3 w' w.heap.size (fun k_ => some k_ ≠ (v11 : Value).ownBlock) v12 x12_2) ∧ Aside0 (IsS93 w0 w' g x1000_2 x1001_2 s0_2 x1003_2 s0_4 s0_5) ∧ Aside0 (KeepBut w w' g none) ∧ Aside0 (Below w0.heap.size w0 w'))
       case atStart => exact ⟨(([] : List Int)), (y578), (0), (x1000_1), (x1001_1), (x1003_1), (by rfl), H', ⟨Nat.le_refl _⟩, ⟨by (exact Kd.R_nil _ _ _ _ _)⟩, ⟨by exact Kd.R_mono HO580.out (fun _ hk => (by simp [Value.ownBlock]))⟩, ⟨HI0.out⟩, ⟨HK.out⟩, ⟨HB.out⟩⟩
       case round =>
        clear H' c11b0
        obtain ⟨x11_2, x12_2, x46_2, x1000_2, x1001_2, x1003_2, rfl, HA, HK2, HO_11, HO_12, HI0, HK, HB⟩ := hrel
        cases gk with
        | zero => exact absurd HA.out (by simp [poly_Interpolate.l1])
        | succ k2 =>
         have H := HA.out
         clear HA
         simp only [poly_Interpolate.l1] at H
         by_cases c28 : x46_2 < (l1.length : Int)
         ·rw [if_pos c28] at H
          have c28b0 : decide (x46_2 < (l1.length : Int)) = true := decide_eq_true c28
          clear c28
          by_cases c29 : 0 ≤ x46_2
          ·rw [if_pos c29] at H
           have c29b0 : decide (0 ≤ x46_2) = true := decide_eq_true c29
           clear c29
           by_cases c30 : x46_2 < (l1.length : Int)
           ·rw [if_pos c30] at H
            have c30b0 : decide (x46_2 < (l1.length : Int)) = true := decide_eq_true c30
            clear c30
            by_cases c31 : x46_2 < (l2.length : Int)
            ·rw [if_pos c31] at H
             have c31b0 : decide (x46_2 < (l2.length : Int)) = true := decide_eq_true c31
             clear c31
             replace H := Option.bind_eq_some_iff.mp H
             obtain ⟨⟨t583, t584, t585, t586⟩, A320, H⟩ := H
             replace H : ((field_GF_Sub.f k2 t584 t585 s0_2 t586 s0_4 s0_5 (rd l2 x46_2) t583).bind fun bt587 => ((poly_Eval.f k2 bt587.2.1 bt587.2.2.1 s0_2 bt587.2.2.2 s0_4 s0_5 x12_2 (rd l1 x46_2)).bind fun bt591 => ((field_GF_Div.f bt591.2.1 bt591.2.2.1 s0_2 bt591.2.2.2 s0_4 s0_5 bt587.1 bt591.1).bind fun bt595 => ((poly_combine.f k2 bt595.2.2.1 bt595.2.2.2.1 s0_2 bt595.2.2.2.2 s0_4 s0_5 x11_2 bt595.1 x12_2).bind fun bt600 => ((field_GF_Neg.f k2 bt600.2.1 bt600.2.2.1 s0_2 bt600.2.2.2 s0_4 s0_5 (rd l1 x46_2)).bind fun bt606 => ((poly_product.f k2 bt606.2.1 bt606.2.2.1 s0_2 bt606.2.2.2 s0_4 s0_5 x12_2 (([bt606.1, 1] : List Int))).bind fun bt613 => (poly_Interpolate.l1 k2 l2 bt600.1 bt613.1 l1 (l1.length : Int) (wrap64 (x46_2 + 1)) bt613.2.1 bt613.2.2.1 s0_2 bt613.2.2.2 s0_4 s0_5))))))) = some (r1, r2, r3, r4, r5) := H
             have A32 := Aside0.mk A320
             clear A320
             replace H := Option.bind_eq_some_iff.mp H
             obtain ⟨⟨t587, t588, t589, t590⟩, A330, H⟩ := H
             replace H : ((poly_Eval.f k2 t588 t589 s0_2 t590 s0_4 s0_5 x12_2 (rd l1 x46_2)).bind fun bt591 => ((field_GF_Div.f bt591.2.1 bt591.2.2.1 s0_2 bt591.2.2.2 s0_4 s0_5 t587 bt591.1).bind fun bt595 => ((poly_combine.f k2 bt595.2.2.1 bt595.2.2.2.1 s0_2 bt595.2.2.2.2 s0_4 s0_5 x11_2 bt595.1 x12_2).bind fun bt600 => ((field_GF_Neg.f k2 bt600.2.1 bt600.2.2.1 s0_2 bt600.2.2.2 s0_4 s0_5 (rd l1 x46_2)).bind fun bt606 => ((poly_product.f k2 bt606.2.1 bt606.2.2.1 s0_2 bt606.2.2.2 s0_4 s0_5 x12_2 (([bt606.1, 1] : List Int))).bind fun bt613 => (poly_Interpolate.l1 k2 l2 bt600.1 bt613.1 l1 (l1.length : Int) (wrap64 (x46_2 + 1)) bt613.2.1 bt613.2.2.1 s0_2 bt613.2.2.2 s0_4 s0_5)))))) = some (r1, r2, r3, r4, r5) := H
             have A33 := Aside0.mk A330
             clear A330
             replace H := Option.bind_eq_some_iff.mp H
             obtain ⟨⟨t591, t592, t593, t594⟩, A340, H⟩ := H
             replace H : ((field_GF_Div.f t592 t593 s0_2 t594 s0_4 s0_5 t587 t591).bind fun bt595 => ((poly_combine.f k2 bt595.2.2.1 bt595.2.2.2.1 s0_2 bt595.2.2.2.2 s0_4 s0_5 x11_2 bt595.1 x12_2).bind fun bt600 => ((field_GF_Neg.f k2 bt600.2.1 bt600.2.2.1 s0_2 bt600.2.2.2 s0_4 s0_5 (rd l1 x46_2)).bind fun bt606 => ((poly_product.f k2 bt606.2.1 bt606.2.2.1 s0_2 bt606.2.2.2 s0_4 s0_5 x12_2 (([bt606.1, 1] : List Int))).bind fun bt613 => (poly_Interpolate.l1 k2 l2 bt600.1 bt613.1 l1 (l1.length : Int) (wrap64 (x46_2 + 1)) bt613.2.1 bt613.2.2.1 s0_2 bt613.2.2.2 s0_4 s0_5))))) = some (r1, r2, r3, r4, r5) := H
             have A34 := Aside0.mk A340
             clear A340
             replace H := Option.bind_eq_some_iff.mp H
             obtain ⟨⟨t595, t596, t597, t598, t599⟩, A350, H⟩ := H
             replace H : ((poly_combine.f k2 t597 t598 s0_2 t599 s0_4 s0_5 x11_2 t595 x12_2).bind fun bt600 => ((field_GF_Neg.f k2 bt600.2.1 bt600.2.2.1 s0_2 bt600.2.2.2 s0_4 s0_5 (rd l1 x46_2)).bind fun bt606 => ((poly_product.f k2 bt606.2.1 bt606.2.2.1 s0_2 bt606.2.2.2 s0_4 s0_5 x12_2 (([bt606.1, 1] : List Int))).bind fun bt613 => (poly_Interpolate.l1 k2 l2 bt600.1 bt613.1 l1 (l1.length : Int) (wrap64 (x46_2 + 1)) bt613.2.1 bt613.2.2.1 s0_2 bt613.2.2.2 s0_4 s0_5)))) = some (r1, r2, r3, r4, r5) := H
             have A35 := Aside0.mk A350
             clear A350
             replace H := Option.bind_eq_some_iff.mp H
             obtain ⟨⟨t600, t603, t604, t605⟩, A360, H⟩ := H
             replace H : ((field_GF_Neg.f k2 t603 t604 s0_2 t605 s0_4 s0_5 (rd l1 x46_2)).bind fun bt606 => ((poly_product.f k2 bt606.2.1 bt606.2.2.1 s0_2 bt606.2.2.2 s0_4 s0_5 x12_2 (([bt606.1, 1] : List Int))).bind fun bt613 => (poly_Interpolate.l1 k2 l2 t600 bt613.1 l1 (l1.length : Int) (wrap64 (x46_2 + 1)) bt613.2.1 bt613.2.2.1 s0_2 bt613.2.2.2 s0_4 s0_5))) = some (r1, r2, r3, r4, r5) := H
             have A36 := Aside0.mk A360
             clear A360
             replace H := Option.bind_eq_some_iff.mp H
             obtain ⟨⟨t606, t607, t608, t609⟩, A370, H⟩ := H
             replace H : ((poly_product.f k2 t607 t608 s0_2 t609 s0_4 s0_5 x12_2 (([t606, 1] : List Int))).bind fun bt613 => (poly_Interpolate.l1 k2 l2 t600 bt613.1 l1 (l1.length : Int) (wrap64 (x46_2 + 1)) bt613.2.1 bt613.2.2.1 s0_2 bt613.2.2.2 s0_4 s0_5)) = some (r1, r2, r3, r4, r5) := H
             have A37 := Aside0.mk A370
             clear A370
             obtain ⟨y610, hy610⟩ : ∃ y_ : List Int, y_ = (([t606, 1] : List Int)) := ⟨_, rfl⟩
             replace H : ((poly_product.f k2 t607 t608 s0_2 t609 s0_4 s0_5 x12_2 y610).bind fun bt613 => (poly_Interpolate.l1 k2 l2 t600 bt613.1 l1 (l1.length : Int) (wrap64 (x46_2 + 1)) bt613.2.1 bt613.2.2.1 s0_2 bt613.2.2.2 s0_4 s0_5)) = some (r1, r2, r3, r4, r5) := by (rw [hy610]; with_reducible exact H)
             have Ny610 := Aside0.mk hy610
             clear hy610
             replace H := Option.bind_eq_some_iff.mp H
             obtain ⟨⟨t613, t616, t617, t618⟩, A380, H⟩ := H
             replace H : (poly_Interpolate.l1 k2 l2 t600 t613 l1 (l1.length : Int) (wrap64 (x46_2 + 1)) t616 t617 s0_2 t618 s0_4 s0_5) = some (r1, r2, r3, r4, r5) := H
             have A38 := Aside0.mk A380
             clear A380
             have H' := Aside0.mk H
             clear H
             have p581 : 0 ≤ (x46_2 : Int) := of_decide_eq_true (by (with_reducible assumption))
             have q581 : x46_2 < (l1.length : Int) := of_decide_eq_true (by (with_reducible assumption))
             obtain ⟨ad581, e581, hx581_0⟩ := Kd.at_int HR1.out x46_2 p581 q581
             cases e581
             replace hx581_0 := keep_cell HK.out hx581_0 (by (rw [add_block]; exact hf1 _ rfl (by omega)))
             replace p581 := eq_true p581
             replace q581 := eq_true q581
             (go_wp2)
             have n0_ := Aside0.mk (Kd.R_drew HO_11.out)
             have n1_ := Aside0.mk (Kd.R_drew HO_12.out)
             have n2_ := Aside0.mk (IsS93.drew HI0.out)
             have n3_ := Aside0.mk (keep_drew HK.out)
             have n4_ := Aside0.mk (below_drew1 HB.out)
             clear HO_11 HO_12 HI0 HK HB
             have HO_11 := n0_
             have HO_12 := n1_
             have HI0 := n2_
             have HK := n3_
             have HB := n4_
             clear n0_ n1_ n2_ n3_ n4_
             have p582 : 0 ≤ (x46_2 : Int) := of_decide_eq_true (by (with_reducible assumption))
             have q582 : x46_2 < (l2.length : Int) := of_decide_eq_true (by (with_reducible assumption))
             obtain ⟨ad582, e582, hx582_0⟩ := Kd.at_int HR2.out x46_2 p582 q582
             have hw582_0 := hx582_0
             cases e582
             have hne582_0 := (show ((ad582.add (x46_2).toNat) : Addr).block ≠ g from by (rw [add_block]; exact hf2 ad582 rfl (by omega)))
             replace hx582_0 := keep_cell HK.out hx582_0 (by (rw [add_block]; exact hf2 _ rfl (by omega)))
             replace p582 := eq_true p582
             replace q582 := eq_true q582
             obtain ⟨Ao40, co40, eo40⟩ := Kd.R_slice HO_11.out
             ((subst eo40))
             refine start_ (n := 11) (S := fun w' => w'.cell? (ad582.add (x46_2).toNat) = some (.int .i64 (rd l2 x46_2))) (ds := []) (bm 11 0) (by kernel_rfl) rfl rfl ((keep_cell HK.out hw582_0 hne582_0)) (fun hHeld => ?_); refine with_tabW poly_Interpolate.tab17 poly_Interpolate.bits17 (fun HT_ HW_ => ?_)
             generalize wr.drew = w39 at HO_11 HO_12 HI0 HK HB hx582_0 hHeld ⊢
             refine pure_ (i := 0) (N := some 51) (v := ?_) (a' := ?_) (bm 11 1) rfl rfl (any_of HT_.out (by kernel_rfl)) (fun _ _ _ h => h) (Or.inl ⟨by rfl, ?_⟩) ?_ ?_;rotate_left;(intro w';go_simp;with_reducible rfl);rotate_left;(simp only [ps_];rfl)
             refine pure_ (i := 1) (N := some 52) (v := ?_) (a' := ?_) (bm 11 3) rfl rfl (any_of HT_.out (by kernel_rfl)) (fun _ _ _ h => h) (Or.inl ⟨by rfl, ?_⟩) ?_ ?_;rotate_left;(intro w';go_simp;with_reducible rfl);rotate_left;(simp only [ps_];rfl)
             refine pure_ (i := 2) (N := some 53) (v := ?_) (a' := ?_) (bm 11 7) rfl rfl (any_of HT_.out (by kernel_rfl)) (fun _ _ _ h => h) (Or.inl ⟨by rfl, ?_⟩) ?_ ?_;rotate_left;(intro w';go_simp;with_reducible rfl);rotate_left;(simp only [ps_];rfl)
             refine pure_ (i := 3) (N := some 54) (v := ?_) (a' := ?_) (bm 11 15) rfl rfl (any_of HT_.out (by kernel_rfl)) (fun _ _ _ h => h) (Or.inl ⟨by rfl, ?_⟩) ?_ ?_;rotate_left;(intro w';go_simp;with_reducible rfl);rotate_left;(simp only [ps_];rfl)
             refine pure_ (i := 5) (N := some 56) (v := ?_) (a' := ?_) (bm 11 47) rfl rfl (any_of HT_.out (by kernel_rfl)) (fun _ _ _ h => h) (Or.inl ⟨by rfl, ?_⟩) ?_ ?_;rotate_left;(intro w';go_simp;with_reducible rfl);rotate_left;(simp only [ps_];rfl)
             refine pure_ (i := 6) (N := some 57) (v := ?_) (a' := ?_) (bm 11 111) rfl rfl (any_of HT_.out (by kernel_rfl)) (fun _ _ _ h => h) (Or.inl ⟨by rfl, ?_⟩) ?_ ?_;rotate_left;(intro w';go_simp;with_reducible rfl);rotate_left;(simp only [ps_];rfl)
             refine pure_ (i := 7) (N := some 58) (v := ?_) (a' := ?_) (bm 11 239) rfl rfl (any_of HT_.out (by kernel_rfl)) (fun _ _ _ h => h) (Or.inl ⟨by rfl, ?_⟩) ?_ ?_;rotate_left;(intro w';go_simp;with_reducible rfl);rotate_left;(simp only [ps_];rfl)
             refine take_ (i := 4) (N := some 55) (v := ?_) (a' := ?_) (bm 11 255) rfl rfl (take_ofW HT_.out HW_.out (by kernel_rfl)) (fun _ _ _ h => h) (Or.inl ⟨by rfl, ?_⟩) hHeld ?_ ?_
             rotate_left
             ·intro w' s0
              go_simp
              with_reducible rfl
             rotate_left
             ·simp only [Act.put, List.setIfInBounds_toArray, List.set_cons_zero, List.set_cons_succ, i64_w, i32_w]
              rfl
             refine one_ (i := 8) (N := some 59) (bm 11 511) rfl rfl (one_of HT_.out (by kernel_rfl)) (by decide) (fun K hK => ?_)
             refine goes_ Try.func52 (by kernel_rfl) rfl #[.pointer (some ⟨g, 0, none⟩), .slice Ao40 x11_2.length co40, .int .i64 (rd l1 x46_2)] (by rfl) rfl rfl (by ((simp only [List.map_toArray, List.map_cons, List.map_nil])); (rfl)) ?_
             with_reducible refine (poly_Eval.calls k2 g x1000_2 x1001_2 s0_2 x1003_2 s0_4 s0_5 _ _ x11_2 (rd l1 x46_2) t583 t584 t585 t586 w0 _ ?side1 ?side2 ?side3 ?side4 ?side5 A32.out).mono ?_
             (case side1 => repeat ((with_reducible (exact HI0.out))))
             (case side2 => repeat ((with_reducible (exact HB.out))))
             (case side3 => repeat ((exact (Kd.R_reads' HO_11.out).2.2)))
             (case side4 => exact (Kd.R_reads' HO_11.out).2.1)
             (case side5 => exact far_slice (IsS93.own_ne HI0.out HO_11.out (by decide)))
             rintro e w41 ⟨rfl, hi, hb, hk⟩
             refine ⟨_, rfl, ?_⟩
             have n0_ := Aside0.mk (Kd.R_mono (Kd.R_keep (IsS93.apart (show IsS93 w0 _ g x1000_2 x1001_2 s0_2 x1003_2 s0_4 s0_5 from by exact HI0.out) HO_11.out (by decide)) hk (fun _ h => h.2)) (fun _ h => h.1))
             have n1_ := Aside0.mk (Kd.R_mono (Kd.R_keep (IsS93.apart (show IsS93 w0 _ g x1000_2 x1001_2 s0_2 x1003_2 s0_4 s0_5 from by exact HI0.out) HO_12.out (by decide)) hk (fun _ h => h.2)) (fun _ h => h.1))
             have n2_ := Aside0.mk (KeepBut.trans HK.out hk (.inl rfl))
             have n3_ := Aside0.mk (hb)
             have n4_ := Aside0.mk (hi)
             clear HO_11 HO_12 HK HB HI0
             have HO_11 := n0_
             have HO_12 := n1_
             have HK := n2_
             have HB := n3_
             have HI0 := n4_
             clear n0_ n1_ n2_ n3_ n4_
             ((clear hb))
             ((clear hk))
             ((clear hi))
             refine hK.out _ _ ((keep_cell HK.out hw582_0 hne582_0)) (fun hHeld => ?_)
             clear hK K
             refine norm_ (a' := ?_) ?_ ?_
             rotate_left
             ·show Act.put _ (some 59) _ = _
              simp only [Act.put, List.setIfInBounds_toArray, List.set_cons_zero, List.set_cons_succ, i64_w, i32_w]
              rfl
             refine one_ (i := 9) (N := some 60) (bm 11 1023) rfl rfl (one_of HT_.out (by kernel_rfl)) (by decide) (fun K hK => ?_)
             refine goes_ Try.func83 (by kernel_rfl) rfl #[.pointer (some ⟨g, 0, none⟩), .int .i64 (rd l2 x46_2), .int .i64 t583] (by rfl) rfl rfl (by ((simp only [List.map_toArray, List.map_cons, List.map_nil])); (rfl)) ?_
             with_reducible refine (field_GF_Sub.calls k2 g t584 t585 s0_2 t586 s0_4 s0_5 (rd l2 x46_2) t583 t587 t588 t589 t590 w0 _ ?side1 ?side2 A33.out).mono ?_
             (case side1 => repeat ((with_reducible (exact HI0.out))))
             (case side2 => repeat ((with_reducible (exact HB.out))))
             rintro e w42 ⟨rfl, hi, hb, hk⟩
             refine ⟨_, rfl, ?_⟩
             have n0_ := Aside0.mk (Kd.R_mono (Kd.R_keep (IsS93.apart (show IsS93 w0 _ g t584 t585 s0_2 t586 s0_4 s0_5 from by exact HI0.out) HO_11.out (by decide)) hk (fun _ h => h.2)) (fun _ h => h.1))
             have n1_ := Aside0.mk (Kd.R_mono (Kd.R_keep (IsS93.apart (show IsS93 w0 _ g t584 t585 s0_2 t586 s0_4 s0_5 from by exact HI0.out) HO_12.out (by decide)) hk (fun _ h => h.2)) (fun _ h => h.1))
             have n2_ := Aside0.mk (KeepBut.trans HK.out hk (.inl rfl))
             have n3_ := Aside0.mk (hb)
             have n4_ := Aside0.mk (hi)
             clear HO_11 HO_12 HK HB HI0
             have HO_11 := n0_
             have HO_12 := n1_
             have HK := n2_
             have HB := n3_
             have HI0 := n4_
             clear n0_ n1_ n2_ n3_ n4_
             ((clear hb))
             ((clear hk))
             ((clear hi))
             refine hK.out _ _ ((keep_cell HK.out hw582_0 hne582_0)) (fun hHeld => ?_)
             clear hK K
             refine norm_ (a' := ?_) ?_ ?_
             rotate_left
             ·show Act.put _ (some 60) _ = _
              simp only [Act.put, List.setIfInBounds_toArray, List.set_cons_zero, List.set_cons_succ, i64_w, i32_w]
              rfl
             refine pure_ (i := 10) (N := some 15) (v := ?_) (a' := ?_) (bm 11 2047) rfl rfl (any_of HT_.out (by kernel_rfl)) (fun _ _ _ h => h) (Or.inl ⟨by rfl, ?_⟩) ?_ ?_;rotate_left;(intro w';go_simp;with_reducible rfl);rotate_left;(simp only [ps_];rfl)
             refine done_ (done_of HT_.out (by kernel_rfl)) ?_
             obtain ⟨Ao43, co43, eo43⟩ := Kd.R_slice HO_12.out
             subst eo43
             (go_wp2_with (first | ((with_reducible refine gate_callee (f := 52) rfl ?_); refine goesL_ (some 67) rfl rfl Try.func52 (by kernel_rfl) rfl #[.pointer (some ⟨g, 0, none⟩), .slice Ao43 x12_2.length co43, .int .i64 (rd l1 x46_2)] rfl (by ((simp only [List.map_toArray, List.map_cons, List.map_nil])); (rfl)) ?_; (with_reducible refine (poly_Eval.calls k2 g t588 t589 s0_2 t590 s0_4 s0_5 _ _ x12_2 (rd l1 x46_2) t591 t592 t593 t594 w0 _ ?side1 ?side2 ?side3 ?side4 ?side5 A34.out).mono ?_); (case side1 => repeat ((with_reducible (exact HI0.out)))); (case side2 => repeat ((with_reducible (exact HB.out)))); (case side3 => repeat ((exact (Kd.R_reads' HO_12.out).2.2))); (case side4 => exact (Kd.R_reads' HO_12.out).2.1); (case side5 => exact far_slice (IsS93.own_ne HI0.out HO_12.out (by decide))); rintro e w44 ⟨rfl, hi, hb, hk⟩; refine ⟨_, rfl, ?_⟩; have n0_ := Aside0.mk (Kd.R_mono (Kd.R_keep (IsS93.apart (show IsS93 w0 _ g t588 t589 s0_2 t590 s0_4 s0_5 from by exact HI0.out) HO_11.out (by decide)) hk (fun _ h => h.2)) (fun _ h => h.1)); have n1_ := Aside0.mk (Kd.R_mono (Kd.R_keep (IsS93.apart (show IsS93 w0 _ g t588 t589 s0_2 t590 s0_4 s0_5 from by exact HI0.out) HO_12.out (by decide)) hk (fun _ h => h.2)) (fun _ h => h.1)); have n2_ := Aside0.mk (KeepBut.trans HK.out hk (.inl rfl)); have n3_ := Aside0.mk (hb); have n4_ := Aside0.mk (hi); clear HO_11; clear HO_12; clear HK; clear HB; clear HI0; have HO_11 := n0_; have HO_12 := n1_; have HK := n2_; have HB := n3_; have HI0 := n4_; clear n0_ n1_ n2_ n3_ n4_; ((clear hb)); (skip); ((clear hk)); ((clear hi))) | ((with_reducible refine gate_callee (f := 61) rfl ?_); refine goesL_ (some 68) rfl rfl Try.func61 (by kernel_rfl) rfl #[.pointer (some ⟨g, 0, none⟩), .int .i64 t587, .int .i64 t591] rfl (by ((simp only [List.map_toArray, List.map_cons, List.map_nil])); (rfl)) ?_; (with_reducible refine (field_GF_Div.calls g t592 t593 s0_2 t594 s0_4 s0_5 t587 t591 t595 t596 t597 t598 t599 w0 _ ?side1 ?side2 A35.out).mono ?_); (case side1 => repeat ((with_reducible (exact HI0.out)))); (case side2 => repeat ((with_reducible (exact HB.out)))); rintro e w45 ⟨rfl, hi, hb, hk⟩; refine ⟨_, rfl, ?_⟩; have n0_ := Aside0.mk (Kd.R_mono (Kd.R_keep (IsS93.apart (show IsS93 w0 _ g t592 t593 s0_2 t594 s0_4 s0_5 from by exact HI0.out) HO_11.out (by decide)) hk (fun _ h => h.2)) (fun _ h => h.1)); have n1_ := Aside0.mk (Kd.R_mono (Kd.R_keep (IsS93.apart (show IsS93 w0 _ g t592 t593 s0_2 t594 s0_4 s0_5 from by exact HI0.out) HO_12.out (by decide)) hk (fun _ h => h.2)) (fun _ h => h.1)); have n2_ := Aside0.mk (KeepBut.trans HK.out hk (.inl rfl)); have n3_ := Aside0.mk (hb); have n4_ := Aside0.mk (hi); clear HO_11; clear HO_12; clear HK; clear HB; clear HI0; have HO_11 := n0_; have HO_12 := n1_; have HK := n2_; have HB := n3_; have HI0 := n4_; clear n0_ n1_ n2_ n3_ n4_; ((clear hb)); (skip); ((clear hk)); ((clear hi))) | ((with_reducible refine gate_callee (f := 84) rfl ?_); refine goesL_ (some 75) rfl rfl Try.func84 (by kernel_rfl) rfl #[.pointer (some ⟨g, 0, none⟩), .slice Ao40 x11_2.length co40, .int .i64 t595, .slice Ao43 x12_2.length co43] rfl (by ((simp only [List.map_toArray, List.map_cons, List.map_nil])); (rfl)) ?_; (with_reducible refine (poly_combine.calls k2 g t597 t598 s0_2 t599 s0_4 s0_5 _ _ x11_2 t595 _ _ x12_2 t600 t603 t604 t605 w0 _ ?side1 ?side2 ?side3 ?side4 ?side5 ?side6 ?side7 ?side8 A36.out).mono ?_); (case side1 => repeat ((with_reducible (exact HI0.out)))); (case side2 => repeat ((with_reducible (exact HB.out)))); (case side3 => repeat ((exact (Kd.R_reads' HO_11.out).2.2))); (case side4 => exact (Kd.R_reads' HO_11.out).2.1); (case side5 => exact far_slice (IsS93.own_ne HI0.out HO_11.out (by decide))); (case side6 => repeat ((exact (Kd.R_reads' HO_12.out).2.2))); (case side7 => exact (Kd.R_reads' HO_12.out).2.1); (case side8 => exact far_slice (IsS93.own_ne HI0.out HO_12.out (by decide))); rintro e w46 ⟨v601, rfl, ho0, hi, hb, hk⟩; refine ⟨_, rfl, ?_⟩; have n0_ := Aside0.mk (Kd.R_mono (Kd.R_told (Kd.R_oldK (IsS93.apart (show IsS93 w0 _ g t597 t598 s0_2 t599 s0_4 s0_5 from by exact HI0.out) HO_11.out (by decide)) hk) (Kd.R_base ho0)) (fun _ h_ => h_.1)); have n1_ := Aside0.mk (Kd.R_mono (Kd.R_told (Kd.R_oldK (IsS93.apart (show IsS93 w0 _ g t597 t598 s0_2 t599 s0_4 s0_5 from by exact HI0.out) HO_12.out (by decide)) hk) (Kd.R_base ho0)) (fun _ h_ => h_.1)); have n2_ := Aside0.mk (Kd.R_lower (Kd.R_new' (Kd.R_new' ho0 (Kd.R_lt HO_11.out)) (Kd.R_lt HO_12.out)) (keep_size (w := w) (g := g) (row := none) HK.out)); have n3_ := Aside0.mk (KeepBut.trans HK.out hk (.inl rfl)); have n4_ := Aside0.mk (hb); have n5_ := Aside0.mk (hi); clear HO_11; clear HO_12; clear HK; clear HB; clear HI0; have HO_11 := n0_; have HO_12 := n1_; have HO602 := n2_; have HK := n3_; have HB := n4_; have HI0 := n5_; clear n0_ n1_ n2_ n3_ n4_ n5_; ((clear hb)); (skip); ((clear hk)); ((clear hi)); ((clear ho0))) | ((with_reducible refine gate_callee (f := 62) rfl ?_); refine goesL_ (some 80) rfl rfl Try.func62 (by kernel_rfl) rfl #[.pointer (some ⟨g, 0, none⟩), .int .i64 (rd l1 x46_2)] rfl (by ((simp only [List.map_toArray, List.map_cons, List.map_nil])); (rfl)) ?_; (with_reducible refine (field_GF_Neg.calls k2 g t603 t604 s0_2 t605 s0_4 s0_5 (rd l1 x46_2) t606 t607 t608 t609 w0 _ ?side1 ?side2 A37.out).mono ?_); (case side1 => repeat ((with_reducible (exact HI0.out)))); (case side2 => repeat ((with_reducible (exact HB.out)))); rintro e w47 ⟨rfl, hi, hb, hk⟩; refine ⟨_, rfl, ?_⟩; have n0_ := Aside0.mk (Kd.R_mono (Kd.R_keep (IsS93.apart (show IsS93 w0 _ g t603 t604 s0_2 t605 s0_4 s0_5 from by exact HI0.out) HO_11.out (by decide)) hk (fun _ h => h.2)) (fun _ h => h.1)); have n1_ := Aside0.mk (Kd.R_mono (Kd.R_keep (IsS93.apart (show IsS93 w0 _ g t603 t604 s0_2 t605 s0_4 s0_5 from by exact HI0.out) HO_12.out (by decide)) hk (fun _ h => h.2)) (fun _ h => h.1)); have n2_ := Aside0.mk (Kd.R_mono (Kd.R_keep (IsS93.apart (show IsS93 w0 _ g t603 t604 s0_2 t605 s0_4 s0_5 from by exact HI0.out) HO602.out (by decide)) hk (fun _ h => h.2)) (fun _ h => h.1)); have n3_ := Aside0.mk (KeepBut.trans HK.out hk (.inl rfl)); have n4_ := Aside0.mk (hb); have n5_ := Aside0.mk (hi); clear HO_11; clear HO_12; clear HO602; clear HK; clear HB; clear HI0; have HO_11 := n0_; have HO_12 := n1_; have HO602 := n2_; have HK := n3_; have HB := n4_; have HI0 := n5_; clear n0_ n1_ n2_ n3_ n4_ n5_; ((clear hb)); (skip); ((clear hk)); ((clear hi))) | ((with_reducible refine gate_dst (N := 81) rfl ?_); refine Kd.R_lit (Kd.int .i64) _ 3 ?hg (N := 81) ?hd (xs := ([t606, 1] : List Int)) (inner := [.int .i64 t606, .int .i64 1]) (ok := fun _ => True) (okp := fun _ => True) ?hr ?hp (fun _ hk => hk) trivial (Below.refl _ _) (Nat.le_refl _) (by simp) ?_; (case hd => rfl); (case hg => rfl); (case hr => (go_simp; done)); (case hp => exact (Reps.one (show Kd.M (Kd.int .i64) _ _ _ t606 [.int .i64 t606] from rfl) (Reps.one (show Kd.M (Kd.int .i64) _ _ _ 1 [.int .i64 1] from rfl) (Reps.none _ _)))); intro v611 w48 ho49 hb hg_ hnew_; clear hg_ hnew_; ((rw [← Ny610.out] at ho49)); have n0_ := Aside0.mk (Kd.R_elder' HO_11.out (Kd.R_base ho49) hb); have n1_ := Aside0.mk (Kd.R_elder' HO_12.out (Kd.R_base ho49) hb); have n2_ := Aside0.mk (Kd.R_elder' HO602.out (Kd.R_base ho49) hb); have n3_ := Aside0.mk (Kd.R_lower (Kd.R_new' (Kd.R_new' (Kd.R_new' ho49 (Kd.R_lt HO_11.out)) (Kd.R_lt HO_12.out)) (Kd.R_lt HO602.out)) (keep_size (w := w) (g := g) (row := none) HK.out)); have n4_ := Aside0.mk (IsS93.below HI0.out hb); have n5_ := Aside0.mk (KeepBut.trans HK.out (KeepBut.of_below hb g none) (.inl rfl)); have n6_ := Aside0.mk (below_step HB.out hb); clear HO_11; clear HO_12; clear HO602; clear HI0; clear HK; clear HB; have HO_11 := n0_; have HO_12 := n1_; have HO602 := n2_; have HO612 := n3_; have HI0 := n4_; have HK := n5_; have HB := n6_; clear n0_ n1_ n2_ n3_ n4_ n5_ n6_; clear hb ho49; obtain ⟨Ao50, co50, eo50⟩ := Kd.R_slice HO612.out; subst eo50) | ((with_reducible refine gate_callee (f := 85) rfl ?_); refine goesL_ (some 82) rfl rfl Try.func85 (by kernel_rfl) rfl #[.pointer (some ⟨g, 0, none⟩), .slice Ao43 x12_2.length co43, .slice Ao50 y610.length co50] rfl (by ((simp only [List.map_toArray, List.map_cons, List.map_nil])); (rfl)) ?_; (with_reducible refine (poly_product.calls k2 g t607 t608 s0_2 t609 s0_4 s0_5 _ _ x12_2 _ _ y610 t613 t616 t617 t618 w0 _ ?side1 ?side2 ?side3 ?side4 ?side5 ?side6 ?side7 ?side8 A38.out).mono ?_); (case side1 => repeat ((with_reducible (exact HI0.out)))); (case side2 => repeat ((with_reducible (exact HB.out)))); (case side3 => repeat ((exact (Kd.R_reads' HO_12.out).2.2))); (case side4 => exact (Kd.R_reads' HO_12.out).2.1); (case side5 => exact far_slice (IsS93.own_ne HI0.out HO_12.out (by decide))); (case side6 => repeat ((exact (Kd.R_reads' HO612.out).2.2))); (case side7 => exact (Kd.R_reads' HO612.out).2.1); (case side8 => exact far_slice (IsS93.own_ne HI0.out HO612.out (by decide))); rintro e w51 ⟨v614, rfl, ho0, hi, hb, hk⟩; refine ⟨_, rfl, ?_⟩; have n0_ := Aside0.mk (Kd.R_mono (Kd.R_told (Kd.R_oldK (IsS93.apart (show IsS93 w0 _ g t607 t608 s0_2 t609 s0_4 s0_5 from by exact HI0.out) HO_11.out (by decide)) hk) (Kd.R_base ho0)) (fun _ h_ => h_.1)); have n1_ := Aside0.mk (Kd.R_mono (Kd.R_told (Kd.R_oldK (IsS93.apart (show IsS93 w0 _ g t607 t608 s0_2 t609 s0_4 s0_5 from by exact HI0.out) HO_12.out (by decide)) hk) (Kd.R_base ho0)) (fun _ h_ => h_.1)); have n2_ := Aside0.mk (Kd.R_mono (Kd.R_told (Kd.R_oldK (IsS93.apart (show IsS93 w0 _ g t607 t608 s0_2 t609 s0_4 s0_5 from by exact HI0.out) HO602.out (by decide)) hk) (Kd.R_base ho0)) (fun _ h_ => h_.1)); have n3_ := Aside0.mk (Kd.R_mono (Kd.R_told (Kd.R_oldK (IsS93.apart (show IsS93 w0 _ g t607 t608 s0_2 t609 s0_4 s0_5 from by exact HI0.out) HO612.out (by decide)) hk) (Kd.R_base ho0)) (fun _ h_ => h_.1)); have n4_ := Aside0.mk (Kd.R_lower (Kd.R_new' (Kd.R_new' (Kd.R_new' (Kd.R_new' ho0 (Kd.R_lt HO_11.out)) (Kd.R_lt HO_12.out)) (Kd.R_lt HO602.out)) (Kd.R_lt HO612.out)) (keep_size (w := w) (g := g) (row := none) HK.out)); have n5_ := Aside0.mk (KeepBut.trans HK.out hk (.inl rfl)); have n6_ := Aside0.mk (hb); have n7_ := Aside0.mk (hi); clear HO_11; clear HO_12; clear HO602; clear HO612; clear HK; clear HB; clear HI0; have HO_11 := n0_; have HO_12 := n1_; have HO602 := n2_; have HO612 := n3_; have HO615 := n4_; have HK := n5_; have HB := n6_; have HI0 := n7_; clear n0_ n1_ n2_ n3_ n4_ n5_ n6_ n7_; ((clear hb)); (skip); ((clear hk)); ((clear hi)); ((clear ho0)))))
             go_roundg k2
             case measure => have := HK1.out; have := HK2.out; omega
             case rel => exact ⟨(t600), (t613), (wrap64 (x46_2 + 1)), (t616), (t617), (t618), (by rfl), H', ⟨by have := HK1.out; have := HK2.out; omega⟩, ⟨by exact Kd.R_mono HO602.out (fun _ hk => hk.2)⟩, ⟨by exact Kd.R_mono HO615.out (fun _ hk => hk.1.2)⟩, ⟨HI0.out⟩, ⟨HK.out⟩, ⟨HB.out⟩⟩
            ·rw [if_neg c31] at H
             exact absurd H (by simp)
           ·rw [if_neg c30] at H
            exact absurd H (by simp)
          ·rw [if_neg c29] at H
           exact absurd H (by simp)
         ·rw [if_neg c28] at H
          have c28b0 : decide (x46_2 < (l1.length : Int)) = false := decide_eq_false c28
          clear c28
          simp only [Option.some.injEq, Prod.mk.injEq] at H
          obtain ⟨rfl, rfl, rfl, rfl, rfl⟩ := H
          go_wp2
          go_ret2
          exact ⟨_, by rfl, by exact Kd.R_mono HO_11.out (fun _ hk => trivial), by exact HI0.out, by exact HB.out, by exact HK.out⟩
   ·rw [if_neg c7] at H
    exact absurd H (by simp)
  ·rw [if_neg c6] at H
   exact absurd H (by simp)
 ·rw [if_neg c4] at H
  have c4b0 : ((l1.length : Int) == (l2.length : Int)) = false := beq_eq_false_iff_ne.mpr c4
  have c4b1 : ((l1.length : Int) != (l2.length : Int)) = true := bne_iff_ne.mpr c4
  have c4b2 : (l1.length == l2.length) = false := by (simp at c4 ⊢; omega)
  simp only [Option.some.injEq, Prod.mk.injEq] at H
  obtain ⟨rfl, rfl, rfl, rfl, rfl⟩ := H
  go_enter Try.func49, Try.ntmps49
  go_wp2
  go_ret2
  exact ⟨_, by rfl, by (exact Kd.R_nil _ _ _ _ _), by exact HI0.out, by exact HB.out, by exact HK.out⟩
def poly_FromRoots.l0 : Nat → List Int → List Int → Int → Int → Int → Int → List Int → Int → List Int → List Int → Option (List Int × Int × Int × Int)
 | 0, _, _, _, _, _, _, _, _, _, _ => none
 | k + 1, x5, x9, x10, x11, x1000, x1001, x1002, x1003, x1004, x1005 => if x11 < x10 then (if 0 ≤ x11 then (if x11 < (x9.length : Int) then ((field_GF_Neg.f k x1000 x1001 x1002 x1003 x1004 x1005 (rd x9 x11)).bind fun bt623 => ((poly_product.f k bt623.2.1 bt623.2.2.1 x1002 bt623.2.2.2 x1004 x1005 x5 (([bt623.1, 1] : List Int))).bind fun bt630 => (poly_FromRoots.l0 k bt630.1 x9 x10 (wrap64 (x11 + 1)) bt630.2.1 bt630.2.2.1 x1002 bt630.2.2.2 x1004 x1005))) else (none)) else (none)) else (some (x5, x1000, x1001, x1003))
def poly_FromRoots.f (k : Nat) (s0_0 : Int) (s0_1 : Int) (s0_2 : List Int) (s0_3 : Int) (s0_4 : List Int) (s0_5 : List Int) (l1 : List Int) : Option (List Int × Int × Int × Int) := poly_FromRoots.l0 k (([1] : List Int)) l1 (l1.length : Int) 0 s0_0 s0_1 s0_2 s0_3 s0_4 s0_5
set_option maxHeartbeats 8000000 in
set_option maxRecDepth 100000 in
theorem poly_FromRoots.calls (k : Nat) (g : Nat) (s0_0 : Int) (s0_1 : Int) (s0_2 : List Int) (s0_3 : Int) (s0_4 : List Int) (s0_5 : List Int) (A1 : Option Addr) (c1 : Nat) (l1 : List Int) (r1 : List Int) (r2 : Int) (r3 : Int) (r4 : Int) (w0 w : World) (hI : IsS93 w0 w g s0_0 s0_1 s0_2 s0_3 s0_4 s0_5) (hB : Below w0.heap.size w0 w) (hr1 : Kd.C (Kd.int .i64) w A1 l1.length l1) (hc1 : l1.length ≤ c1) (hf1 : ∀ ad, A1 = some ad → 0 < l1.length → ad.block ≠ g) (h : poly_FromRoots.f k s0_0 s0_1 s0_2 s0_3 s0_4 s0_5 l1 = some (r1, r2, r3, r4)) :
  Calls Try.prog 50 #[.pointer (some ⟨g, 0, none⟩), .slice A1 l1.length c1] w fun e w' => ∃ v0_ : Value, e = .returned (v0_) ∧ Kd.R (Kd.int .i64) 3 w' w.heap.size (fun _ => True) v0_ r1 ∧ IsS93 w0 w' g r2 r3 s0_2 r4 s0_4 s0_5 ∧ Below w0.heap.size w0 w' ∧ KeepBut w w' g none := by
 have HR1 := Aside0.mk hr1
 have HC1 := Aside0.mk hc1
 clear hr1 hc1
 have HI0 := Aside0.mk hI
 have HK := Aside0.mk (KeepBut.refl w g none)
 have HL := Aside0.mk hB.size
 clear hI
 have HW0 := Aside0.mk hB.size
 have HB := Aside0.mk hB
 clear hB
 have H : (poly_FromRoots.l0 k (([1] : List Int)) l1 (l1.length : Int) 0 s0_0 s0_1 s0_2 s0_3 s0_4 s0_5) = some (r1, r2, r3, r4) := h
 clear h
 obtain ⟨y619, hy619⟩ : ∃ y_ : List Int, y_ = (([1] : List Int)) := ⟨_, rfl⟩
 replace H : (poly_FromRoots.l0 k y619 l1 (l1.length : Int) 0 s0_0 s0_1 s0_2 s0_3 s0_4 s0_5) = some (r1, r2, r3, r4) := by (rw [hy619]; with_reducible exact H)
 have Ny619 := Aside0.mk hy619
 clear hy619
 have H' := Aside0.mk H
 clear H
 go_enter Try.func50, Try.ntmps50
 go_wp2_with (((with_reducible refine gate_dst (N := 8) rfl ?_); refine Kd.R_lit (Kd.int .i64) _ 3 ?hg (N := 8) ?hd (xs := ([1] : List Int)) (inner := [.int .i64 1]) (ok := fun _ => True) (okp := fun _ => True) ?hr ?hp (fun _ hk => hk) trivial (Below.refl _ _) (Nat.le_refl _) (by simp) ?_; (case hd => rfl); (case hg => rfl); (case hr => (go_simp; done)); (case hp => exact (Reps.one (show Kd.M (Kd.int .i64) _ _ _ 1 [.int .i64 1] from rfl) (Reps.none _ _))); intro v620 w3 ho4 hb hg_ hnew_; clear hg_ hnew_; ((rw [← Ny619.out] at ho4)); have n0_ := Aside0.mk (Kd.R_lower ho4 (keep_size (w := w) (g := g) (row := none) HK.out)); have n1_ := Aside0.mk (IsS93.below HI0.out hb); have n2_ := Aside0.mk (KeepBut.trans HK.out (KeepBut.of_below hb g none) (.inl rfl)); have n3_ := Aside0.mk (below_step HB.out hb); clear HI0; clear HK; clear HB; have HO621 := n0_; have HI0 := n1_; have HK := n2_; have HB := n3_; clear n0_ n1_ n2_ n3_; clear hb ho4))
 go_loopg [5, 11] k (fun kq v5 v11 w' => ∃ (x5_1 : List Int) (x11_1 : Int) (x1000_1 : Int) (x1001_1 : Int) (x1003_1 : Int), v11 = .int .i64 x11_1 ∧ Aside0 (poly_FromRoots.l0 kq x5_1 l1 (l1.length : Int) x11_1 x1000_1 x1001_1 s0_2 x1003_1 s0_4 s0_5 = some (r1, r2, r3, r4)) ∧ Aside0 (kq ≤ k) ∧ Aside0 (Kd.R (Kd.int .i64) 3 w' w.heap.size (fun _ => True) v5 x5_1) ∧ Aside0 (IsS93 w0 w' g x1000_1 x1001_1 s0_2 x1003_1 s0_4 s0_5) ∧ Aside0 (KeepBut w w' g none) ∧ Aside0 (Below w0.heap.size w0 w'))
 case atStart => exact ⟨(y619), (0), (s0_0), (s0_1), (s0_3), (by rfl), H', ⟨Nat.le_refl _⟩, ⟨HO621.out⟩, ⟨HI0.out⟩, ⟨HK.out⟩, ⟨HB.out⟩⟩
 case round =>
  clear H'
  obtain ⟨x5_1, x11_1, x1000_1, x1001_1, x1003_1, rfl, HA, HK1, HO_5, HI0, HK, HB⟩ := hrel
  cases gk with
  | zero => exact absurd HA.out (by simp [poly_FromRoots.l0])
  | succ k1 =>
   have H := HA.out
   clear HA
   simp only [poly_FromRoots.l0] at H
   by_cases c5 : x11_1 < (l1.length : Int)
   ·rw [if_pos c5] at H
    have c5b0 : decide (x11_1 < (l1.length : Int)) = true := decide_eq_true c5
    clear c5
    by_cases c6 : 0 ≤ x11_1
    ·rw [if_pos c6] at H
     have c6b0 : decide (0 ≤ x11_1) = true := decide_eq_true c6
     clear c6
     by_cases c7 : x11_1 < (l1.length : Int)
     ·rw [if_pos c7] at H
      have c7b0 : decide (x11_1 < (l1.length : Int)) = true := decide_eq_true c7
      clear c7
      replace H := Option.bind_eq_some_iff.mp H
      obtain ⟨⟨t623, t624, t625, t626⟩, A80, H⟩ := H
      replace H : ((poly_product.f k1 t624 t625 s0_2 t626 s0_4 s0_5 x5_1 (([t623, 1] : List Int))).bind fun bt630 => (poly_FromRoots.l0 k1 bt630.1 l1 (l1.length : Int) (wrap64 (x11_1 + 1)) bt630.2.1 bt630.2.2.1 s0_2 bt630.2.2.2 s0_4 s0_5)) = some (r1, r2, r3, r4) := H
      have A8 := Aside0.mk A80
      clear A80
      obtain ⟨y627, hy627⟩ : ∃ y_ : List Int, y_ = (([t623, 1] : List Int)) := ⟨_, rfl⟩
      replace H : ((poly_product.f k1 t624 t625 s0_2 t626 s0_4 s0_5 x5_1 y627).bind fun bt630 => (poly_FromRoots.l0 k1 bt630.1 l1 (l1.length : Int) (wrap64 (x11_1 + 1)) bt630.2.1 bt630.2.2.1 s0_2 bt630.2.2.2 s0_4 s0_5)) = some (r1, r2, r3, r4) := by (rw [hy627]; with_reducible exact H)
      have Ny627 := Aside0.mk hy627
      clear hy627
      replace H := Option.bind_eq_some_iff.mp H
      obtain ⟨⟨t630, t633, t634, t635⟩, A90, H⟩ := H
      replace H : (poly_FromRoots.l0 k1 t630 l1 (l1.length : Int) (wrap64 (x11_1 + 1)) t633 t634 s0_2 t635 s0_4 s0_5) = some (r1, r2, r3, r4) := H
      have A9 := Aside0.mk A90
      clear A90
      have H' := Aside0.mk H
      clear H
      have p622 : 0 ≤ (x11_1 : Int) := of_decide_eq_true (by (with_reducible assumption))
      have q622 : x11_1 < (l1.length : Int) := of_decide_eq_true (by (with_reducible assumption))
      obtain ⟨ad622, e622, hx622_0⟩ := Kd.at_int HR1.out x11_1 p622 q622
      cases e622
      replace hx622_0 := keep_cell HK.out hx622_0 (by (rw [add_block]; exact hf1 _ rfl (by omega)))
      replace p622 := eq_true p622
      replace q622 := eq_true q622
      go_wp2_with (first | ((with_reducible refine gate_callee (f := 62) rfl ?_); refine goesL_ (some 19) rfl rfl Try.func62 (by kernel_rfl) rfl #[.pointer (some ⟨g, 0, none⟩), .int .i64 (rd l1 x11_1)] rfl (by ((simp only [List.map_toArray, List.map_cons, List.map_nil])); (rfl)) ?_; (with_reducible refine (field_GF_Neg.calls k1 g x1000_1 x1001_1 s0_2 x1003_1 s0_4 s0_5 (rd l1 x11_1) t623 t624 t625 t626 w0 _ ?side1 ?side2 A8.out).mono ?_); (case side1 => repeat ((with_reducible (exact HI0.out)))); (case side2 => repeat ((with_reducible (exact HB.out)))); rintro e w10 ⟨rfl, hi, hb, hk⟩; refine ⟨_, rfl, ?_⟩; have n0_ := Aside0.mk (Kd.R_mono (Kd.R_keep (IsS93.apart (show IsS93 w0 _ g x1000_1 x1001_1 s0_2 x1003_1 s0_4 s0_5 from by exact HI0.out) HO_5.out (by decide)) hk (fun _ h => h.2)) (fun _ h => h.1)); have n1_ := Aside0.mk (KeepBut.trans HK.out hk (.inl rfl)); have n2_ := Aside0.mk (hb); have n3_ := Aside0.mk (hi); clear HO_5; clear HK; clear HB; clear HI0; have HO_5 := n0_; have HK := n1_; have HB := n2_; have HI0 := n3_; clear n0_ n1_ n2_ n3_; ((clear hb)); (skip); ((clear hk)); ((clear hi))) | ((with_reducible refine gate_dst (N := 20) rfl ?_); refine Kd.R_lit (Kd.int .i64) _ 3 ?hg (N := 20) ?hd (xs := ([t623, 1] : List Int)) (inner := [.int .i64 t623, .int .i64 1]) (ok := fun _ => True) (okp := fun _ => True) ?hr ?hp (fun _ hk => hk) trivial (Below.refl _ _) (Nat.le_refl _) (by simp) ?_; (case hd => rfl); (case hg => rfl); (case hr => (go_simp; done)); (case hp => exact (Reps.one (show Kd.M (Kd.int .i64) _ _ _ t623 [.int .i64 t623] from rfl) (Reps.one (show Kd.M (Kd.int .i64) _ _ _ 1 [.int .i64 1] from rfl) (Reps.none _ _)))); intro v628 w11 ho12 hb hg_ hnew_; clear hg_ hnew_; ((rw [← Ny627.out] at ho12)); have n0_ := Aside0.mk (Kd.R_elder' HO_5.out (Kd.R_base ho12) hb); have n1_ := Aside0.mk (Kd.R_lower (Kd.R_new' ho12 (Kd.R_lt HO_5.out)) (keep_size (w := w) (g := g) (row := none) HK.out)); have n2_ := Aside0.mk (IsS93.below HI0.out hb); have n3_ := Aside0.mk (KeepBut.trans HK.out (KeepBut.of_below hb g none) (.inl rfl)); have n4_ := Aside0.mk (below_step HB.out hb); clear HO_5; clear HI0; clear HK; clear HB; have HO_5 := n0_; have HO629 := n1_; have HI0 := n2_; have HK := n3_; have HB := n4_; clear n0_ n1_ n2_ n3_ n4_; clear hb ho12; obtain ⟨Ao13, co13, eo13⟩ := Kd.R_slice HO_5.out; subst eo13; obtain ⟨Ao14, co14, eo14⟩ := Kd.R_slice HO629.out; subst eo14) | ((with_reducible refine gate_callee (f := 85) rfl ?_); refine goesL_ (some 21) rfl rfl Try.func85 (by kernel_rfl) rfl #[.pointer (some ⟨g, 0, none⟩), .slice Ao13 x5_1.length co13, .slice Ao14 y627.length co14] rfl (by ((simp only [List.map_toArray, List.map_cons, List.map_nil])); (rfl)) ?_; (with_reducible refine (poly_product.calls k1 g t624 t625 s0_2 t626 s0_4 s0_5 _ _ x5_1 _ _ y627 t630 t633 t634 t635 w0 _ ?side1 ?side2 ?side3 ?side4 ?side5 ?side6 ?side7 ?side8 A9.out).mono ?_); (case side1 => repeat ((with_reducible (exact HI0.out)))); (case side2 => repeat ((with_reducible (exact HB.out)))); (case side3 => repeat ((exact (Kd.R_reads' HO_5.out).2.2))); (case side4 => exact (Kd.R_reads' HO_5.out).2.1); (case side5 => exact far_slice (IsS93.own_ne HI0.out HO_5.out (by decide))); (case side6 => repeat ((exact (Kd.R_reads' HO629.out).2.2))); (case side7 => exact (Kd.R_reads' HO629.out).2.1); (case side8 => exact far_slice (IsS93.own_ne HI0.out HO629.out (by decide))); rintro e w15 ⟨v631, rfl, ho0, hi, hb, hk⟩; refine ⟨_, rfl, ?_⟩; have n0_ := Aside0.mk (Kd.R_mono (Kd.R_told (Kd.R_oldK (IsS93.apart (show IsS93 w0 _ g t624 t625 s0_2 t626 s0_4 s0_5 from by exact HI0.out) HO_5.out (by decide)) hk) (Kd.R_base ho0)) (fun _ h_ => h_.1)); have n1_ := Aside0.mk (Kd.R_mono (Kd.R_told (Kd.R_oldK (IsS93.apart (show IsS93 w0 _ g t624 t625 s0_2 t626 s0_4 s0_5 from by exact HI0.out) HO629.out (by decide)) hk) (Kd.R_base ho0)) (fun _ h_ => h_.1)); have n2_ := Aside0.mk (Kd.R_lower (Kd.R_new' (Kd.R_new' ho0 (Kd.R_lt HO_5.out)) (Kd.R_lt HO629.out)) (keep_size (w := w) (g := g) (row := none) HK.out)); have n3_ := Aside0.mk (KeepBut.trans HK.out hk (.inl rfl)); have n4_ := Aside0.mk (hb); have n5_ := Aside0.mk (hi); clear HO_5; clear HO629; clear HK; clear HB; clear HI0; have HO_5 := n0_; have HO629 := n1_; have HO632 := n2_; have HK := n3_; have HB := n4_; have HI0 := n5_; clear n0_ n1_ n2_ n3_ n4_ n5_; ((clear hb)); (skip); ((clear hk)); ((clear hi)); ((clear ho0))))
      go_roundg k1
      case measure => have := HK1.out; omega
      case rel => exact ⟨(t630), (wrap64 (x11_1 + 1)), (t633), (t634), (t635), (by rfl), H', ⟨by have := HK1.out; omega⟩, ⟨by exact Kd.R_mono HO632.out (fun _ hk => trivial)⟩, ⟨HI0.out⟩, ⟨HK.out⟩, ⟨HB.out⟩⟩
     ·rw [if_neg c7] at H
      exact absurd H (by simp)
    ·rw [if_neg c6] at H
     exact absurd H (by simp)
   ·rw [if_neg c5] at H
    have c5b0 : decide (x11_1 < (l1.length : Int)) = false := decide_eq_false c5
    clear c5
    simp only [Option.some.injEq, Prod.mk.injEq] at H
    obtain ⟨rfl, rfl, rfl, rfl⟩ := H
    go_wp2
    go_ret
    exact ⟨_, by rfl, by exact HO_5.out, by exact HI0.out, by exact HB.out, by exact HK.out⟩
end Go.Proofs.Ytkdakjlopheefaa.PA
end
section
namespace Go.Proofs.Ytkdakjlopheefaa.PA
open Go.RowKit Go.Proofs.YtkdakjlopheefaaW.PrintWords Go.Proofs.YtkdakjlopheefaaW.PrintLast Go.Proofs.YtkdakjlopheefaaW.PrintMore
attribute [local go_sem] max2_int min2_int max_two min_two max_three min_three max_four min_four
set_option linter.unusedVariables false
set_option linter.unusedSimpArgs false
end Go.Proofs.Ytkdakjlopheefaa.PA
end
section
namespace Go.Proofs.Ytkdakjlopheefaa.PA
open Go.RowKit Go.Proofs.YtkdakjlopheefaaW.PrintWords Go.Proofs.YtkdakjlopheefaaW.PrintLast Go.Proofs.YtkdakjlopheefaaW.PrintMore
attribute [local go_sem] max2_int min2_int max_two min_two max_three min_three max_four min_four
set_option linter.unusedVariables false
set_option linter.unusedSimpArgs false
end Go.Proofs.Ytkdakjlopheefaa.PA
end
section
namespace Go.Proofs.Ytkdakjlopheefaa.PA
open Go.RowKit Go.Proofs.YtkdakjlopheefaaW.PrintWords Go.Proofs.YtkdakjlopheefaaW.PrintLast Go.Proofs.YtkdakjlopheefaaW.PrintMore
attribute [local go_sem] max2_int min2_int max_two min_two max_three min_three max_four min_four
set_option linter.unusedVariables false
set_option linter.unusedSimpArgs false
end Go.Proofs.Ytkdakjlopheefaa.PA
end
section
namespace Go.Proofs.Ytkdakjlopheefaa.PA
open Go.RowKit Go.Proofs.YtkdakjlopheefaaW.PrintWords Go.Proofs.YtkdakjlopheefaaW.PrintLast Go.Proofs.YtkdakjlopheefaaW.PrintMore
attribute [local go_sem] max2_int min2_int max_two min_two max_three min_three max_four min_four
set_option linter.unusedVariables false
set_option linter.unusedSimpArgs false
def codewrightref04_Neg.l0 : Nat → List Int → Int → Int → Int → List Int → Option (Int)
 | 0, _, _, _, _, _ => none
 | k + 1, x5, x6, x687000, x687001, x687002 => if x6 < (x5.length : Int) then (if 0 ≤ x6 then (if x687000 = 0 then (none) else (codewrightref04_Neg.l0 k (x5.set (x6 : Int).toNat (Int.tmod (wrap64 (x687000 - (rd x5 x6))) x687000)) (wrap64 (x6 + 1)) x687000 x687001 x687002)) else (none)) else ((codewrightref04_Value.f k x687000 x687001 x687002 x5).bind fun t692 => (some t692))
def codewrightref04_Neg.f (k : Nat) (a0_0 : Int) (a0_1 : Int) (l0_2 : List Int) (a1 : Int) : Option (Int) := (codewrightref04_Digits.f k a0_0 a0_1 l0_2 a1).bind fun t687 => (codewrightref04_Neg.l0 k t687 0 a0_0 a0_1 l0_2)
end Go.Proofs.Ytkdakjlopheefaa.PA
end
section
namespace Go.Proofs.Ytkdakjlopheefaa.PA
open Go.RowKit Go.Proofs.YtkdakjlopheefaaW.PrintWords Go.Proofs.YtkdakjlopheefaaW.PrintLast Go.Proofs.YtkdakjlopheefaaW.PrintMore
attribute [local go_sem] max2_int min2_int max_two min_two max_three min_three max_four min_four
set_option linter.unusedVariables false
set_option linter.unusedSimpArgs false
end Go.Proofs.Ytkdakjlopheefaa.PA
end
section
namespace Go.Proofs.Ytkdakjlopheefaa.PA
open Go.RowKit Go.Proofs.YtkdakjlopheefaaW.PrintWords Go.Proofs.YtkdakjlopheefaaW.PrintLast Go.Proofs.YtkdakjlopheefaaW.PrintMore
attribute [local go_sem] max2_int min2_int max_two min_two max_three min_three max_four min_four
set_option linter.unusedVariables false
set_option linter.unusedSimpArgs false
end Go.Proofs.Ytkdakjlopheefaa.PA
end
section
namespace Go.Proofs.Ytkdakjlopheefaa.PA
open Go.RowKit Go.Proofs.YtkdakjlopheefaaW.PrintWords Go.Proofs.YtkdakjlopheefaaW.PrintLast Go.Proofs.YtkdakjlopheefaaW.PrintMore
attribute [local go_sem] max2_int min2_int max_two min_two max_three min_three max_four min_four
set_option linter.unusedVariables false
set_option linter.unusedSimpArgs false
end Go.Proofs.Ytkdakjlopheefaa.PA
end
section
namespace Go.Proofs.Ytkdakjlopheefaa.PA
open Go.RowKit Go.Proofs.YtkdakjlopheefaaW.PrintWords Go.Proofs.YtkdakjlopheefaaW.PrintLast Go.Proofs.YtkdakjlopheefaaW.PrintMore
attribute [local go_sem] max2_int min2_int max_two min_two max_three min_three max_four min_four
set_option linter.unusedVariables false
set_option linter.unusedSimpArgs false
end Go.Proofs.Ytkdakjlopheefaa.PA
end
section
namespace Go.Proofs.Ytkdakjlopheefaa.PA
open Go.RowKit Go.Proofs.YtkdakjlopheefaaW.PrintWords Go.Proofs.YtkdakjlopheefaaW.PrintLast Go.Proofs.YtkdakjlopheefaaW.PrintMore
attribute [local go_sem] max2_int min2_int max_two min_two max_three min_three max_four min_four
set_option linter.unusedVariables false
set_option linter.unusedSimpArgs false
end Go.Proofs.Ytkdakjlopheefaa.PA
end
section
namespace Go.Proofs.Ytkdakjlopheefaa.PA
open Go.RowKit Go.Proofs.YtkdakjlopheefaaW.PrintWords Go.Proofs.YtkdakjlopheefaaW.PrintLast Go.Proofs.YtkdakjlopheefaaW.PrintMore
attribute [local go_sem] max2_int min2_int max_two min_two max_three min_three max_four min_four
set_option linter.unusedVariables false
set_option linter.unusedSimpArgs false
end Go.Proofs.Ytkdakjlopheefaa.PA
end
section
namespace Go.Proofs.Ytkdakjlopheefaa.PA
open Go.RowKit Go.Proofs.YtkdakjlopheefaaW.PrintWords Go.Proofs.YtkdakjlopheefaaW.PrintLast Go.Proofs.YtkdakjlopheefaaW.PrintMore
attribute [local go_sem] max2_int min2_int max_two min_two max_three min_three max_four min_four
set_option linter.unusedVariables false
set_option linter.unusedSimpArgs false
end Go.Proofs.Ytkdakjlopheefaa.PA
end
section
namespace Go.Proofs.Ytkdakjlopheefaa.PA
open Go.RowKit Go.Proofs.YtkdakjlopheefaaW.PrintWords Go.Proofs.YtkdakjlopheefaaW.PrintLast Go.Proofs.YtkdakjlopheefaaW.PrintMore
theorem Ev.succ {α : Type} {g : Nat → Option α} {r : α} (h : Ev (fun k => g (k + 1)) r) : Ev g r := Ev.step (fun _ => rfl) h
theorem Ev.ifp {α : Type} {c : Prop} [Decidable c] {f g : Nat → Option α} {r : α} (h : c) (e : Ev f r) : Ev (fun k => if c then f k else g k) r := by simp only [if_pos h]; exact e
theorem Ev.ifn {α : Type} {c : Prop} [Decidable c] {f g : Nat → Option α} {r : α} (h : ¬ c) (e : Ev g r) : Ev (fun k => if c then f k else g k) r := by simp only [if_neg h]; exact e
theorem Ev.val {α : Type} {a r : α} (h : a = r) : Ev (fun _ => some a) r := h ▸ Ev.now a
theorem Ev.some_bind {α β : Type} {a : α} {f : Nat → α → Option β} {r : β} (h : Ev (fun k => f k a) r) : Ev (fun k => (some a).bind (f k)) r := h
theorem Ev.opt_bind {α β : Type} {o : Option α} {a : α} {f : Nat → α → Option β} {r : β} (h0 : o = some a) (h : Ev (fun k => f k a) r) : Ev (fun k => o.bind (f k)) r := by subst h0; exact h
theorem w64 {n : Int} (h : -4000000000000000000 ≤ n ∧ n ≤ 4000000000000000000) : wrap64 n = n := by unfold wrap64; omega
theorem rd_nat (xs : List Int) (j : Nat) : rd xs (j : Int) = xs.getD j 0 := by unfold rd; rw [Int.toNat_natCast]
theorem rd_set (xs : List Int) (i j : Nat) (v : Int) (h : i < xs.length) : (xs.set i v).getD j 0 = if i = j then v else xs.getD j 0 := by
  rw [List.getD_eq_getElem?_getD, List.getElem?_set]
  split
  · rename_i e; subst e; simp [h]
  · rw [List.getD_eq_getElem?_getD]
theorem tdiv_pos {a b : Int} (h : 0 ≤ a) : Int.tdiv a b = a / b := Int.tdiv_eq_ediv_of_nonneg h
theorem tmod_pos {a b : Int} (h : 0 ≤ a) : Int.tmod a b = a % b := Int.tmod_eq_emod_of_nonneg h
theorem getD_nat_lt (xs : List Int) (j : Nat) (h : xs.length ≤ j) : xs.getD j 0 = 0 := by
  rw [List.getD_eq_getElem?_getD, List.getElem?_eq_none h]; rfl
theorem getD_zeros (n j : Nat) : (List.replicate n (0 : Int)).getD j 0 = 0 := by
  rw [List.getD_eq_getElem?_getD, List.getElem?_replicate]; split <;> rfl
end Go.Proofs.Ytkdakjlopheefaa.PA
end
