/- Proved: for every input the law KeyequationErasures returns true and leaves its arguments as they were; no conditions. Part 5 of 7 of the proof. -/
import Derived.Test.YtkdakjlopheefaaZKeyequationErasures3
set_option linter.unusedSectionVars false
set_option linter.unusedSimpArgs false
set_option linter.unusedVariables false
section
namespace Go.Proofs.Ytkdakjlopheefaa.PA
open Go.RowKit Go.Proofs.YtkdakjlopheefaaW.PrintWords Go.Proofs.YtkdakjlopheefaaW.PrintLast Go.Proofs.YtkdakjlopheefaaW.PrintMore
attribute [local go_sem] max2_int min2_int max_two min_two max_three min_three max_four min_four
set_option linter.unusedVariables false
set_option linter.unusedSimpArgs false
mutual
def codewrightref38_Syndrome.l0 : Nat → List Int → List Int → Int → List Int → Int → Int → Int → List Int → Option (List Int)
 | 0, _, _, _, _, _, _, _, _ => none
 | k + 1, x1, x2, x3, x9, x10, x637000, x637001, x637002 => if x10 < (x1.length : Int) then (codewrightref38_Syndrome.l1 k x1 x2 x3 x9 x10 1 0 x637000 x637001 x637002) else ((codewrightref05_Canon.f k x637000 x637001 x637002 x9).bind fun t640 => (some t640))
def codewrightref38_Syndrome.l1 : Nat → List Int → List Int → Int → List Int → Int → Int → Int → Int → Int → List Int → Option (List Int)
 | 0, _, _, _, _, _, _, _, _, _, _ => none
 | k + 1, x1, x2, x3, x9, x10, x11, x12, x637000, x637001, x637002 => if x12 < x3 then (if 0 ≤ x12 then (if x12 < (x9.length : Int) then (if 0 ≤ x10 then (if x10 < (x2.length : Int) then ((codewrightref04_Mul.f k x637000 x637001 x637002 (rd x2 x10) x11).bind fun t645 => ((codewrightref04_Add.f k x637000 x637001 x637002 (rd x9 x12) t645).bind fun t646 => (if x10 < (x1.length : Int) then ((codewrightref04_Mul.f k x637000 x637001 x637002 x11 (rd x1 x10)).bind fun t649 => (codewrightref38_Syndrome.l1 k x1 x2 x3 (x9.set (x12 : Int).toNat t646) x10 t649 (wrap64 (x12 + 1)) x637000 x637001 x637002)) else (none)))) else (none)) else (none)) else (none)) else (none)) else (codewrightref38_Syndrome.l0 k x1 x2 x3 x9 (wrap64 (x10 + 1)) x637000 x637001 x637002)
end
def codewrightref38_Syndrome.f (k : Nat) (a0_0 : Int) (a0_1 : Int) (l0_2 : List Int) (l1 : List Int) (l2 : List Int) (a3 : Int) : Option (List Int) := if 0 ≤ a3 then (if (a3 : Int).toNat ≤ 35184372088832 then (codewrightref38_Syndrome.l0 k l1 l2 a3 (List.replicate (a3 : Int).toNat 0) 0 a0_0 a0_1 l0_2) else (none)) else (none)
def codewrightref38_Syndrome.T9 : Bool × List (List Nat × List Nat) := (true, [([], []), ([], []), ([], []), ([], []), ([], []), ([3, 4], [3, 4]), ([5], [5]), ([], []), ([], []), ([], []), ([8, 9], [8, 9]), ([10], [10]), ([], []), ([7, 11, 12], [7, 11, 12]), ([2, 6, 13, 13], [2, 6, 13]), ([0, 1, 0, 1, 2, 3, 4, 5, 6, 7, 8, 9, 10, 11, 12, 13, 14], [0, 1]), ([15, 14, 14, 0, 1, 2, 3, 4, 5, 6, 7, 8, 9, 10, 11, 12, 13, 14], [14, 15])])
def codewrightref38_Syndrome.B9 : List Nat := [0, 0, 0, 0, 0, 24, 56, 0, 0, 0, 768, 1792, 0, 8064, 16380, 32767, 65535]
theorem codewrightref38_Syndrome.tab9 : rtab .any (opsOf Try.f25 9) = codewrightref38_Syndrome.T9 := by kernel_rfl
theorem codewrightref38_Syndrome.bits9 : waitsOk codewrightref38_Syndrome.T9.2 codewrightref38_Syndrome.B9 = true := by kernel_rfl
def codewrightref38_Syndrome.T10 : Bool × List (List Nat × List Nat) := (true, [([], []), ([], []), ([], []), ([], []), ([2, 3], [2, 3]), ([4], [4]), ([0, 1, 5], [0, 1, 5]), ([6, 6, 0, 1, 2, 3, 4, 5, 6], [1, 6])])
def codewrightref38_Syndrome.B10 : List Nat := [0, 0, 0, 0, 12, 28, 63, 127]
theorem codewrightref38_Syndrome.tab10 : rtab .any (opsOf Try.f25 10) = codewrightref38_Syndrome.T10 := by kernel_rfl
theorem codewrightref38_Syndrome.bits10 : waitsOk codewrightref38_Syndrome.T10.2 codewrightref38_Syndrome.B10 = true := by kernel_rfl
set_option maxHeartbeats 8000000 in
set_option maxRecDepth 100000 in
theorem codewrightref38_Syndrome.calls (k : Nat) (a0_0 : Int) (a0_1 : Int) (A0_2 : Option Addr) (c0_2 : Nat) (l0_2 : List Int) (A1 : Option Addr) (c1 : Nat) (l1 : List Int) (A2 : Option Addr) (c2 : Nat) (l2 : List Int) (a3 : Int) (r : List Int) (w : World) (hr0_2 : Kd.C (Kd.int .i64) w A0_2 l0_2.length l0_2) (hc0_2 : l0_2.length ≤ c0_2) (hr1 : Kd.C (Kd.int .i64) w A1 l1.length l1) (hc1 : l1.length ≤ c1) (hr2 : Kd.C (Kd.int .i64) w A2 l2.length l2) (hc2 : l2.length ≤ c2) (h : codewrightref38_Syndrome.f k a0_0 a0_1 l0_2 l1 l2 a3 = some r) :
  Calls Try.prog 25 #[.agg #[.int .i64 a0_0, .int .i64 a0_1, .slice A0_2 l0_2.length c0_2], .slice A1 l1.length c1, .slice A2 l2.length c2, .int .i64 a3] w fun e w' => ∃ v0_ : Value, e = .returned (v0_) ∧ Kd.R (Kd.int .i64) 3 w' w.heap.size (fun _ => True) v0_ r ∧ Below w.heap.size w w' := by
 have hu24 := Try.underlying24
 have HR0_2 := Aside0.mk hr0_2
 have HC0_2 := Aside0.mk hc0_2
 clear hr0_2 hc0_2
 have HR1 := Aside0.mk hr1
 have HC1 := Aside0.mk hc1
 clear hr1 hc1
 have HR2 := Aside0.mk hr2
 have HC2 := Aside0.mk hc2
 clear hr2 hc2
 have HB := Aside0.mk (Below.refl w.heap.size w)
 have H : (if 0 ≤ a3 then (if (a3 : Int).toNat ≤ 35184372088832 then (codewrightref38_Syndrome.l0 k l1 l2 a3 (List.replicate (a3 : Int).toNat 0) 0 a0_0 a0_1 l0_2) else (none)) else (none)) = some r := h
 clear h
 by_cases c5 : 0 ≤ a3
 ·rw [if_pos c5] at H
  have c5b0 := eq_true c5
  have c5b1 : decide (0 ≤ a3) = true := decide_eq_true c5
  clear c5
  by_cases c6 : (a3 : Int).toNat ≤ 35184372088832
  ·rw [if_pos c6] at H
   have c6b0 := eq_true c6
   have c6b1 : decide ((a3 : Int).toNat ≤ 35184372088832) = true := decide_eq_true c6
   clear c6
   obtain ⟨y637, hy637⟩ : ∃ y_ : List Int, y_ = (List.replicate (a3 : Int).toNat 0) := ⟨_, rfl⟩
   replace H : (codewrightref38_Syndrome.l0 k l1 l2 a3 y637 0 a0_0 a0_1 l0_2) = some r := by (rw [hy637]; with_reducible exact H)
   have Ny637 := Aside0.mk hy637
   clear hy637
   have H' := Aside0.mk H
   clear H
   go_enter Try.func25, Try.ntmps25
   go_wp2_with (first | ((with_reducible refine gate_dst (N := 4) rfl ?_); refine box_event ?hg (N := 4) ?hd (cs := #[.int .i64 a0_0, .int .i64 a0_1, .slice A0_2 l0_2.length c0_2]) (t := 24) ?hr ?_; (case hd => rfl); (case hg => rfl); (case hr => (go_simp; done)); intro gb636 hg w7 hbox hb; have n0_ := Aside0.mk (below_step HB.out hb); have n1_ := Aside0.mk (hbox); have n2_ := Aside0.mk ((by rw [hg]; exact (below_size HB.out) : w.heap.size ≤ gb636)); have n3_ := Aside0.mk ((by rw [hg]; exact (below_size HB.out) : w.heap.size ≤ gb636)); clear HB; have HB := n0_; have BK636 := n1_; have GW636 := n2_; have GE636 := n3_; clear n0_ n1_ n2_ n3_; clear hb hbox hg) | ((with_reducible refine gate_dst (N := 14) rfl ?_); refine Kd.R_make (Kd.int .i64) _ 3 rfl (N := 14) rfl 22 _ _ rfl a3 rfl rfl Try.underlying22 (.int .i64 0) 8 info3 rfl (by decide) (by omega) 0 (ok := fun _ => True) (okp := fun _ => True) rfl (fun _ hk => hk) trivial (of_decide_eq_true (by (with_reducible assumption))) (Nat.le_trans (Nat.mul_le_mul_right _ (of_decide_eq_true (by (with_reducible assumption)) : a3.toNat ≤ 35184372088832)) (by omega)) (Below.refl _ _) (Nat.le_refl _) ?_; intro v638 w8 ho9 hb hg_ hnew_; clear hg_ hnew_; ((rw [← Ny637.out] at ho9)); have n0_ := Aside0.mk (Kd.R_lower ho9 (below_size HB.out)); have n1_ := Aside0.mk (blk_below (g := gb636) (o := .cells #[.int .i64 a0_0, .int .i64 a0_1, .slice A0_2 l0_2.length c0_2] 24 (0, 0)) BK636.out hb); have n2_ := Aside0.mk (below_step HB.out hb); clear BK636; clear HB; have HO639 := n0_; have BK636 := n1_; have HB := n2_; clear n0_ n1_ n2_; clear hb ho9))
   go_loopg [10] k (fun kq v10 w' => ∃ (x9_1 : List Int) (x10_1 : Int), v10 = .int .i64 x10_1 ∧ Aside0 (codewrightref38_Syndrome.l0 kq l1 l2 a3 x9_1 x10_1 a0_0 a0_1 l0_2 = some r) ∧ Aside0 (kq ≤ k) ∧ Aside0 (Kd.R (Kd.int .i64) 3 w' w.heap.size (fun _ => True) v638 x9_1) ∧ Aside0 (w'.heap[gb636]? = some (.cells #[.int .i64 a0_0, .int .i64 a0_1, (.slice A0_2 l0_2.length c0_2)] 24 (0, 0))) ∧ Aside0 (Below w.heap.size w w'))
   case atStart => exact ⟨(y637), (0), (by rfl), H', ⟨Nat.le_refl _⟩, ⟨HO639.out⟩, ⟨BK636.out⟩, ⟨HB.out⟩⟩
   case round =>
    clear H' c5b0 c5b1 c6b0 c6b1
    obtain ⟨x9_1, x10_1, rfl, HA, HK1, HO_9, BK636, HB⟩ := hrel
    cases gk with
    | zero => exact absurd HA.out (by simp [codewrightref38_Syndrome.l0])
    | succ k1 =>
     have H := HA.out
     clear HA
     simp only [codewrightref38_Syndrome.l0] at H
     by_cases c10 : x10_1 < (l1.length : Int)
     ·rw [if_pos c10] at H
      have c10b0 : decide (x10_1 < (l1.length : Int)) = true := decide_eq_true c10
      clear c10
      have H' := Aside0.mk H
      clear H
      go_wp2
      go_loopg [11, 12] k1 (fun kq v11 v12 w' => ∃ (x9_2 : List Int) (x11_2 : Int) (x12_2 : Int), v11 = .int .i64 x11_2 ∧ v12 = .int .i64 x12_2 ∧ Aside0 (codewrightref38_Syndrome.l1 kq l1 l2 a3 x9_2 x10_1 x11_2 x12_2 a0_0 a0_1 l0_2 = some r) ∧ Aside0 (kq ≤ k1) ∧ Aside0 (Kd.R (Kd.int .i64) 3 w' w.heap.size (fun _ => True) v638 x9_2) ∧ Aside0 (w'.heap[gb636]? = some (.cells #[.int .i64 a0_0, .int .i64 a0_1, (.slice A0_2 l0_2.length c0_2)] 24 (0, 0))) ∧ Aside0 (Below w.heap.size w w'))
      case atStart => exact ⟨(x9_1), (1), (0), (by rfl), (by rfl), H', ⟨Nat.le_refl _⟩, ⟨HO_9.out⟩, ⟨BK636.out⟩, ⟨HB.out⟩⟩
      case round =>
       clear H' c10b0
       obtain ⟨x9_2, x11_2, x12_2, rfl, rfl, HA, HK2, HO_9, BK636, HB⟩ := hrel
       cases gk with
       | zero => exact absurd HA.out (by simp [codewrightref38_Syndrome.l1])
       | succ k2 =>
        have H := HA.out
        clear HA
        simp only [codewrightref38_Syndrome.l1] at H
        by_cases c11 : x12_2 < a3
        ·rw [if_pos c11] at H
         have c11b0 : decide (x12_2 < a3) = true := decide_eq_true c11
         clear c11
         by_cases c12 : 0 ≤ x12_2
         ·rw [if_pos c12] at H
          have c12b0 : decide (0 ≤ x12_2) = true := decide_eq_true c12
          clear c12
          by_cases c13 : x12_2 < (x9_2.length : Int)
          ·rw [if_pos c13] at H
           have c13b0 : decide (x12_2 < (x9_2.length : Int)) = true := decide_eq_true c13
           clear c13
           by_cases c14 : 0 ≤ x10_1
           ·rw [if_pos c14] at H
            have c14b0 : decide (0 ≤ x10_1) = true := decide_eq_true c14
            clear c14
            by_cases c15 : x10_1 < (l2.length : Int)
            ·rw [if_pos c15] at H
             have c15b0 : decide (x10_1 < (l2.length : Int)) = true := decide_eq_true c15
             clear c15
             obtain ⟨t645, A160, H⟩ := Option.bind_eq_some_iff.mp H
             replace H : ((codewrightref04_Add.f k2 a0_0 a0_1 l0_2 (rd x9_2 x12_2) t645).bind fun t646 => (if x10_1 < (l1.length : Int) then ((codewrightref04_Mul.f k2 a0_0 a0_1 l0_2 x11_2 (rd l1 x10_1)).bind fun t649 => (codewrightref38_Syndrome.l1 k2 l1 l2 a3 (x9_2.set (x12_2 : Int).toNat t646) x10_1 t649 (wrap64 (x12_2 + 1)) a0_0 a0_1 l0_2)) else (none))) = some r := H
             have A16 := Aside0.mk A160
             clear A160
             obtain ⟨t646, A170, H⟩ := Option.bind_eq_some_iff.mp H
             replace H : (if x10_1 < (l1.length : Int) then ((codewrightref04_Mul.f k2 a0_0 a0_1 l0_2 x11_2 (rd l1 x10_1)).bind fun t649 => (codewrightref38_Syndrome.l1 k2 l1 l2 a3 (x9_2.set (x12_2 : Int).toNat t646) x10_1 t649 (wrap64 (x12_2 + 1)) a0_0 a0_1 l0_2)) else (none)) = some r := H
             have A17 := Aside0.mk A170
             clear A170
             obtain ⟨y647, hy647⟩ : ∃ y_ : List Int, y_ = (x9_2.set (x12_2 : Int).toNat t646) := ⟨_, rfl⟩
             replace H : (if x10_1 < (l1.length : Int) then ((codewrightref04_Mul.f k2 a0_0 a0_1 l0_2 x11_2 (rd l1 x10_1)).bind fun t649 => (codewrightref38_Syndrome.l1 k2 l1 l2 a3 y647 x10_1 t649 (wrap64 (x12_2 + 1)) a0_0 a0_1 l0_2)) else (none)) = some r := by (rw [hy647]; with_reducible exact H)
             have Ny647 := Aside0.mk hy647
             clear hy647
             by_cases c19 : x10_1 < (l1.length : Int)
             ·rw [if_pos c19] at H
              have c19b0 : decide (x10_1 < (l1.length : Int)) = true := decide_eq_true c19
              clear c19
              obtain ⟨t649, A200, H⟩ := Option.bind_eq_some_iff.mp H
              replace H : (codewrightref38_Syndrome.l1 k2 l1 l2 a3 y647 x10_1 t649 (wrap64 (x12_2 + 1)) a0_0 a0_1 l0_2) = some r := H
              have A20 := Aside0.mk A200
              clear A200
              have H' := Aside0.mk H
              clear H
              (go_wp2)
              have n0_ := Aside0.mk (Kd.R_drew HO_9.out)
              have n1_ := Aside0.mk (blk_drew BK636.out)
              have n2_ := Aside0.mk (below_drew1 HB.out)
              clear HO_9 BK636 HB
              have HO_9 := n0_
              have BK636 := n1_
              have HB := n2_
              clear n0_ n1_ n2_
              obtain ⟨Ao22, co22, eo22⟩ := Kd.R_slice HO_9.out
              ((subst eo22))
              have p643 : 0 ≤ (x12_2 : Int) := of_decide_eq_true (by (with_reducible assumption))
              have q643 : x12_2 < (x9_2.length : Int) := of_decide_eq_true (by (with_reducible assumption))
              obtain ⟨ad643, e643, hx643_0⟩ := Kd.at_int (Kd.R_reads' HO_9.out).2.2 x12_2 p643 q643
              cases e643
              replace p643 := eq_true p643
              replace q643 := eq_true q643
              have p644 : 0 ≤ (x10_1 : Int) := of_decide_eq_true (by (with_reducible assumption))
              have q644 : x10_1 < (l2.length : Int) := of_decide_eq_true (by (with_reducible assumption))
              obtain ⟨ad644, e644, hx644_0⟩ := Kd.at_int HR2.out x10_1 p644 q644
              have hw644_0 := hx644_0
              cases e644
              replace hx644_0 := (HB.out.cell (World.block_lt_of_cell? w _ hx644_0)).trans hx644_0
              replace p644 := eq_true p644
              replace q644 := eq_true q644
              refine start_ (n := 17) (S := fun w' => w'.cell? ⟨gb636, 0, none⟩ = some (.int .i64 a0_0) ∧ w'.cell? ⟨gb636, 1, none⟩ = some (.int .i64 a0_1) ∧ w'.cell? ⟨gb636, 2, none⟩ = some (.slice A0_2 l0_2.length c0_2) ∧ w'.cell? (ad643.add (x12_2).toNat) = some (.int .i64 (rd x9_2 x12_2)) ∧ w'.cell? (ad644.add (x10_1).toNat) = some (.int .i64 (rd l2 x10_1))) (ds := [16]) (bm 17 0) (by kernel_rfl) rfl rfl ⟨(blk_cell BK636.out 0).trans rfl, (blk_cell BK636.out 1).trans rfl, (blk_cell BK636.out 2).trans rfl, hx643_0, ((HB.out.cell (World.block_lt_of_cell? w _ hw644_0)).trans hw644_0)⟩ (fun hHeld => ?_); refine with_tabW codewrightref38_Syndrome.tab9 codewrightref38_Syndrome.bits9 (fun HT_ HW_ => ?_)
              generalize wr.drew = w21 at HO_9 BK636 HB hx643_0 hx644_0 hHeld ⊢
              refine pu_ 0 26 (bm 17 1) HT_ ?_
              refine pu_ 1 27 (bm 17 3) HT_ ?_
              refine pu_ 3 29 (bm 17 11) HT_ ?_
              refine pu_ 4 30 (bm 17 27) HT_ ?_
              refine pu_ 5 31 (bm 17 59) HT_ ?_
              refine pu_ 8 34 (bm 17 315) HT_ ?_
              refine pu_ 9 35 (bm 17 827) HT_ ?_
              refine pu_ 10 36 (bm 17 1851) HT_ ?_
              refine pu_ 12 38 (bm 17 5947) HT_ ?_
              refine take_ (i := 2) (N := some 28) (v := ?_) (a' := ?_) (bm 17 5951) rfl rfl (take_ofW HT_.out HW_.out (by kernel_rfl)) (fun _ _ _ h => h) (Or.inl ⟨by rfl, ?_⟩) hHeld ?_ ?_;rotate_left;(rintro w' ⟨s0, s1, s2, s3, s4⟩;go_simp;with_reducible rfl);rotate_left;(simp only [ps_];rfl)
              refine take_ (i := 6) (N := some 32) (v := ?_) (a' := ?_) (bm 17 6015) rfl rfl (take_ofW HT_.out HW_.out (by kernel_rfl)) (fun _ _ _ h => h) (Or.inl ⟨by rfl, ?_⟩) hHeld ?_ ?_;rotate_left;(rintro w' ⟨s0, s1, s2, s3, s4⟩;go_simp;with_reducible rfl);rotate_left;(simp only [ps_];rfl)
              refine take_ (i := 7) (N := some 33) (v := ?_) (a' := ?_) (bm 17 6143) rfl rfl (take_ofW HT_.out HW_.out (by kernel_rfl)) (fun _ _ _ h => h) (Or.inl ⟨by rfl, ?_⟩) hHeld ?_ ?_;rotate_left;(rintro w' ⟨s0, s1, s2, s3, s4⟩;go_simp;with_reducible rfl);rotate_left;(simp only [ps_];rfl)
              refine take_ (i := 11) (N := some 37) (v := ?_) (a' := ?_) (bm 17 8191) rfl rfl (take_ofW HT_.out HW_.out (by kernel_rfl)) (fun _ _ _ h => h) (Or.inl ⟨by rfl, ?_⟩) hHeld ?_ ?_;rotate_left;(rintro w' ⟨s0, s1, s2, s3, s4⟩;go_simp;with_reducible rfl);rotate_left;(simp only [ps_];rfl)
              refine one_ (i := 13) (N := some 39) (bm 17 16383) rfl rfl (one_of HT_.out (by kernel_rfl)) (by decide) (fun K hK => ?_)
              refine goes_ Try.func38 (by kernel_rfl) rfl #[.agg #[.int .i64 a0_0, .int .i64 a0_1, .slice A0_2 l0_2.length c0_2], .int .i64 (rd l2 x10_1), .int .i64 x11_2] (by rfl) rfl rfl (by ((simp only [List.map_toArray, List.map_cons, List.map_nil])); (rfl)) ?_
              with_reducible refine (codewrightref04_Mul.calls k2 a0_0 a0_1 _ _ l0_2 (rd l2 x10_1) x11_2 t645 _ ?side1 ?side2 A16.out).mono ?_
              (case side1 => repeat ((exact (Kd.C_below HR0_2.out HB.out))))
              (case side2 => exact HC0_2.out)
              rintro e w23 ⟨rfl, hb⟩
              have HS3_ := (hb.cell (World.block_lt_of_cell? _ _ (hHeld.2.2.2.1))).trans (hHeld.2.2.2.1)
              refine ⟨_, rfl, ?_⟩
              have n0_ := Aside0.mk (Kd.R_below HO_9.out hb)
              have n1_ := Aside0.mk (blk_below (g := gb636) (o := .cells #[.int .i64 a0_0, .int .i64 a0_1, .slice A0_2 l0_2.length c0_2] 24 (0, 0)) BK636.out hb)
              have n2_ := Aside0.mk (below_step HB.out hb)
              clear HO_9 BK636 HB
              have HO_9 := n0_
              have BK636 := n1_
              have HB := n2_
              clear n0_ n1_ n2_
              ((clear hb))
              refine hK.out _ _ ⟨(blk_cell BK636.out 0).trans rfl, (blk_cell BK636.out 1).trans rfl, (blk_cell BK636.out 2).trans rfl, HS3_, ((HB.out.cell (World.block_lt_of_cell? w _ hw644_0)).trans hw644_0)⟩ (fun hHeld => ?_)
              clear hK K
              refine norm_ (a' := ?_) ?_ ?_
              rotate_left
              ·show Act.put _ (some 39) _ = _
               simp only [Act.put, List.setIfInBounds_toArray, List.set_cons_zero, List.set_cons_succ, i64_w, i32_w]
               rfl
              refine one_ (i := 14) (N := some 40) (bm 17 32767) rfl rfl (one_of HT_.out (by kernel_rfl)) (by decide) (fun K hK => ?_)
              refine goes_ Try.func55 (by kernel_rfl) rfl #[.agg #[.int .i64 a0_0, .int .i64 a0_1, .slice A0_2 l0_2.length c0_2], .int .i64 (rd x9_2 x12_2), .int .i64 t645] (by rfl) rfl rfl (by ((simp only [List.map_toArray, List.map_cons, List.map_nil])); (rfl)) ?_
              with_reducible refine (codewrightref04_Add.calls k2 a0_0 a0_1 _ _ l0_2 (rd x9_2 x12_2) t645 t646 _ ?side1 ?side2 A17.out).mono ?_
              (case side1 => repeat ((exact (Kd.C_below HR0_2.out HB.out))))
              (case side2 => exact HC0_2.out)
              rintro e w24 ⟨rfl, hb⟩
              have HS3_ := (hb.cell (World.block_lt_of_cell? _ _ (hHeld.2.2.2.1))).trans (hHeld.2.2.2.1)
              refine ⟨_, rfl, ?_⟩
              have n0_ := Aside0.mk (Kd.R_below HO_9.out hb)
              have n1_ := Aside0.mk (blk_below (g := gb636) (o := .cells #[.int .i64 a0_0, .int .i64 a0_1, .slice A0_2 l0_2.length c0_2] 24 (0, 0)) BK636.out hb)
              have n2_ := Aside0.mk (below_step HB.out hb)
              clear HO_9 BK636 HB
              have HO_9 := n0_
              have BK636 := n1_
              have HB := n2_
              clear n0_ n1_ n2_
              ((clear hb))
              have p18 : 0 ≤ (x12_2 : Int) := of_decide_eq_true (by (with_reducible assumption))
              have q18 : (x12_2 : Int) < ((x9_2.length : Int) : Int) := of_decide_eq_true (by (with_reducible assumption))
              obtain ⟨go18, co18, eo18, gb18, gl18, cl18, HG18⟩ := Kd.R_form HO_9.out (by omega)
              ((cases eo18))
              have GB18 := Aside0.mk gb18
              have GG18 := Aside0.mk HG18
              clear gb18 gl18 HG18
              ((simp only [add_plain] at hx643_0))
              obtain ⟨hx18_0, hf18_0⟩ := Kd.R_celln 0 HO_9.out (x12_2 : Int) p18 q18
              replace p18 := eq_true p18
              replace q18 := eq_true q18
              have HP25 := Kd.R_putn HO_9.out (x12_2 : Int) t646
              rw [← Ny647.out] at HP25
              have HQ25 := Aside0.mk HP25
              clear HP25
              refine hK.out _ _ ⟨(blk_cell BK636.out 0).trans rfl, (blk_cell BK636.out 1).trans rfl, (blk_cell BK636.out 2).trans rfl, HS3_, ((HB.out.cell (World.block_lt_of_cell? w _ hw644_0)).trans hw644_0)⟩ (fun hHeld => ?_)
              clear hK K
              refine norm_ (a' := ?_) ?_ ?_
              rotate_left
              ·show Act.put _ (some 40) _ = _
               simp only [Act.put, List.setIfInBounds_toArray, List.set_cons_zero, List.set_cons_succ, i64_w, i32_w]
               rfl
              refine pu_ 15 41 (bm 17 65535) HT_ ?_
              refine last_ (i := 16) (N := none) (bm 17 131071) rfl rfl (one_of HT_.out (by kernel_rfl)) (by decide) (fun K hK => ?_)
              refine skip_ (w1 := ?_) (by rfl) rfl ?_ ?_
              rotate_left
              ·go_simp
               rfl
              refine hK.out _ _ ?_
              clear hK K
              refine done_ (done_of HT_.out (by kernel_rfl)) ?_
              (go_wp2)
              have n0_ : Aside0 (Kd.R (Kd.int .i64) 3 (w24.setCell ⟨go18, (x12_2 : Int).toNat, none⟩ (.int .i64 t646)) w.heap.size (fun _ => True) (.slice (some ⟨go18, 0, none⟩) x9_2.length co22) y647) := ⟨HQ25.out⟩
              have n1_ : Aside0 ((w24.setCell ⟨go18, (x12_2 : Int).toNat, none⟩ (.int .i64 t646)).heap[gb636]? = some (.cells #[.int .i64 a0_0, .int .i64 a0_1, .slice A0_2 l0_2.length c0_2] 24 (0, 0))) := ⟨by (with_reducible repeat (fail)); refine blk_far ?_ (by have h_ := Kd.R_ne HO_9.out BK636.out (by decide); intro e_; exact h_ (by rw [e_]; rfl)) _; (with_reducible repeat (fail)); exact BK636.out⟩
              have n2_ : Aside0 (Below w.heap.size w (w24.setCell ⟨go18, (x12_2 : Int).toNat, none⟩ (.int .i64 t646))) := ⟨by repeat ((with_reducible first | (exact HB.out) | (refine below_set ?_ GB18.out)))⟩
              ((clear HO_9))
              ((clear BK636))
              ((clear HB))
              generalize (w24.setCell ⟨go18, (x12_2 : Int).toNat, none⟩ (.int .i64 t646)) = w26 at n0_ n1_ n2_ ⊢
              have HO_9 := n0_
              have BK636 := n1_
              have HB := n2_
              clear n0_ n1_ n2_
              have n0_ := Aside0.mk (Kd.R_drew HO_9.out)
              have n1_ := Aside0.mk (blk_drew BK636.out)
              have n2_ := Aside0.mk (below_drew1 HB.out)
              clear HO_9 BK636 HB
              have HO_9 := n0_
              have BK636 := n1_
              have HB := n2_
              clear n0_ n1_ n2_
              have p648 : 0 ≤ (x10_1 : Int) := of_decide_eq_true (by (with_reducible assumption))
              have q648 : x10_1 < (l1.length : Int) := of_decide_eq_true (by (with_reducible assumption))
              obtain ⟨ad648, e648, hx648_0⟩ := Kd.at_int HR1.out x10_1 p648 q648
              have hw648_0 := hx648_0
              cases e648
              replace hx648_0 := (HB.out.cell (World.block_lt_of_cell? w _ hx648_0)).trans hx648_0
              replace p648 := eq_true p648
              replace q648 := eq_true q648
              refine start_ (n := 8) (S := fun w' => w'.cell? ⟨gb636, 0, none⟩ = some (.int .i64 a0_0) ∧ w'.cell? ⟨gb636, 1, none⟩ = some (.int .i64 a0_1) ∧ w'.cell? ⟨gb636, 2, none⟩ = some (.slice A0_2 l0_2.length c0_2) ∧ w'.cell? (ad648.add (x10_1).toNat) = some (.int .i64 (rd l1 x10_1))) (ds := []) (bm 8 0) (by kernel_rfl) rfl rfl ⟨(blk_cell BK636.out 0).trans rfl, (blk_cell BK636.out 1).trans rfl, (blk_cell BK636.out 2).trans rfl, ((HB.out.cell (World.block_lt_of_cell? w _ hw648_0)).trans hw648_0)⟩ (fun hHeld => ?_); refine with_tabW codewrightref38_Syndrome.tab10 codewrightref38_Syndrome.bits10 (fun HT_ HW_ => ?_)
              generalize w26.drew = w27 at HO_9 BK636 HB HQ25 hx648_0 hHeld ⊢
              refine pu_ 1 43 (bm 8 2) HT_ ?_
              refine pu_ 2 44 (bm 8 6) HT_ ?_
              refine pu_ 3 45 (bm 8 14) HT_ ?_
              refine pu_ 4 46 (bm 8 30) HT_ ?_
              refine take_ (i := 0) (N := some 42) (v := ?_) (a' := ?_) (bm 8 31) rfl rfl (take_ofW HT_.out HW_.out (by kernel_rfl)) (fun _ _ _ h => h) (Or.inl ⟨by rfl, ?_⟩) hHeld ?_ ?_;rotate_left;(rintro w' ⟨s0, s1, s2, s3⟩;go_simp;with_reducible rfl);rotate_left;(simp only [ps_];rfl)
              refine take_ (i := 5) (N := some 47) (v := ?_) (a' := ?_) (bm 8 63) rfl rfl (take_ofW HT_.out HW_.out (by kernel_rfl)) (fun _ _ _ h => h) (Or.inl ⟨by rfl, ?_⟩) hHeld ?_ ?_;rotate_left;(rintro w' ⟨s0, s1, s2, s3⟩;go_simp;with_reducible rfl);rotate_left;(simp only [ps_];rfl)
              refine one_ (i := 6) (N := some 48) (bm 8 127) rfl rfl (one_of HT_.out (by kernel_rfl)) (by decide) (fun K hK => ?_)
              refine goes_ Try.func38 (by kernel_rfl) rfl #[.agg #[.int .i64 a0_0, .int .i64 a0_1, .slice A0_2 l0_2.length c0_2], .int .i64 x11_2, .int .i64 (rd l1 x10_1)] (by rfl) rfl rfl (by ((simp only [List.map_toArray, List.map_cons, List.map_nil])); (rfl)) ?_
              with_reducible refine (codewrightref04_Mul.calls k2 a0_0 a0_1 _ _ l0_2 x11_2 (rd l1 x10_1) t649 _ ?side1 ?side2 A20.out).mono ?_
              (case side1 => repeat ((exact (Kd.C_below HR0_2.out HB.out))))
              (case side2 => exact HC0_2.out)
              rintro e w28 ⟨rfl, hb⟩
              refine ⟨_, rfl, ?_⟩
              have n0_ := Aside0.mk (Kd.R_below HO_9.out hb)
              have n1_ := Aside0.mk (blk_below (g := gb636) (o := .cells #[.int .i64 a0_0, .int .i64 a0_1, .slice A0_2 l0_2.length c0_2] 24 (0, 0)) BK636.out hb)
              have n2_ := Aside0.mk (below_step HB.out hb)
              clear HO_9 BK636 HB
              have HO_9 := n0_
              have BK636 := n1_
              have HB := n2_
              clear n0_ n1_ n2_
              ((clear hb))
              refine hK.out _ _ ⟨(blk_cell BK636.out 0).trans rfl, (blk_cell BK636.out 1).trans rfl, (blk_cell BK636.out 2).trans rfl, ((HB.out.cell (World.block_lt_of_cell? w _ hw648_0)).trans hw648_0)⟩ (fun hHeld => ?_)
              clear hK K
              refine norm_ (a' := ?_) ?_ ?_
              rotate_left
              ·show Act.put _ (some 48) _ = _
               simp only [Act.put, List.setIfInBounds_toArray, List.set_cons_zero, List.set_cons_succ, i64_w, i32_w]
               rfl
              refine pu_ 7 11 (bm 8 255) HT_ ?_
              refine done_ (done_of HT_.out (by kernel_rfl)) ?_
              (go_wp2)
              go_roundg k2
              case measure => have := HK1.out; have := HK2.out; omega
              case rel => exact ⟨(y647), (t649), (wrap64 (x12_2 + 1)), (by rfl), (by rfl), H', ⟨by have := HK1.out; have := HK2.out; omega⟩, ⟨HO_9.out⟩, ⟨BK636.out⟩, ⟨HB.out⟩⟩
             ·rw [if_neg c19] at H
              exact absurd H (by simp)
            ·rw [if_neg c15] at H
             exact absurd H (by simp)
           ·rw [if_neg c14] at H
            exact absurd H (by simp)
          ·rw [if_neg c13] at H
           exact absurd H (by simp)
         ·rw [if_neg c12] at H
          exact absurd H (by simp)
        ·rw [if_neg c11] at H
         have c11b0 : decide (x12_2 < a3) = false := decide_eq_false c11
         clear c11
         have H' := Aside0.mk H
         clear H
         go_wp2
         go_roundg k2
         case measure => have := HK1.out; have := HK2.out; omega
         case rel => exact ⟨(x9_2), (wrap64 (x10_1 + 1)), (by rfl), H', ⟨by have := HK1.out; have := HK2.out; omega⟩, ⟨HO_9.out⟩, ⟨BK636.out⟩, ⟨HB.out⟩⟩
     ·rw [if_neg c10] at H
      have c10b0 : decide (x10_1 < (l1.length : Int)) = false := decide_eq_false c10
      clear c10
      obtain ⟨t640, A290, H⟩ := Option.bind_eq_some_iff.mp H
      replace H : (some t640) = some r := H
      have A29 := Aside0.mk A290
      clear A290
      obtain rfl := Option.some.inj H
      have hcz30_0 : wr.cell? ⟨gb636, 0, none⟩ = some (.int .i64 a0_0) := (blk_cell BK636.out 0).trans rfl
      have hcz30_1 : wr.cell? ⟨gb636, 1, none⟩ = some (.int .i64 a0_1) := (blk_cell BK636.out 1).trans rfl
      have hcz30_2 : wr.cell? ⟨gb636, 2, none⟩ = some (.slice A0_2 l0_2.length c0_2) := (blk_cell BK636.out 2).trans rfl
      have hfz30_0 := blk_frozen BK636.out 0
      have hfz30_1 := blk_frozen BK636.out 1
      have hfz30_2 := blk_frozen BK636.out 2
      obtain ⟨Ao31, co31, eo31⟩ := Kd.R_slice HO_9.out
      subst eo31
      go_wp2_with (((with_reducible refine gate_callee (f := 23) rfl ?_); refine goesL_ (some 51) rfl rfl Try.func23 (by kernel_rfl) rfl #[.agg #[.int .i64 a0_0, .int .i64 a0_1, .slice A0_2 l0_2.length c0_2], .slice Ao31 x9_1.length co31] rfl (by ((simp only [List.map_toArray, List.map_cons, List.map_nil])); (rfl)) ?_; (with_reducible refine (codewrightref05_Canon.calls k1 a0_0 a0_1 _ _ l0_2 _ _ x9_1 t640 _ ?side1 ?side2 ?side3 ?side4 A29.out).mono ?_); (case side1 => repeat ((exact (Kd.C_below HR0_2.out HB.out)))); (case side2 => exact HC0_2.out); (case side3 => repeat ((exact (Kd.R_reads' HO_9.out).2.2))); (case side4 => exact (Kd.R_reads' HO_9.out).2.1); rintro e w32 ⟨v641, rfl, ho0, hb⟩; refine ⟨_, rfl, ?_⟩; have n0_ := Aside0.mk (Kd.R_elder' HO_9.out (Kd.R_base ho0) hb); have n1_ := Aside0.mk (Kd.R_lower (Kd.R_new' ho0 (Kd.R_lt HO_9.out)) (below_size HB.out)); have n2_ := Aside0.mk (blk_below (g := gb636) (o := .cells #[.int .i64 a0_0, .int .i64 a0_1, .slice A0_2 l0_2.length c0_2] 24 (0, 0)) BK636.out hb); have n3_ := Aside0.mk (below_step HB.out hb); clear HO_9; clear BK636; clear HB; have HO_9 := n0_; have HO642 := n1_; have BK636 := n2_; have HB := n3_; clear n0_ n1_ n2_ n3_; ((clear hb)); (skip); (skip); (skip); ((clear ho0))))
      go_ret
      exact ⟨_, by rfl, by exact Kd.R_mono HO642.out (fun _ hk => trivial), by exact HB.out⟩
  ·rw [if_neg c6] at H
   exact absurd H (by simp)
 ·rw [if_neg c5] at H
  exact absurd H (by simp)
end Go.Proofs.Ytkdakjlopheefaa.PA
end
section
namespace Go.Proofs.Ytkdakjlopheefaa.PA
open Go.RowKit Go.Proofs.YtkdakjlopheefaaW.PrintWords Go.Proofs.YtkdakjlopheefaaW.PrintLast Go.Proofs.YtkdakjlopheefaaW.PrintMore
attribute [local go_sem] max2_int min2_int max_two min_two max_three min_three max_four min_four
set_option linter.unusedVariables false
set_option linter.unusedSimpArgs false
mutual
def codewrightref05_Mul.l0 : Nat → List Int → List Int → List Int → Int → Int → Int → List Int → Option (List Int)
 | 0, _, _, _, _, _, _, _ => none
 | k + 1, x1, x2, x7, x8, x651000, x651001, x651002 => if x8 < (x1.length : Int) then (codewrightref05_Mul.l1 k x1 x2 x7 x8 0 x651000 x651001 x651002) else ((codewrightref05_Canon.f k x651000 x651001 x651002 x7).bind fun t660 => (some t660))
def codewrightref05_Mul.l1 : Nat → List Int → List Int → List Int → Int → Int → Int → Int → List Int → Option (List Int)
 | 0, _, _, _, _, _, _, _, _ => none
 | k + 1, x1, x2, x7, x8, x9, x651000, x651001, x651002 => if x9 < (x2.length : Int) then (if 0 ≤ (wrap64 (x8 + x9)) then (if (wrap64 (x8 + x9)) < (x7.length : Int) then (if 0 ≤ x8 then (if x8 < (x1.length : Int) then (if 0 ≤ x9 then ((codewrightref04_Mul.f k x651000 x651001 x651002 (rd x1 x8) (rd x2 x9)).bind fun t666 => ((codewrightref04_Add.f k x651000 x651001 x651002 (rd x7 (wrap64 (x8 + x9))) t666).bind fun t667 => (codewrightref05_Mul.l1 k x1 x2 (x7.set ((wrap64 (x8 + x9)) : Int).toNat t667) x8 (wrap64 (x9 + 1)) x651000 x651001 x651002))) else (none)) else (none)) else (none)) else (none)) else (none)) else (codewrightref05_Mul.l0 k x1 x2 x7 (wrap64 (x8 + 1)) x651000 x651001 x651002)
end
def codewrightref05_Mul.f (k : Nat) (a0_0 : Int) (a0_1 : Int) (l0_2 : List Int) (l1 : List Int) (l2 : List Int) : Option (List Int) := (codewrightref05_Canon.f k a0_0 a0_1 l0_2 l1).bind fun t651 => ((codewrightref05_Canon.f k a0_0 a0_1 l0_2 l2).bind fun t654 => (if 0 ≤ (wrap64 ((t651.length : Int) + (t654.length : Int))) then (if (wrap64 ((t651.length : Int) + (t654.length : Int)) : Int).toNat ≤ 35184372088832 then (codewrightref05_Mul.l0 k t651 t654 (List.replicate (wrap64 ((t651.length : Int) + (t654.length : Int)) : Int).toNat 0) 0 a0_0 a0_1 l0_2) else (none)) else (none)))
def codewrightref05_Mul.T10 : Bool × List (List Nat × List Nat) := (true, [([], []), ([], []), ([], []), ([1, 2], [1, 2]), ([], []), ([], []), ([], []), ([], []), ([6, 7], [6, 7]), ([5, 8], [5, 8]), ([9], [9]), ([], []), ([], []), ([], []), ([12, 13], [12, 13]), ([14], [14]), ([], []), ([], []), ([16, 17], [16, 17]), ([18], [18]), ([11, 15, 19], [11, 15, 19]), ([4, 10, 20, 20], [4, 10, 20]), ([0, 3, 0, 1, 2, 3, 4, 5, 6, 7, 8, 9, 10, 11, 12, 13, 14, 15, 16, 17, 18, 19, 20, 21], [0, 3]), ([22, 21, 21, 0, 1, 2, 3, 4, 5, 6, 7, 8, 9, 10, 11, 12, 13, 14, 15, 16, 17, 18, 19, 20, 21], [21, 22])])
def codewrightref05_Mul.B10 : List Nat := [0, 0, 0, 6, 0, 0, 0, 0, 192, 480, 992, 0, 0, 0, 12288, 28672, 0, 0, 196608, 458752, 1046528, 2097136, 4194303, 8388607]
theorem codewrightref05_Mul.tab10 : rtab .any (opsOf Try.f28 10) = codewrightref05_Mul.T10 := by kernel_rfl
theorem codewrightref05_Mul.bits10 : waitsOk codewrightref05_Mul.T10.2 codewrightref05_Mul.B10 = true := by kernel_rfl
set_option maxHeartbeats 8000000 in
set_option maxRecDepth 100000 in
theorem codewrightref05_Mul.calls (k : Nat) (a0_0 : Int) (a0_1 : Int) (A0_2 : Option Addr) (c0_2 : Nat) (l0_2 : List Int) (A1 : Option Addr) (c1 : Nat) (l1 : List Int) (A2 : Option Addr) (c2 : Nat) (l2 : List Int) (r : List Int) (w : World) (hr0_2 : Kd.C (Kd.int .i64) w A0_2 l0_2.length l0_2) (hc0_2 : l0_2.length ≤ c0_2) (hr1 : Kd.C (Kd.int .i64) w A1 l1.length l1) (hc1 : l1.length ≤ c1) (hr2 : Kd.C (Kd.int .i64) w A2 l2.length l2) (hc2 : l2.length ≤ c2) (h : codewrightref05_Mul.f k a0_0 a0_1 l0_2 l1 l2 = some r) :
  Calls Try.prog 28 #[.agg #[.int .i64 a0_0, .int .i64 a0_1, .slice A0_2 l0_2.length c0_2], .slice A1 l1.length c1, .slice A2 l2.length c2] w fun e w' => ∃ v0_ : Value, e = .returned (v0_) ∧ Kd.R (Kd.int .i64) 3 w' w.heap.size (fun _ => True) v0_ r ∧ Below w.heap.size w w' := by
 have hu24 := Try.underlying24
 have HR0_2 := Aside0.mk hr0_2
 have HC0_2 := Aside0.mk hc0_2
 clear hr0_2 hc0_2
 have HR1 := Aside0.mk hr1
 have HC1 := Aside0.mk hc1
 clear hr1 hc1
 have HR2 := Aside0.mk hr2
 have HC2 := Aside0.mk hc2
 clear hr2 hc2
 have HB := Aside0.mk (Below.refl w.heap.size w)
 have H : ((codewrightref05_Canon.f k a0_0 a0_1 l0_2 l1).bind fun t651 => ((codewrightref05_Canon.f k a0_0 a0_1 l0_2 l2).bind fun t654 => (if 0 ≤ (wrap64 ((t651.length : Int) + (t654.length : Int))) then (if (wrap64 ((t651.length : Int) + (t654.length : Int)) : Int).toNat ≤ 35184372088832 then (codewrightref05_Mul.l0 k t651 t654 (List.replicate (wrap64 ((t651.length : Int) + (t654.length : Int)) : Int).toNat 0) 0 a0_0 a0_1 l0_2) else (none)) else (none)))) = some r := h
 clear h
 obtain ⟨t651, A40, H⟩ := Option.bind_eq_some_iff.mp H
 replace H : ((codewrightref05_Canon.f k a0_0 a0_1 l0_2 l2).bind fun t654 => (if 0 ≤ (wrap64 ((t651.length : Int) + (t654.length : Int))) then (if (wrap64 ((t651.length : Int) + (t654.length : Int)) : Int).toNat ≤ 35184372088832 then (codewrightref05_Mul.l0 k t651 t654 (List.replicate (wrap64 ((t651.length : Int) + (t654.length : Int)) : Int).toNat 0) 0 a0_0 a0_1 l0_2) else (none)) else (none))) = some r := H
 have A4 := Aside0.mk A40
 clear A40
 obtain ⟨t654, A50, H⟩ := Option.bind_eq_some_iff.mp H
 replace H : (if 0 ≤ (wrap64 ((t651.length : Int) + (t654.length : Int))) then (if (wrap64 ((t651.length : Int) + (t654.length : Int)) : Int).toNat ≤ 35184372088832 then (codewrightref05_Mul.l0 k t651 t654 (List.replicate (wrap64 ((t651.length : Int) + (t654.length : Int)) : Int).toNat 0) 0 a0_0 a0_1 l0_2) else (none)) else (none)) = some r := H
 have A5 := Aside0.mk A50
 clear A50
 obtain ⟨ji6, hji6⟩ : ∃ j_ : Int, (wrap64 ((t651.length : Int) + (t654.length : Int))) = j_ := ⟨_, rfl⟩
 replace H : (if 0 ≤ (ji6) then (if (ji6 : Int).toNat ≤ 35184372088832 then (codewrightref05_Mul.l0 k t651 t654 (List.replicate (ji6 : Int).toNat 0) 0 a0_0 a0_1 l0_2) else (none)) else (none)) = some r := by (rw [hji6] at H; exact H)
 have hji6w : (IntKind.i64.wrap ((t651.length : Int) + (t654.length : Int))) = ji6 := (i64_w _).trans hji6
 by_cases c7 : 0 ≤ (ji6)
 ·rw [if_pos c7] at H
  have c7b0 := eq_true c7
  have c7b1 : decide (0 ≤ (ji6)) = true := decide_eq_true c7
  clear c7
  by_cases c8 : (ji6 : Int).toNat ≤ 35184372088832
  ·rw [if_pos c8] at H
   have c8b0 := eq_true c8
   have c8b1 : decide ((ji6 : Int).toNat ≤ 35184372088832) = true := decide_eq_true c8
   clear c8
   obtain ⟨y657, hy657⟩ : ∃ y_ : List Int, y_ = (List.replicate (ji6 : Int).toNat 0) := ⟨_, rfl⟩
   replace H : (codewrightref05_Mul.l0 k t651 t654 y657 0 a0_0 a0_1 l0_2) = some r := by (rw [hy657]; with_reducible exact H)
   have Ny657 := Aside0.mk hy657
   clear hy657
   have H' := Aside0.mk H
   clear H
   go_enter Try.func28, Try.ntmps28
   go_wp2_with (first | ((with_reducible refine gate_dst (N := 3) rfl ?_); refine box_event ?hg (N := 3) ?hd (cs := #[.int .i64 a0_0, .int .i64 a0_1, .slice A0_2 l0_2.length c0_2]) (t := 24) ?hr ?_; (case hd => rfl); (case hg => rfl); (case hr => (go_simp; done)); intro gb650 hg w9 hbox hb; have n0_ := Aside0.mk (below_step HB.out hb); have n1_ := Aside0.mk (hbox); have n2_ := Aside0.mk ((by rw [hg]; exact (below_size HB.out) : w.heap.size ≤ gb650)); have n3_ := Aside0.mk ((by rw [hg]; exact (below_size HB.out) : w.heap.size ≤ gb650)); clear HB; have HB := n0_; have BK650 := n1_; have GW650 := n2_; have GE650 := n3_; clear n0_ n1_ n2_ n3_; clear hb hbox hg; have hcz10_0 : w9.cell? ⟨gb650, 0, none⟩ = some (.int .i64 a0_0) := (blk_cell BK650.out 0).trans rfl; have hcz10_1 : w9.cell? ⟨gb650, 1, none⟩ = some (.int .i64 a0_1) := (blk_cell BK650.out 1).trans rfl; have hcz10_2 : w9.cell? ⟨gb650, 2, none⟩ = some (.slice A0_2 l0_2.length c0_2) := (blk_cell BK650.out 2).trans rfl; have hfz10_0 := blk_frozen BK650.out 0; have hfz10_1 := blk_frozen BK650.out 1; have hfz10_2 := blk_frozen BK650.out 2) | ((with_reducible refine gate_callee (f := 23) rfl ?_); refine goesL_ (some 12) rfl rfl Try.func23 (by kernel_rfl) rfl #[.agg #[.int .i64 a0_0, .int .i64 a0_1, .slice A0_2 l0_2.length c0_2], .slice A1 l1.length c1] rfl (by ((simp only [List.map_toArray, List.map_cons, List.map_nil])); (rfl)) ?_; (with_reducible refine (codewrightref05_Canon.calls k a0_0 a0_1 _ _ l0_2 _ _ l1 t651 _ ?side1 ?side2 ?side3 ?side4 A4.out).mono ?_); (case side1 => repeat ((exact (Kd.C_below HR0_2.out HB.out)))); (case side2 => exact HC0_2.out); (case side3 => repeat ((exact (Kd.C_below HR1.out HB.out)))); (case side4 => exact HC1.out); rintro e w11 ⟨v652, rfl, ho0, hb⟩; refine ⟨_, rfl, ?_⟩; have n0_ := Aside0.mk (Kd.R_lower ho0 (below_size HB.out)); have n1_ := Aside0.mk (blk_below (g := gb650) (o := .cells #[.int .i64 a0_0, .int .i64 a0_1, .slice A0_2 l0_2.length c0_2] 24 (0, 0)) BK650.out hb); have n2_ := Aside0.mk (below_step HB.out hb); clear BK650; clear HB; have HO653 := n0_; have BK650 := n1_; have HB := n2_; clear n0_ n1_ n2_; ((clear hb)); (skip); (skip); (skip); ((clear ho0)); have hcz12_0 : w11.cell? ⟨gb650, 0, none⟩ = some (.int .i64 a0_0) := (blk_cell BK650.out 0).trans rfl; have hcz12_1 : w11.cell? ⟨gb650, 1, none⟩ = some (.int .i64 a0_1) := (blk_cell BK650.out 1).trans rfl; have hcz12_2 : w11.cell? ⟨gb650, 2, none⟩ = some (.slice A0_2 l0_2.length c0_2) := (blk_cell BK650.out 2).trans rfl; have hfz12_0 := blk_frozen BK650.out 0; have hfz12_1 := blk_frozen BK650.out 1; have hfz12_2 := blk_frozen BK650.out 2) | ((with_reducible refine gate_callee (f := 23) rfl ?_); refine goesL_ (some 15) rfl rfl Try.func23 (by kernel_rfl) rfl #[.agg #[.int .i64 a0_0, .int .i64 a0_1, .slice A0_2 l0_2.length c0_2], .slice A2 l2.length c2] rfl (by ((simp only [List.map_toArray, List.map_cons, List.map_nil])); (rfl)) ?_; (with_reducible refine (codewrightref05_Canon.calls k a0_0 a0_1 _ _ l0_2 _ _ l2 t654 _ ?side1 ?side2 ?side3 ?side4 A5.out).mono ?_); (case side1 => repeat ((exact (Kd.C_below HR0_2.out HB.out)))); (case side2 => exact HC0_2.out); (case side3 => repeat ((exact (Kd.C_below HR2.out HB.out)))); (case side4 => exact HC2.out); rintro e w13 ⟨v655, rfl, ho0, hb⟩; refine ⟨_, rfl, ?_⟩; have n0_ := Aside0.mk (Kd.R_elder' HO653.out (Kd.R_base ho0) hb); have n1_ := Aside0.mk (Kd.R_lower (Kd.R_new' ho0 (Kd.R_lt HO653.out)) (below_size HB.out)); have n2_ := Aside0.mk (blk_below (g := gb650) (o := .cells #[.int .i64 a0_0, .int .i64 a0_1, .slice A0_2 l0_2.length c0_2] 24 (0, 0)) BK650.out hb); have n3_ := Aside0.mk (below_step HB.out hb); clear HO653; clear BK650; clear HB; have HO653 := n0_; have HO656 := n1_; have BK650 := n2_; have HB := n3_; clear n0_ n1_ n2_ n3_; ((clear hb)); (skip); (skip); (skip); ((clear ho0)); obtain ⟨Ao14, co14, eo14⟩ := Kd.R_slice HO653.out; subst eo14; obtain ⟨Ao15, co15, eo15⟩ := Kd.R_slice HO656.out; subst eo15) | ((with_reducible refine gate_dst (N := 21) rfl ?_); refine Kd.R_make (Kd.int .i64) _ 3 rfl (N := 21) rfl 22 _ _ rfl ji6 rfl rfl Try.underlying22 (.int .i64 0) 8 info3 rfl (by decide) (by omega) 0 (ok := fun _ => True) (okp := fun _ => True) rfl (fun _ hk => hk) trivial (of_decide_eq_true (by (with_reducible assumption))) (Nat.le_trans (Nat.mul_le_mul_right _ (of_decide_eq_true (by (with_reducible assumption)) : ji6.toNat ≤ 35184372088832)) (by omega)) (Below.refl _ _) (Nat.le_refl _) ?_; intro v658 w16 ho17 hb hg_ hnew_; clear hg_ hnew_; ((rw [← Ny657.out] at ho17)); have n0_ := Aside0.mk (Kd.R_elder' HO653.out (Kd.R_base ho17) hb); have n1_ := Aside0.mk (Kd.R_elder' HO656.out (Kd.R_base ho17) hb); have n2_ := Aside0.mk (Kd.R_lower (Kd.R_new' (Kd.R_new' ho17 (Kd.R_lt HO653.out)) (Kd.R_lt HO656.out)) (below_size HB.out)); have n3_ := Aside0.mk (blk_below (g := gb650) (o := .cells #[.int .i64 a0_0, .int .i64 a0_1, .slice A0_2 l0_2.length c0_2] 24 (0, 0)) BK650.out hb); have n4_ := Aside0.mk (below_step HB.out hb); clear HO653; clear HO656; clear BK650; clear HB; have HO653 := n0_; have HO656 := n1_; have HO659 := n2_; have BK650 := n3_; have HB := n4_; clear n0_ n1_ n2_ n3_ n4_; clear hb ho17))
   go_loopg [8] k (fun kq v8 w' => ∃ (x7_1 : List Int) (x8_1 : Int), v8 = .int .i64 x8_1 ∧ Aside0 (codewrightref05_Mul.l0 kq t651 t654 x7_1 x8_1 a0_0 a0_1 l0_2 = some r) ∧ Aside0 (kq ≤ k) ∧ Aside0 (Kd.R (Kd.int .i64) 3 w' w.heap.size (fun k_ => some k_ ≠ ((.slice Ao15 t654.length co15) : Value).ownBlock ∧ some k_ ≠ (v658 : Value).ownBlock) (.slice Ao14 t651.length co14) t651) ∧ Aside0 (Kd.R (Kd.int .i64) 3 w' w.heap.size (fun k_ => some k_ ≠ ((.slice Ao14 t651.length co14) : Value).ownBlock ∧ some k_ ≠ (v658 : Value).ownBlock) (.slice Ao15 t654.length co15) t654) ∧ Aside0 (Kd.R (Kd.int .i64) 3 w' w.heap.size (fun k_ => some k_ ≠ ((.slice Ao14 t651.length co14) : Value).ownBlock ∧ some k_ ≠ ((.slice Ao15 t654.length co15) : Value).ownBlock) v658 x7_1) ∧ Aside0 (w'.heap[gb650]? = some (.cells #[.int .i64 a0_0, .int .i64 a0_1, (.slice A0_2 l0_2.length c0_2)] 24 (0, 0))) ∧ Aside0 (Below w.heap.size w w'))
   case atStart => exact ⟨(y657), (0), (by rfl), H', ⟨Nat.le_refl _⟩, ⟨by exact Kd.R_mono HO653.out (fun _ hk => ⟨hk.1.2, hk.2⟩)⟩, ⟨by exact Kd.R_mono HO656.out (fun _ hk => ⟨hk.1.2, hk.2⟩)⟩, ⟨by exact Kd.R_mono HO659.out (fun _ hk => ⟨hk.1.2, hk.2⟩)⟩, ⟨BK650.out⟩, ⟨HB.out⟩⟩
   case round =>
    clear H' c7b0 c7b1 c8b0 c8b1 hcz10_0 hcz10_1 hcz10_2 hcz12_0 hcz12_1 hcz12_2 hfz10_0 hfz10_1 hfz10_2 hfz12_0 hfz12_1 hfz12_2
    obtain ⟨x7_1, x8_1, rfl, HA, HK1, HO_1, HO_2, HO_7, BK650, HB⟩ := hrel
    cases gk with
    | zero => exact absurd HA.out (by simp [codewrightref05_Mul.l0])
    | succ k1 =>
     have H := HA.out
     clear HA
     simp only [codewrightref05_Mul.l0] at H
     by_cases c18 : x8_1 < (t651.length : Int)
     ·rw [if_pos c18] at H
      have c18b0 : decide (x8_1 < (t651.length : Int)) = true := decide_eq_true c18
      clear c18
      have H' := Aside0.mk H
      clear H
      go_wp2
      go_loopg [9] k1 (fun kq v9 w' => ∃ (x7_2 : List Int) (x9_2 : Int), v9 = .int .i64 x9_2 ∧ Aside0 (codewrightref05_Mul.l1 kq t651 t654 x7_2 x8_1 x9_2 a0_0 a0_1 l0_2 = some r) ∧ Aside0 (kq ≤ k1) ∧ Aside0 (Kd.R (Kd.int .i64) 3 w' w.heap.size (fun k_ => some k_ ≠ ((.slice Ao15 t654.length co15) : Value).ownBlock ∧ some k_ ≠ (v658 : Value).ownBlock) (.slice Ao14 t651.length co14) t651) ∧ Aside0 (Kd.R (Kd.int .i64) 3 w' w.heap.size (fun k_ => some k_ ≠ ((.slice Ao14 t651.length co14) : Value).ownBlock ∧ some k_ ≠ (v658 : Value).ownBlock) (.slice Ao15 t654.length co15) t654) ∧ Aside0 (Kd.R (Kd.int .i64) 3 w' w.heap.size (fun k_ => some k_ ≠ ((.slice Ao14 t651.length co14) : Value).ownBlock ∧ some k_ ≠ ((.slice Ao15 t654.length co15) : Value).ownBlock) v658 x7_2) ∧ Aside0 (w'.heap[gb650]? = some (.cells #[.int .i64 a0_0, .int .i64 a0_1, (.slice A0_2 l0_2.length c0_2)] 24 (0, 0))) ∧ Aside0 (Below w.heap.size w w'))
      case atStart => exact ⟨(x7_1), (0), (by rfl), H', ⟨Nat.le_refl _⟩, ⟨HO_1.out⟩, ⟨HO_2.out⟩, ⟨HO_7.out⟩, ⟨BK650.out⟩, ⟨HB.out⟩⟩
      case round =>
       clear H' c18b0
       obtain ⟨x7_2, x9_2, rfl, HA, HK2, HO_1, HO_2, HO_7, BK650, HB⟩ := hrel
       cases gk with
       | zero => exact absurd HA.out (by simp [codewrightref05_Mul.l1])
       | succ k2 =>
        have H := HA.out
        clear HA
        simp only [codewrightref05_Mul.l1] at H
        by_cases c19 : x9_2 < (t654.length : Int)
        ·rw [if_pos c19] at H
         have c19b0 : decide (x9_2 < (t654.length : Int)) = true := decide_eq_true c19
         clear c19
         obtain ⟨ji20, hji20⟩ : ∃ j_ : Int, (wrap64 (x8_1 + x9_2)) = j_ := ⟨_, rfl⟩
         replace H : (if 0 ≤ (ji20) then (if (ji20) < (x7_2.length : Int) then (if 0 ≤ x8_1 then (if x8_1 < (t651.length : Int) then (if 0 ≤ x9_2 then ((codewrightref04_Mul.f k2 a0_0 a0_1 l0_2 (rd t651 x8_1) (rd t654 x9_2)).bind fun t666 => ((codewrightref04_Add.f k2 a0_0 a0_1 l0_2 (rd x7_2 (ji20)) t666).bind fun t667 => (codewrightref05_Mul.l1 k2 t651 t654 (x7_2.set ((ji20) : Int).toNat t667) x8_1 (wrap64 (x9_2 + 1)) a0_0 a0_1 l0_2))) else (none)) else (none)) else (none)) else (none)) else (none)) = some r := by (rw [hji20] at H; exact H)
         have hji20w : (IntKind.i64.wrap (x8_1 + x9_2)) = ji20 := (i64_w _).trans hji20
         by_cases c21 : 0 ≤ (ji20)
         ·rw [if_pos c21] at H
          have c21b0 : decide (0 ≤ (ji20)) = true := decide_eq_true c21
          clear c21
          by_cases c22 : (ji20) < (x7_2.length : Int)
          ·rw [if_pos c22] at H
           have c22b0 : decide ((ji20) < (x7_2.length : Int)) = true := decide_eq_true c22
           clear c22
           by_cases c23 : 0 ≤ x8_1
           ·rw [if_pos c23] at H
            have c23b0 : decide (0 ≤ x8_1) = true := decide_eq_true c23
            clear c23
            by_cases c24 : x8_1 < (t651.length : Int)
            ·rw [if_pos c24] at H
             have c24b0 : decide (x8_1 < (t651.length : Int)) = true := decide_eq_true c24
             clear c24
             by_cases c25 : 0 ≤ x9_2
             ·rw [if_pos c25] at H
              have c25b0 : decide (0 ≤ x9_2) = true := decide_eq_true c25
              clear c25
              obtain ⟨t666, A260, H⟩ := Option.bind_eq_some_iff.mp H
              replace H : ((codewrightref04_Add.f k2 a0_0 a0_1 l0_2 (rd x7_2 (ji20)) t666).bind fun t667 => (codewrightref05_Mul.l1 k2 t651 t654 (x7_2.set ((ji20) : Int).toNat t667) x8_1 (wrap64 (x9_2 + 1)) a0_0 a0_1 l0_2)) = some r := H
              have A26 := Aside0.mk A260
              clear A260
              obtain ⟨t667, A270, H⟩ := Option.bind_eq_some_iff.mp H
              replace H : (codewrightref05_Mul.l1 k2 t651 t654 (x7_2.set ((ji20) : Int).toNat t667) x8_1 (wrap64 (x9_2 + 1)) a0_0 a0_1 l0_2) = some r := H
              have A27 := Aside0.mk A270
              clear A270
              obtain ⟨y668, hy668⟩ : ∃ y_ : List Int, y_ = (x7_2.set ((ji20) : Int).toNat t667) := ⟨_, rfl⟩
              replace H : (codewrightref05_Mul.l1 k2 t651 t654 y668 x8_1 (wrap64 (x9_2 + 1)) a0_0 a0_1 l0_2) = some r := by (rw [hy668]; with_reducible exact H)
              have Ny668 := Aside0.mk hy668
              clear hy668
              have H' := Aside0.mk H
              clear H
              (go_wp2)
              have n0_ := Aside0.mk (Kd.R_drew HO_1.out)
              have n1_ := Aside0.mk (Kd.R_drew HO_2.out)
              have n2_ := Aside0.mk (Kd.R_drew HO_7.out)
              have n3_ := Aside0.mk (blk_drew BK650.out)
              have n4_ := Aside0.mk (below_drew1 HB.out)
              clear HO_1 HO_2 HO_7 BK650 HB
              have HO_1 := n0_
              have HO_2 := n1_
              have HO_7 := n2_
              have BK650 := n3_
              have HB := n4_
              clear n0_ n1_ n2_ n3_ n4_
              obtain ⟨Ao30, co30, eo30⟩ := Kd.R_slice HO_7.out
              ((subst eo30))
              have p663 : 0 ≤ ((ji20) : Int) := of_decide_eq_true (by (with_reducible assumption))
              have q663 : (ji20) < (x7_2.length : Int) := of_decide_eq_true (by (with_reducible assumption))
              obtain ⟨ad663, e663, hx663_0⟩ := Kd.at_int (Kd.R_reads' HO_7.out).2.2 (ji20) p663 q663
              cases e663
              replace p663 := eq_true p663
              replace q663 := eq_true q663
              have p664 : 0 ≤ (x8_1 : Int) := of_decide_eq_true (by (with_reducible assumption))
              have q664 : x8_1 < (t651.length : Int) := of_decide_eq_true (by (with_reducible assumption))
              obtain ⟨ad664, e664, hx664_0⟩ := Kd.at_int (Kd.R_reads' HO_1.out).2.2 x8_1 p664 q664
              cases e664
              replace p664 := eq_true p664
              replace q664 := eq_true q664
              have p665 : 0 ≤ (x9_2 : Int) := of_decide_eq_true (by (with_reducible assumption))
              have q665 : x9_2 < (t654.length : Int) := of_decide_eq_true (by (with_reducible assumption))
              obtain ⟨ad665, e665, hx665_0⟩ := Kd.at_int (Kd.R_reads' HO_2.out).2.2 x9_2 p665 q665
              cases e665
              replace p665 := eq_true p665
              replace q665 := eq_true q665
              refine start_ (n := 24) (S := fun w' => w'.cell? ⟨gb650, 0, none⟩ = some (.int .i64 a0_0) ∧ w'.cell? ⟨gb650, 1, none⟩ = some (.int .i64 a0_1) ∧ w'.cell? ⟨gb650, 2, none⟩ = some (.slice A0_2 l0_2.length c0_2) ∧ w'.cell? (ad663.add ((ji20)).toNat) = some (.int .i64 (rd x7_2 (ji20))) ∧ w'.cell? (ad664.add (x8_1).toNat) = some (.int .i64 (rd t651 x8_1)) ∧ w'.cell? (ad665.add (x9_2).toNat) = some (.int .i64 (rd t654 x9_2))) (ds := [23]) (bm 24 0) (by kernel_rfl) rfl rfl ⟨(blk_cell BK650.out 0).trans rfl, (blk_cell BK650.out 1).trans rfl, (blk_cell BK650.out 2).trans rfl, hx663_0, hx664_0, hx665_0⟩ (fun hHeld => ?_); refine with_tabW codewrightref05_Mul.tab10 codewrightref05_Mul.bits10 (fun HT_ HW_ => ?_)
              generalize wr.drew = w29 at HO_1 HO_2 HO_7 BK650 HB hx663_0 hx664_0 hx665_0 hHeld ⊢
              refine pu_ 0 34 (bm 24 1) HT_ ?_
              refine pu_ 1 35 (bm 24 3) HT_ ?_
              refine pu_ 2 36 (bm 24 7) HT_ ?_
              refine pu_ 3 37 (bm 24 15) HT_ ?_
              refine pu_ 5 39 (bm 24 47) HT_ ?_
              refine pu_ 6 40 (bm 24 111) HT_ ?_
              refine pu_ 7 41 (bm 24 239) HT_ ?_
              refine pu_ 8 42 (bm 24 495) HT_ ?_
              refine pu_ 9 43 (bm 24 1007) HT_ ?_
              refine pu_ 12 46 (bm 24 5103) HT_ ?_
              refine pu_ 13 47 (bm 24 13295) HT_ ?_
              refine pu_ 14 48 (bm 24 29679) HT_ ?_
              refine pu_ 16 50 (bm 24 95215) HT_ ?_
              refine pu_ 17 51 (bm 24 226287) HT_ ?_
              refine pu_ 18 52 (bm 24 488431) HT_ ?_
              refine take_ (i := 4) (N := some 38) (v := ?_) (a' := ?_) (bm 24 488447) rfl rfl (take_ofW HT_.out HW_.out (by kernel_rfl)) (fun _ _ _ h => h) (Or.inl ⟨by rfl, ?_⟩) hHeld ?_ ?_;rotate_left;(rintro w' ⟨s0, s1, s2, s3, s4, s5⟩;go_simp;with_reducible rfl);rotate_left;(simp only [ps_];rfl)
              refine take_ (i := 10) (N := some 44) (v := ?_) (a' := ?_) (bm 24 489471) rfl rfl (take_ofW HT_.out HW_.out (by kernel_rfl)) (fun _ _ _ h => h) (Or.inl ⟨by rfl, ?_⟩) hHeld ?_ ?_;rotate_left;(rintro w' ⟨s0, s1, s2, s3, s4, s5⟩;go_simp;with_reducible rfl);rotate_left;(simp only [ps_];rfl)
              refine take_ (i := 11) (N := some 45) (v := ?_) (a' := ?_) (bm 24 491519) rfl rfl (take_ofW HT_.out HW_.out (by kernel_rfl)) (fun _ _ _ h => h) (Or.inl ⟨by rfl, ?_⟩) hHeld ?_ ?_;rotate_left;(rintro w' ⟨s0, s1, s2, s3, s4, s5⟩;go_simp;with_reducible rfl);rotate_left;(simp only [ps_];rfl)
              refine take_ (i := 15) (N := some 49) (v := ?_) (a' := ?_) (bm 24 524287) rfl rfl (take_ofW HT_.out HW_.out (by kernel_rfl)) (fun _ _ _ h => h) (Or.inl ⟨by rfl, ?_⟩) hHeld ?_ ?_;rotate_left;(rintro w' ⟨s0, s1, s2, s3, s4, s5⟩;go_simp;with_reducible rfl);rotate_left;(simp only [ps_];rfl)
              refine take_ (i := 19) (N := some 53) (v := ?_) (a' := ?_) (bm 24 1048575) rfl rfl (take_ofW HT_.out HW_.out (by kernel_rfl)) (fun _ _ _ h => h) (Or.inl ⟨by rfl, ?_⟩) hHeld ?_ ?_;rotate_left;(rintro w' ⟨s0, s1, s2, s3, s4, s5⟩;go_simp;with_reducible rfl);rotate_left;(simp only [ps_];rfl)
              refine one_ (i := 20) (N := some 54) (bm 24 2097151) rfl rfl (one_of HT_.out (by kernel_rfl)) (by decide) (fun K hK => ?_)
              refine goes_ Try.func38 (by kernel_rfl) rfl #[.agg #[.int .i64 a0_0, .int .i64 a0_1, .slice A0_2 l0_2.length c0_2], .int .i64 (rd t651 x8_1), .int .i64 (rd t654 x9_2)] (by rfl) rfl rfl (by ((simp only [List.map_toArray, List.map_cons, List.map_nil])); (rfl)) ?_
              with_reducible refine (codewrightref04_Mul.calls k2 a0_0 a0_1 _ _ l0_2 (rd t651 x8_1) (rd t654 x9_2) t666 _ ?side1 ?side2 A26.out).mono ?_
              (case side1 => repeat ((exact (Kd.C_below HR0_2.out HB.out))))
              (case side2 => exact HC0_2.out)
              rintro e w31 ⟨rfl, hb⟩
              have HS3_ := (hb.cell (World.block_lt_of_cell? _ _ (hHeld.2.2.2.1))).trans (hHeld.2.2.2.1)
              have HS4_ := (hb.cell (World.block_lt_of_cell? _ _ (hHeld.2.2.2.2.1))).trans (hHeld.2.2.2.2.1)
              have HS5_ := (hb.cell (World.block_lt_of_cell? _ _ (hHeld.2.2.2.2.2))).trans (hHeld.2.2.2.2.2)
              refine ⟨_, rfl, ?_⟩
              have n0_ := Aside0.mk (Kd.R_below HO_1.out hb)
              have n1_ := Aside0.mk (Kd.R_below HO_2.out hb)
              have n2_ := Aside0.mk (Kd.R_below HO_7.out hb)
              have n3_ := Aside0.mk (blk_below (g := gb650) (o := .cells #[.int .i64 a0_0, .int .i64 a0_1, .slice A0_2 l0_2.length c0_2] 24 (0, 0)) BK650.out hb)
              have n4_ := Aside0.mk (below_step HB.out hb)
              clear HO_1 HO_2 HO_7 BK650 HB
              have HO_1 := n0_
              have HO_2 := n1_
              have HO_7 := n2_
              have BK650 := n3_
              have HB := n4_
              clear n0_ n1_ n2_ n3_ n4_
              ((clear hb))
              refine hK.out _ _ ⟨(blk_cell BK650.out 0).trans rfl, (blk_cell BK650.out 1).trans rfl, (blk_cell BK650.out 2).trans rfl, HS3_, HS4_, HS5_⟩ (fun hHeld => ?_)
              clear hK K
              refine norm_ (a' := ?_) ?_ ?_
              rotate_left
              ·show Act.put _ (some 54) _ = _
               simp only [Act.put, List.setIfInBounds_toArray, List.set_cons_zero, List.set_cons_succ, i64_w, i32_w]
               rfl
              refine one_ (i := 21) (N := some 55) (bm 24 4194303) rfl rfl (one_of HT_.out (by kernel_rfl)) (by decide) (fun K hK => ?_)
              refine goes_ Try.func55 (by kernel_rfl) rfl #[.agg #[.int .i64 a0_0, .int .i64 a0_1, .slice A0_2 l0_2.length c0_2], .int .i64 (rd x7_2 (ji20)), .int .i64 t666] (by rfl) rfl rfl (by ((simp only [List.map_toArray, List.map_cons, List.map_nil])); (rfl)) ?_
              with_reducible refine (codewrightref04_Add.calls k2 a0_0 a0_1 _ _ l0_2 (rd x7_2 (ji20)) t666 t667 _ ?side1 ?side2 A27.out).mono ?_
              (case side1 => repeat ((exact (Kd.C_below HR0_2.out HB.out))))
              (case side2 => exact HC0_2.out)
              rintro e w32 ⟨rfl, hb⟩
              have HS3_ := (hb.cell (World.block_lt_of_cell? _ _ (hHeld.2.2.2.1))).trans (hHeld.2.2.2.1)
              have HS4_ := (hb.cell (World.block_lt_of_cell? _ _ (hHeld.2.2.2.2.1))).trans (hHeld.2.2.2.2.1)
              have HS5_ := (hb.cell (World.block_lt_of_cell? _ _ (hHeld.2.2.2.2.2))).trans (hHeld.2.2.2.2.2)
              refine ⟨_, rfl, ?_⟩
              have n0_ := Aside0.mk (Kd.R_below HO_1.out hb)
              have n1_ := Aside0.mk (Kd.R_below HO_2.out hb)
              have n2_ := Aside0.mk (Kd.R_below HO_7.out hb)
              have n3_ := Aside0.mk (blk_below (g := gb650) (o := .cells #[.int .i64 a0_0, .int .i64 a0_1, .slice A0_2 l0_2.length c0_2] 24 (0, 0)) BK650.out hb)
              have n4_ := Aside0.mk (below_step HB.out hb)
              clear HO_1 HO_2 HO_7 BK650 HB
              have HO_1 := n0_
              have HO_2 := n1_
              have HO_7 := n2_
              have BK650 := n3_
              have HB := n4_
              clear n0_ n1_ n2_ n3_ n4_
              ((clear hb))
              have p28 : 0 ≤ ((ji20) : Int) := of_decide_eq_true (by (with_reducible assumption))
              have q28 : ((ji20) : Int) < ((x7_2.length : Int) : Int) := of_decide_eq_true (by (with_reducible assumption))
              obtain ⟨go28, co28, eo28, gb28, gl28, cl28, HG28⟩ := Kd.R_form HO_7.out (by omega)
              ((cases eo28))
              have GB28 := Aside0.mk gb28
              have GG28 := Aside0.mk HG28
              clear gb28 gl28 HG28
              ((simp only [add_plain] at hx663_0))
              obtain ⟨hx28_0, hf28_0⟩ := Kd.R_celln 0 HO_7.out ((ji20) : Int) p28 q28
              replace p28 := eq_true p28
              replace q28 := eq_true q28
              have HP33 := Kd.R_putn HO_7.out ((ji20) : Int) t667
              rw [← Ny668.out] at HP33
              have HQ33 := Aside0.mk HP33
              clear HP33
              refine hK.out _ _ ⟨(blk_cell BK650.out 0).trans rfl, (blk_cell BK650.out 1).trans rfl, (blk_cell BK650.out 2).trans rfl, HS3_, HS4_, HS5_⟩ (fun hHeld => ?_)
              clear hK K
              refine norm_ (a' := ?_) ?_ ?_
              rotate_left
              ·show Act.put _ (some 55) _ = _
               simp only [Act.put, List.setIfInBounds_toArray, List.set_cons_zero, List.set_cons_succ, i64_w, i32_w]
               rfl
              refine pu_ 22 56 (bm 24 8388607) HT_ ?_
              refine last_ (i := 23) (N := none) (bm 24 16777215) rfl rfl (one_of HT_.out (by kernel_rfl)) (by decide) (fun K hK => ?_)
              refine skip_ (w1 := ?_) (by rfl) rfl ?_ ?_
              rotate_left
              ·go_simp
               rfl
              refine hK.out _ _ ?_
              clear hK K
              refine done_ (done_of HT_.out (by kernel_rfl)) ?_
              (go_wp2)
              go_roundg k2
              case measure => have := HK1.out; have := HK2.out; omega
              case rel => exact ⟨(y668), (wrap64 (x9_2 + 1)), (by rfl), H', ⟨by have := HK1.out; have := HK2.out; omega⟩, ⟨by exact Kd.R_mono (Kd.R_far (p := ⟨go28, ((ji20) : Int).toNat, none⟩) (Kd.R_mono HO_1.out (fun k_ hk => (⟨hk, fun e_ => hk.2 (by rw [e_]; rfl)⟩ : _ ∧ k_ ≠ go28))) (fun _ hk => hk.2) (.int .i64 t667)) (fun _ hk => ⟨hk.1.1, hk.1.2⟩)⟩, ⟨by exact Kd.R_mono (Kd.R_far (p := ⟨go28, ((ji20) : Int).toNat, none⟩) (Kd.R_mono HO_2.out (fun k_ hk => (⟨hk, fun e_ => hk.2 (by rw [e_]; rfl)⟩ : _ ∧ k_ ≠ go28))) (fun _ hk => hk.2) (.int .i64 t667)) (fun _ hk => ⟨hk.1.1, hk.1.2⟩)⟩, ⟨HQ33.out⟩, ⟨by (with_reducible repeat (fail)); refine blk_far ?_ (by have h_ := Kd.R_ne HO_7.out BK650.out (by decide); intro e_; exact h_ (by rw [e_]; rfl)) _; (with_reducible repeat (fail)); exact BK650.out⟩, ⟨by repeat ((with_reducible first | (exact HB.out) | (refine below_set ?_ GB28.out)))⟩⟩
             ·rw [if_neg c25] at H
              exact absurd H (by simp)
            ·rw [if_neg c24] at H
             exact absurd H (by simp)
           ·rw [if_neg c23] at H
            exact absurd H (by simp)
          ·rw [if_neg c22] at H
           exact absurd H (by simp)
         ·rw [if_neg c21] at H
          exact absurd H (by simp)
        ·rw [if_neg c19] at H
         have c19b0 : decide (x9_2 < (t654.length : Int)) = false := decide_eq_false c19
         clear c19
         have H' := Aside0.mk H
         clear H
         go_wp2
         go_roundg k2
         case measure => have := HK1.out; have := HK2.out; omega
         case rel => exact ⟨(x7_2), (wrap64 (x8_1 + 1)), (by rfl), H', ⟨by have := HK1.out; have := HK2.out; omega⟩, ⟨HO_1.out⟩, ⟨HO_2.out⟩, ⟨HO_7.out⟩, ⟨BK650.out⟩, ⟨HB.out⟩⟩
     ·rw [if_neg c18] at H
      have c18b0 : decide (x8_1 < (t651.length : Int)) = false := decide_eq_false c18
      clear c18
      obtain ⟨t660, A340, H⟩ := Option.bind_eq_some_iff.mp H
      replace H : (some t660) = some r := H
      have A34 := Aside0.mk A340
      clear A340
      obtain rfl := Option.some.inj H
      have hcz35_0 : wr.cell? ⟨gb650, 0, none⟩ = some (.int .i64 a0_0) := (blk_cell BK650.out 0).trans rfl
      have hcz35_1 : wr.cell? ⟨gb650, 1, none⟩ = some (.int .i64 a0_1) := (blk_cell BK650.out 1).trans rfl
      have hcz35_2 : wr.cell? ⟨gb650, 2, none⟩ = some (.slice A0_2 l0_2.length c0_2) := (blk_cell BK650.out 2).trans rfl
      have hfz35_0 := blk_frozen BK650.out 0
      have hfz35_1 := blk_frozen BK650.out 1
      have hfz35_2 := blk_frozen BK650.out 2
      obtain ⟨Ao36, co36, eo36⟩ := Kd.R_slice HO_7.out
      subst eo36
      go_wp2_with (((with_reducible refine gate_callee (f := 23) rfl ?_); refine goesL_ (some 59) rfl rfl Try.func23 (by kernel_rfl) rfl #[.agg #[.int .i64 a0_0, .int .i64 a0_1, .slice A0_2 l0_2.length c0_2], .slice Ao36 x7_1.length co36] rfl (by ((simp only [List.map_toArray, List.map_cons, List.map_nil])); (rfl)) ?_; (with_reducible refine (codewrightref05_Canon.calls k1 a0_0 a0_1 _ _ l0_2 _ _ x7_1 t660 _ ?side1 ?side2 ?side3 ?side4 A34.out).mono ?_); (case side1 => repeat ((exact (Kd.C_below HR0_2.out HB.out)))); (case side2 => exact HC0_2.out); (case side3 => repeat ((exact (Kd.R_reads' HO_7.out).2.2))); (case side4 => exact (Kd.R_reads' HO_7.out).2.1); rintro e w37 ⟨v661, rfl, ho0, hb⟩; refine ⟨_, rfl, ?_⟩; have n0_ := Aside0.mk (Kd.R_elder' HO_1.out (Kd.R_base ho0) hb); have n1_ := Aside0.mk (Kd.R_elder' HO_2.out (Kd.R_base ho0) hb); have n2_ := Aside0.mk (Kd.R_elder' HO_7.out (Kd.R_base ho0) hb); have n3_ := Aside0.mk (Kd.R_lower (Kd.R_new' (Kd.R_new' (Kd.R_new' ho0 (Kd.R_lt HO_1.out)) (Kd.R_lt HO_2.out)) (Kd.R_lt HO_7.out)) (below_size HB.out)); have n4_ := Aside0.mk (blk_below (g := gb650) (o := .cells #[.int .i64 a0_0, .int .i64 a0_1, .slice A0_2 l0_2.length c0_2] 24 (0, 0)) BK650.out hb); have n5_ := Aside0.mk (below_step HB.out hb); clear HO_1; clear HO_2; clear HO_7; clear BK650; clear HB; have HO_1 := n0_; have HO_2 := n1_; have HO_7 := n2_; have HO662 := n3_; have BK650 := n4_; have HB := n5_; clear n0_ n1_ n2_ n3_ n4_ n5_; ((clear hb)); (skip); (skip); (skip); ((clear ho0))))
      go_ret
      exact ⟨_, by rfl, by exact Kd.R_mono HO662.out (fun _ hk => trivial), by exact HB.out⟩
  ·rw [if_neg c8] at H
   exact absurd H (by simp)
 ·rw [if_neg c7] at H
  exact absurd H (by simp)
def codewrightref05_At.f (k : Nat) (a0_0 : Int) (a0_1 : Int) (l0_2 : List Int) (l1 : List Int) (a2 : Int) : Option (Int) := if a2 < 0 then (some 0) else (if a2 ≥ (l1.length : Int) then (some 0) else (if 0 ≤ a2 then (if a2 < (l1.length : Int) then ((codewrightref04_In.f k a0_0 a0_1 l0_2 (rd l1 a2)).bind fun t671 => (some t671)) else (none)) else (none)))
set_option maxHeartbeats 8000000 in
set_option maxRecDepth 100000 in
theorem codewrightref05_At.calls (k : Nat) (a0_0 : Int) (a0_1 : Int) (A0_2 : Option Addr) (c0_2 : Nat) (l0_2 : List Int) (A1 : Option Addr) (c1 : Nat) (l1 : List Int) (a2 : Int) (r : Int) (w : World) (hr0_2 : Kd.C (Kd.int .i64) w A0_2 l0_2.length l0_2) (hc0_2 : l0_2.length ≤ c0_2) (hr1 : Kd.C (Kd.int .i64) w A1 l1.length l1) (hc1 : l1.length ≤ c1) (h : codewrightref05_At.f k a0_0 a0_1 l0_2 l1 a2 = some r) :
  Calls Try.prog 56 #[.agg #[.int .i64 a0_0, .int .i64 a0_1, .slice A0_2 l0_2.length c0_2], .slice A1 l1.length c1, .int .i64 a2] w fun e w' => e = .returned (.int .i64 r) ∧ Below w.heap.size w w' := by
 have hu24 := Try.underlying24
 have HR0_2 := Aside0.mk hr0_2
 have HC0_2 := Aside0.mk hc0_2
 clear hr0_2 hc0_2
 have HR1 := Aside0.mk hr1
 have HC1 := Aside0.mk hc1
 clear hr1 hc1
 have HB := Aside0.mk (Below.refl w.heap.size w)
 have H : (if a2 < 0 then (some 0) else (if a2 ≥ (l1.length : Int) then (some 0) else (if 0 ≤ a2 then (if a2 < (l1.length : Int) then ((codewrightref04_In.f k a0_0 a0_1 l0_2 (rd l1 a2)).bind fun t671 => (some t671)) else (none)) else (none)))) = some r := h
 clear h
 by_cases c4 : a2 < 0
 ·rw [if_pos c4] at H
  have c4b0 : decide (a2 < 0) = true := decide_eq_true c4
  clear c4
  obtain rfl := Option.some.inj H
  go_enter Try.func56, Try.ntmps56
  go_wp2_with (((with_reducible refine gate_dst (N := 3) rfl ?_); ((refine gate_guard (by rfl) ?_; dsimp only)); refine box_event ?hg (N := 3) ?hd (cs := #[.int .i64 a0_0, .int .i64 a0_1, .slice A0_2 l0_2.length c0_2]) (t := 24) ?hr ?_; (case hd => rfl); (case hg => rfl); (case hr => (go_simp; done)); intro gb669 hg w5 hbox hb; have n0_ := Aside0.mk (below_step HB.out hb); have n1_ := Aside0.mk (hbox); have n2_ := Aside0.mk ((by rw [hg]; exact (below_size HB.out) : w.heap.size ≤ gb669)); have n3_ := Aside0.mk ((by rw [hg]; exact (below_size HB.out) : w.heap.size ≤ gb669)); clear HB; have HB := n0_; have BK669 := n1_; have GW669 := n2_; have GE669 := n3_; clear n0_ n1_ n2_ n3_; clear hb hbox hg))
  go_ret
  exact ⟨by rfl, by exact HB.out⟩
 ·rw [if_neg c4] at H
  have c4b0 : decide (a2 < 0) = false := decide_eq_false c4
  clear c4
  by_cases c6 : a2 ≥ (l1.length : Int)
  ·rw [if_pos c6] at H
   have c6b0 : decide ((l1.length : Int) ≤ a2) = true := decide_eq_true c6
   clear c6
   obtain rfl := Option.some.inj H
   go_enter Try.func56, Try.ntmps56
   go_wp2_with (((with_reducible refine gate_dst (N := 3) rfl ?_); ((refine gate_guard (by rfl) ?_; dsimp only)); refine box_event ?hg (N := 3) ?hd (cs := #[.int .i64 a0_0, .int .i64 a0_1, .slice A0_2 l0_2.length c0_2]) (t := 24) ?hr ?_; (case hd => rfl); (case hg => rfl); (case hr => (go_simp; done)); intro gb669 hg w7 hbox hb; have n0_ := Aside0.mk (below_step HB.out hb); have n1_ := Aside0.mk (hbox); have n2_ := Aside0.mk ((by rw [hg]; exact (below_size HB.out) : w.heap.size ≤ gb669)); have n3_ := Aside0.mk ((by rw [hg]; exact (below_size HB.out) : w.heap.size ≤ gb669)); clear HB; have HB := n0_; have BK669 := n1_; have GW669 := n2_; have GE669 := n3_; clear n0_ n1_ n2_ n3_; clear hb hbox hg))
   go_ret
   exact ⟨by rfl, by exact HB.out⟩
  ·rw [if_neg c6] at H
   have c6b0 : decide ((l1.length : Int) ≤ a2) = false := decide_eq_false c6
   clear c6
   by_cases c8 : 0 ≤ a2
   ·rw [if_pos c8] at H
    have c8b0 : decide (0 ≤ a2) = true := decide_eq_true c8
    clear c8
    by_cases c9 : a2 < (l1.length : Int)
    ·rw [if_pos c9] at H
     have c9b0 : decide (a2 < (l1.length : Int)) = true := decide_eq_true c9
     clear c9
     obtain ⟨t671, A100, H⟩ := Option.bind_eq_some_iff.mp H
     replace H : (some t671) = some r := H
     have A10 := Aside0.mk A100
     clear A100
     obtain rfl := Option.some.inj H
     go_enter Try.func56, Try.ntmps56
     (go_wp2_with (((with_reducible refine gate_dst (N := 3) rfl ?_); ((refine gate_guard (by rfl) ?_; dsimp only)); refine box_event ?hg (N := 3) ?hd (cs := #[.int .i64 a0_0, .int .i64 a0_1, .slice A0_2 l0_2.length c0_2]) (t := 24) ?hr ?_; (case hd => rfl); (case hg => rfl); (case hr => (go_simp; done)); intro gb669 hg w11 hbox hb; have n0_ := Aside0.mk (below_step HB.out hb); have n1_ := Aside0.mk (hbox); have n2_ := Aside0.mk ((by rw [hg]; exact (below_size HB.out) : w.heap.size ≤ gb669)); have n3_ := Aside0.mk ((by rw [hg]; exact (below_size HB.out) : w.heap.size ≤ gb669)); clear HB; have HB := n0_; have BK669 := n1_; have GW669 := n2_; have GE669 := n3_; clear n0_ n1_ n2_ n3_; clear hb hbox hg)))
     have n0_ := Aside0.mk (blk_drew BK669.out)
     have n1_ := Aside0.mk (below_drew1 HB.out)
     clear BK669 HB
     have BK669 := n0_
     have HB := n1_
     clear n0_ n1_
     have p670 : 0 ≤ (a2 : Int) := of_decide_eq_true (by (with_reducible assumption))
     have q670 : a2 < (l1.length : Int) := of_decide_eq_true (by (with_reducible assumption))
     obtain ⟨ad670, e670, hx670_0⟩ := Kd.at_int HR1.out a2 p670 q670
     have hw670_0 := hx670_0
     cases e670
     replace hx670_0 := (HB.out.cell (World.block_lt_of_cell? w _ hx670_0)).trans hx670_0
     replace p670 := eq_true p670
     replace q670 := eq_true q670
     refine start_ (n := 7) (S := fun w' => w'.cell? ⟨gb669, 0, none⟩ = some (.int .i64 a0_0) ∧ w'.cell? ⟨gb669, 1, none⟩ = some (.int .i64 a0_1) ∧ w'.cell? ⟨gb669, 2, none⟩ = some (.slice A0_2 l0_2.length c0_2) ∧ w'.cell? (ad670.add (a2).toNat) = some (.int .i64 (rd l1 a2))) (ds := []) (bm 7 0) (by kernel_rfl) rfl rfl ⟨(blk_cell BK669.out 0).trans rfl, (blk_cell BK669.out 1).trans rfl, (blk_cell BK669.out 2).trans rfl, ((HB.out.cell (World.block_lt_of_cell? w _ hw670_0)).trans hw670_0)⟩ (fun hHeld => ?_)
     generalize w11.drew = w12 at BK669 HB hx670_0 hHeld ⊢
     refine pure_ (i := 1) (N := some 16) (v := ?_) (a' := ?_) (bm 7 2) rfl rfl (by kernel_rfl) (fun _ _ _ h => h) (Or.inl ⟨by rfl, ?_⟩) ?_ ?_;rotate_left;(intro w';go_simp;with_reducible rfl);rotate_left;(simp only [ps_];rfl)
     refine pure_ (i := 2) (N := some 17) (v := ?_) (a' := ?_) (bm 7 6) rfl rfl (by kernel_rfl) (fun _ _ _ h => h) (Or.inl ⟨by rfl, ?_⟩) ?_ ?_;rotate_left;(intro w';go_simp;with_reducible rfl);rotate_left;(simp only [ps_];rfl)
     refine pure_ (i := 3) (N := some 18) (v := ?_) (a' := ?_) (bm 7 14) rfl rfl (by kernel_rfl) (fun _ _ _ h => h) (Or.inl ⟨by rfl, ?_⟩) ?_ ?_;rotate_left;(intro w';go_simp;with_reducible rfl);rotate_left;(simp only [ps_];rfl)
     refine take_ (i := 0) (N := some 15) (v := ?_) (a' := ?_) (bm 7 15) rfl rfl (by kernel_rfl) (fun _ _ _ h => h) (Or.inl ⟨by rfl, ?_⟩) hHeld ?_ ?_;rotate_left;(rintro w' ⟨s0, s1, s2, s3⟩;go_simp;with_reducible rfl);rotate_left;(simp only [ps_];rfl)
     refine take_ (i := 4) (N := some 19) (v := ?_) (a' := ?_) (bm 7 31) rfl rfl (by kernel_rfl) (fun _ _ _ h => h) (Or.inl ⟨by rfl, ?_⟩) hHeld ?_ ?_;rotate_left;(rintro w' ⟨s0, s1, s2, s3⟩;go_simp;with_reducible rfl);rotate_left;(simp only [ps_];rfl)
     refine one_ (i := 5) (N := some 20) (bm 7 63) rfl rfl (by kernel_rfl) (by decide) (fun K hK => ?_)
     refine goes_ Try.func31 (by kernel_rfl) rfl #[.agg #[.int .i64 a0_0, .int .i64 a0_1, .slice A0_2 l0_2.length c0_2], .int .i64 (rd l1 a2)] (by rfl) rfl rfl (by ((simp only [List.map_toArray, List.map_cons, List.map_nil])); (rfl)) ?_
     with_reducible refine (codewrightref04_In.calls k a0_0 a0_1 _ _ l0_2 (rd l1 a2) t671 _ ?side1 ?side2 A10.out).mono ?_
     (case side1 => repeat ((exact (Kd.C_below HR0_2.out HB.out))))
     (case side2 => exact HC0_2.out)
     rintro e w13 ⟨rfl, hb⟩
     refine ⟨_, rfl, ?_⟩
     have n0_ := Aside0.mk (blk_below (g := gb669) (o := .cells #[.int .i64 a0_0, .int .i64 a0_1, .slice A0_2 l0_2.length c0_2] 24 (0, 0)) BK669.out hb)
     have n1_ := Aside0.mk (below_step HB.out hb)
     clear BK669 HB
     have BK669 := n0_
     have HB := n1_
     clear n0_ n1_
     ((clear hb))
     refine hK.out _ _ ⟨(blk_cell BK669.out 0).trans rfl, (blk_cell BK669.out 1).trans rfl, (blk_cell BK669.out 2).trans rfl, ((HB.out.cell (World.block_lt_of_cell? w _ hw670_0)).trans hw670_0)⟩ (fun hHeld => ?_)
     clear hK K
     refine norm_ (a' := ?_) ?_ ?_
     rotate_left
     ·show Act.put _ (some 20) _ = _
      simp only [Act.put, List.setIfInBounds_toArray, List.set_cons_zero, List.set_cons_succ, i64_w, i32_w]
      rfl
     refine pure_ (i := 6) (N := some 6) (v := ?_) (a' := ?_) (bm 7 127) rfl rfl (by kernel_rfl) (fun _ _ _ h => h) (Or.inl ⟨by rfl, ?_⟩) ?_ ?_;rotate_left;(intro w';go_simp;with_reducible rfl);rotate_left;(simp only [ps_];rfl)
     refine done_ (by kernel_rfl) ?_
     (go_wp2)
     go_ret
     exact ⟨by rfl, by exact HB.out⟩
    ·rw [if_neg c9] at H
     exact absurd H (by simp)
   ·rw [if_neg c8] at H
    exact absurd H (by simp)
end Go.Proofs.Ytkdakjlopheefaa.PA
end
section
namespace Go.Proofs.Ytkdakjlopheefaa.PA
open Go.RowKit Go.Proofs.YtkdakjlopheefaaW.PrintWords Go.Proofs.YtkdakjlopheefaaW.PrintLast Go.Proofs.YtkdakjlopheefaaW.PrintMore
attribute [local go_sem] max2_int min2_int max_two min_two max_three min_three max_four min_four
set_option linter.unusedVariables false
set_option linter.unusedSimpArgs false
end Go.Proofs.Ytkdakjlopheefaa.PA
end
section
namespace Go.Proofs.Ytkdakjlopheefaa.PA
open Go.RowKit Go.Proofs.YtkdakjlopheefaaW.PrintWords Go.Proofs.YtkdakjlopheefaaW.PrintLast Go.Proofs.YtkdakjlopheefaaW.PrintMore
attribute [local go_sem] max2_int min2_int max_two min_two max_three min_three max_four min_four
set_option linter.unusedVariables false
set_option linter.unusedSimpArgs false
def codewrightref04_Neg.l0 : Nat → List Int → Int → Int → Int → List Int → Option (Int)
 | 0, _, _, _, _, _ => none
 | k + 1, x5, x6, x687000, x687001, x687002 => if x6 < (x5.length : Int) then (if 0 ≤ x6 then (if x687000 = 0 then (none) else (codewrightref04_Neg.l0 k (x5.set (x6 : Int).toNat (Int.tmod (wrap64 (x687000 - (rd x5 x6))) x687000)) (wrap64 (x6 + 1)) x687000 x687001 x687002)) else (none)) else ((codewrightref04_Value.f k x687000 x687001 x687002 x5).bind fun t692 => (some t692))
def codewrightref04_Neg.f (k : Nat) (a0_0 : Int) (a0_1 : Int) (l0_2 : List Int) (a1 : Int) : Option (Int) := (codewrightref04_Digits.f k a0_0 a0_1 l0_2 a1).bind fun t687 => (codewrightref04_Neg.l0 k t687 0 a0_0 a0_1 l0_2)
def codewrightref04_Neg.T5 : Bool × List (List Nat × List Nat) := (true, [([], []), ([], []), ([], []), ([2], [2]), ([], []), ([], []), ([4, 5], [4, 5]), ([6], [6]), ([3, 7], [3, 7]), ([], []), ([9], [9]), ([8, 10], [8, 10]), ([0, 1, 0, 1, 2, 3, 4, 5, 6, 7, 8, 9, 10, 11], [0, 1]), ([12, 11, 0, 1, 2, 3, 4, 5, 6, 7, 8, 9, 10, 11], [11, 12])])
def codewrightref04_Neg.B5 : List Nat := [0, 0, 0, 4, 0, 0, 48, 112, 252, 0, 512, 2044, 4095, 8191]
theorem codewrightref04_Neg.tab5 : rtab .any (opsOf Try.f59 5) = codewrightref04_Neg.T5 := by kernel_rfl
theorem codewrightref04_Neg.bits5 : waitsOk codewrightref04_Neg.T5.2 codewrightref04_Neg.B5 = true := by kernel_rfl
set_option maxHeartbeats 8000000 in
set_option maxRecDepth 100000 in
theorem codewrightref04_Neg.calls (k : Nat) (a0_0 : Int) (a0_1 : Int) (A0_2 : Option Addr) (c0_2 : Nat) (l0_2 : List Int) (a1 : Int) (r : Int) (w : World) (hr0_2 : Kd.C (Kd.int .i64) w A0_2 l0_2.length l0_2) (hc0_2 : l0_2.length ≤ c0_2) (h : codewrightref04_Neg.f k a0_0 a0_1 l0_2 a1 = some r) :
  Calls Try.prog 59 #[.agg #[.int .i64 a0_0, .int .i64 a0_1, .slice A0_2 l0_2.length c0_2], .int .i64 a1] w fun e w' => e = .returned (.int .i64 r) ∧ Below w.heap.size w w' := by
 have hu24 := Try.underlying24
 have HR0_2 := Aside0.mk hr0_2
 have HC0_2 := Aside0.mk hc0_2
 clear hr0_2 hc0_2
 have HB := Aside0.mk (Below.refl w.heap.size w)
 have H : ((codewrightref04_Digits.f k a0_0 a0_1 l0_2 a1).bind fun t687 => (codewrightref04_Neg.l0 k t687 0 a0_0 a0_1 l0_2)) = some r := h
 clear h
 obtain ⟨t687, A30, H⟩ := Option.bind_eq_some_iff.mp H
 replace H : (codewrightref04_Neg.l0 k t687 0 a0_0 a0_1 l0_2) = some r := H
 have A3 := Aside0.mk A30
 clear A30
 have H' := Aside0.mk H
 clear H
 go_enter Try.func59, Try.ntmps59
 go_wp2_with (first | ((with_reducible refine gate_dst (N := 2) rfl ?_); refine box_event ?hg (N := 2) ?hd (cs := #[.int .i64 a0_0, .int .i64 a0_1, .slice A0_2 l0_2.length c0_2]) (t := 24) ?hr ?_; (case hd => rfl); (case hg => rfl); (case hr => (go_simp; done)); intro gb686 hg w4 hbox hb; have n0_ := Aside0.mk (below_step HB.out hb); have n1_ := Aside0.mk (hbox); have n2_ := Aside0.mk ((by rw [hg]; exact (below_size HB.out) : w.heap.size ≤ gb686)); have n3_ := Aside0.mk ((by rw [hg]; exact (below_size HB.out) : w.heap.size ≤ gb686)); clear HB; have HB := n0_; have BK686 := n1_; have GW686 := n2_; have GE686 := n3_; clear n0_ n1_ n2_ n3_; clear hb hbox hg; have hcz5_0 : w4.cell? ⟨gb686, 0, none⟩ = some (.int .i64 a0_0) := (blk_cell BK686.out 0).trans rfl; have hcz5_1 : w4.cell? ⟨gb686, 1, none⟩ = some (.int .i64 a0_1) := (blk_cell BK686.out 1).trans rfl; have hcz5_2 : w4.cell? ⟨gb686, 2, none⟩ = some (.slice A0_2 l0_2.length c0_2) := (blk_cell BK686.out 2).trans rfl; have hfz5_0 := blk_frozen BK686.out 0; have hfz5_1 := blk_frozen BK686.out 1; have hfz5_2 := blk_frozen BK686.out 2) | ((with_reducible refine gate_callee (f := 69) rfl ?_); refine goesL_ (some 9) rfl rfl Try.func69 (by kernel_rfl) rfl #[.agg #[.int .i64 a0_0, .int .i64 a0_1, .slice A0_2 l0_2.length c0_2], .int .i64 a1] rfl (by ((simp only [List.map_toArray, List.map_cons, List.map_nil])); (rfl)) ?_; (with_reducible refine (codewrightref04_Digits.calls k a0_0 a0_1 _ _ l0_2 a1 t687 _ ?side1 ?side2 A3.out).mono ?_); (case side1 => repeat ((exact (Kd.C_below HR0_2.out HB.out)))); (case side2 => exact HC0_2.out); rintro e w6 ⟨v688, rfl, ho0, hb⟩; refine ⟨_, rfl, ?_⟩; have n0_ := Aside0.mk (Kd.R_lower ho0 (below_size HB.out)); have n1_ := Aside0.mk (blk_below (g := gb686) (o := .cells #[.int .i64 a0_0, .int .i64 a0_1, .slice A0_2 l0_2.length c0_2] 24 (0, 0)) BK686.out hb); have n2_ := Aside0.mk (below_step HB.out hb); clear BK686; clear HB; have HO689 := n0_; have BK686 := n1_; have HB := n2_; clear n0_ n1_ n2_; ((clear hb)); (skip); (skip); (skip); ((clear ho0))))
 go_loopg [6] k (fun kq v6 w' => ∃ (x5_1 : List Int) (x6_1 : Int), v6 = .int .i64 x6_1 ∧ Aside0 (codewrightref04_Neg.l0 kq x5_1 x6_1 a0_0 a0_1 l0_2 = some r) ∧ Aside0 (kq ≤ k) ∧ Aside0 (Kd.R (Kd.int .i64) 3 w' w.heap.size (fun _ => True) v688 x5_1) ∧ Aside0 (w'.heap[gb686]? = some (.cells #[.int .i64 a0_0, .int .i64 a0_1, (.slice A0_2 l0_2.length c0_2)] 24 (0, 0))) ∧ Aside0 (Below w.heap.size w w'))
 case atStart => exact ⟨(t687), (0), (by rfl), H', ⟨Nat.le_refl _⟩, ⟨HO689.out⟩, ⟨BK686.out⟩, ⟨HB.out⟩⟩
 case round =>
  clear H' hcz5_0 hcz5_1 hcz5_2 hfz5_0 hfz5_1 hfz5_2
  obtain ⟨x5_1, x6_1, rfl, HA, HK1, HO_5, BK686, HB⟩ := hrel
  cases gk with
  | zero => exact absurd HA.out (by simp [codewrightref04_Neg.l0])
  | succ k1 =>
   have H := HA.out
   clear HA
   simp only [codewrightref04_Neg.l0] at H
   by_cases c7 : x6_1 < (x5_1.length : Int)
   ·rw [if_pos c7] at H
    have c7b0 : decide (x6_1 < (x5_1.length : Int)) = true := decide_eq_true c7
    clear c7
    by_cases c8 : 0 ≤ x6_1
    ·rw [if_pos c8] at H
     have c8b0 : decide (0 ≤ x6_1) = true := decide_eq_true c8
     clear c8
     by_cases c9 : a0_0 = 0
     ·rw [if_pos c9] at H
      exact absurd H (by simp)
     ·rw [if_neg c9] at H
      have c9b0 : (a0_0 == 0) = false := beq_eq_false_iff_ne.mpr c9
      have c9b1 : (a0_0 != 0) = true := bne_iff_ne.mpr c9
      obtain ⟨y691, hy691⟩ : ∃ y_ : List Int, y_ = (x5_1.set (x6_1 : Int).toNat (Int.tmod (wrap64 (a0_0 - (rd x5_1 x6_1))) a0_0)) := ⟨_, rfl⟩
      replace H : (codewrightref04_Neg.l0 k1 y691 (wrap64 (x6_1 + 1)) a0_0 a0_1 l0_2) = some r := by (rw [hy691]; with_reducible exact H)
      have Ny691 := Aside0.mk hy691
      clear hy691
      have H' := Aside0.mk H
      clear H
      obtain ⟨Ao11, co11, eo11⟩ := Kd.R_slice HO_5.out
      subst eo11
      (go_wp2)
      have n0_ := Aside0.mk (Kd.R_drew HO_5.out)
      have n1_ := Aside0.mk (blk_drew BK686.out)
      have n2_ := Aside0.mk (below_drew1 HB.out)
      clear HO_5 BK686 HB
      have HO_5 := n0_
      have BK686 := n1_
      have HB := n2_
      clear n0_ n1_ n2_
      have p690 : 0 ≤ (x6_1 : Int) := of_decide_eq_true (by (with_reducible assumption))
      have q690 : x6_1 < (x5_1.length : Int) := of_decide_eq_true (by (with_reducible assumption))
      obtain ⟨ad690, e690, hx690_0⟩ := Kd.at_int (Kd.R_reads' HO_5.out).2.2 x6_1 p690 q690
      cases e690
      replace p690 := eq_true p690
      replace q690 := eq_true q690
      have p10 : 0 ≤ (x6_1 : Int) := of_decide_eq_true (by (with_reducible assumption))
      have q10 : (x6_1 : Int) < ((x5_1.length : Int) : Int) := of_decide_eq_true (by (with_reducible assumption))
      obtain ⟨go10, co10, eo10, gb10, gl10, cl10, HG10⟩ := Kd.R_form HO_5.out (by omega)
      ((cases eo10))
      have GB10 := Aside0.mk gb10
      have GG10 := Aside0.mk HG10
      clear gb10 gl10 HG10
      ((simp only [add_plain] at hx690_0))
      obtain ⟨hx10_0, hf10_0⟩ := Kd.R_celln 0 HO_5.out (x6_1 : Int) p10 q10
      replace p10 := eq_true p10
      replace q10 := eq_true q10
      have HP13 := Kd.R_putn HO_5.out (x6_1 : Int) (Int.tmod (wrap64 (a0_0 - (rd x5_1 x6_1))) a0_0)
      rw [← Ny691.out] at HP13
      have HQ13 := Aside0.mk HP13
      clear HP13
      refine start_ (n := 14) (S := fun w' => w'.cell? ⟨gb686, 0, none⟩ = some (.int .i64 a0_0) ∧ w'.cell? ⟨gb686, 1, none⟩ = some (.int .i64 a0_1) ∧ w'.cell? ⟨gb686, 2, none⟩ = some (.slice A0_2 l0_2.length c0_2) ∧ w'.cell? ⟨go10, (x6_1).toNat, none⟩ = some (.int .i64 (rd x5_1 x6_1))) (ds := [13]) (bm 14 0) (by kernel_rfl) rfl rfl ⟨(blk_cell BK686.out 0).trans rfl, (blk_cell BK686.out 1).trans rfl, (blk_cell BK686.out 2).trans rfl, hx690_0⟩ (fun hHeld => ?_); refine with_tabW codewrightref04_Neg.tab5 codewrightref04_Neg.bits5 (fun HT_ HW_ => ?_)
      generalize wr.drew = w12 at HO_5 BK686 HB GG10 HQ13 hf10_0 hx10_0 hx690_0 hHeld ⊢
      refine pu_ 0 16 (bm 14 1) HT_ ?_
      refine pu_ 1 17 (bm 14 3) HT_ ?_
      refine pu_ 2 18 (bm 14 7) HT_ ?_
      refine pu_ 4 20 (bm 14 23) HT_ ?_
      refine pu_ 5 21 (bm 14 55) HT_ ?_
      refine pu_ 6 22 (bm 14 119) HT_ ?_
      refine pu_ 9 25 (bm 14 631) HT_ ?_
      refine take_ (i := 3) (N := some 19) (v := ?_) (a' := ?_) (bm 14 639) rfl rfl (take_ofW HT_.out HW_.out (by kernel_rfl)) (fun _ _ _ h => h) (Or.inl ⟨by rfl, ?_⟩) hHeld ?_ ?_;rotate_left;(rintro w' ⟨s0, s1, s2, s3⟩;go_simp;with_reducible rfl);rotate_left;(simp only [ps_];rfl)
      refine take_ (i := 7) (N := some 23) (v := ?_) (a' := ?_) (bm 14 767) rfl rfl (take_ofW HT_.out HW_.out (by kernel_rfl)) (fun _ _ _ h => h) (Or.inl ⟨by rfl, ?_⟩) hHeld ?_ ?_;rotate_left;(rintro w' ⟨s0, s1, s2, s3⟩;go_simp;with_reducible rfl);rotate_left;(simp only [ps_];rfl)
      refine pu_ 8 24 (bm 14 1023) HT_ ?_
      refine take_ (i := 10) (N := some 26) (v := ?_) (a' := ?_) (bm 14 2047) rfl rfl (take_ofW HT_.out HW_.out (by kernel_rfl)) (fun _ _ _ h => h) (Or.inl ⟨by rfl, ?_⟩) hHeld ?_ ?_;rotate_left;(rintro w' ⟨s0, s1, s2, s3⟩;go_simp;with_reducible rfl);rotate_left;(simp only [ps_];rfl)
      refine pu_ 11 27 (bm 14 4095) HT_ ?_
      refine pu_ 12 28 (bm 14 8191) HT_ ?_
      refine last_ (i := 13) (N := none) (bm 14 16383) rfl rfl (one_of HT_.out (by kernel_rfl)) (by decide) (fun K hK => ?_)
      refine skip_ (w1 := ?_) (by rfl) rfl ?_ ?_
      rotate_left
      ·go_simp
       rfl
      refine hK.out _ _ ?_
      clear hK K
      refine done_ (done_of HT_.out (by kernel_rfl)) ?_
      (go_wp2)
      go_roundg k1
      case measure => have := HK1.out; omega
      case rel => exact ⟨(y691), (wrap64 (x6_1 + 1)), (by rfl), H', ⟨by have := HK1.out; omega⟩, ⟨HQ13.out⟩, ⟨by (with_reducible repeat (fail)); refine blk_far ?_ (by have h_ := Kd.R_ne HO_5.out BK686.out (by decide); intro e_; exact h_ (by rw [e_]; rfl)) _; (with_reducible repeat (fail)); exact BK686.out⟩, ⟨by repeat ((with_reducible first | (exact HB.out) | (refine below_set ?_ GB10.out)))⟩⟩
    ·rw [if_neg c8] at H
     exact absurd H (by simp)
   ·rw [if_neg c7] at H
    have c7b0 : decide (x6_1 < (x5_1.length : Int)) = false := decide_eq_false c7
    clear c7
    obtain ⟨t692, A140, H⟩ := Option.bind_eq_some_iff.mp H
    replace H : (some t692) = some r := H
    have A14 := Aside0.mk A140
    clear A140
    obtain rfl := Option.some.inj H
    obtain ⟨Ao15, co15, eo15⟩ := Kd.R_slice HO_5.out
    subst eo15
    have hcz16_0 : wr.cell? ⟨gb686, 0, none⟩ = some (.int .i64 a0_0) := (blk_cell BK686.out 0).trans rfl
    have hcz16_1 : wr.cell? ⟨gb686, 1, none⟩ = some (.int .i64 a0_1) := (blk_cell BK686.out 1).trans rfl
    have hcz16_2 : wr.cell? ⟨gb686, 2, none⟩ = some (.slice A0_2 l0_2.length c0_2) := (blk_cell BK686.out 2).trans rfl
    have hfz16_0 := blk_frozen BK686.out 0
    have hfz16_1 := blk_frozen BK686.out 1
    have hfz16_2 := blk_frozen BK686.out 2
    go_wp2_with (((with_reducible refine gate_callee (f := 70) rfl ?_); refine goesL_ (some 31) rfl rfl Try.func70 (by kernel_rfl) rfl #[.agg #[.int .i64 a0_0, .int .i64 a0_1, .slice A0_2 l0_2.length c0_2], .slice Ao15 x5_1.length co15] rfl (by ((simp only [List.map_toArray, List.map_cons, List.map_nil])); (rfl)) ?_; (with_reducible refine (codewrightref04_Value.calls k1 a0_0 a0_1 _ _ l0_2 _ _ x5_1 t692 _ ?side1 ?side2 ?side3 ?side4 A14.out).mono ?_); (case side1 => repeat ((exact (Kd.C_below HR0_2.out HB.out)))); (case side2 => exact HC0_2.out); (case side3 => repeat ((exact (Kd.R_reads' HO_5.out).2.2))); (case side4 => exact (Kd.R_reads' HO_5.out).2.1); rintro e w17 ⟨rfl, hb⟩; refine ⟨_, rfl, ?_⟩; have n0_ := Aside0.mk (Kd.R_below HO_5.out hb); have n1_ := Aside0.mk (blk_below (g := gb686) (o := .cells #[.int .i64 a0_0, .int .i64 a0_1, .slice A0_2 l0_2.length c0_2] 24 (0, 0)) BK686.out hb); have n2_ := Aside0.mk (below_step HB.out hb); clear HO_5; clear BK686; clear HB; have HO_5 := n0_; have BK686 := n1_; have HB := n2_; clear n0_ n1_ n2_; ((clear hb)); (skip); (skip); (skip)))
    go_ret
    exact ⟨by rfl, by exact HB.out⟩
end Go.Proofs.Ytkdakjlopheefaa.PA
end
section
namespace Go.Proofs.Ytkdakjlopheefaa.PA
open Go.RowKit Go.Proofs.YtkdakjlopheefaaW.PrintWords Go.Proofs.YtkdakjlopheefaaW.PrintLast Go.Proofs.YtkdakjlopheefaaW.PrintMore
attribute [local go_sem] max2_int min2_int max_two min_two max_three min_three max_four min_four
set_option linter.unusedVariables false
set_option linter.unusedSimpArgs false
end Go.Proofs.Ytkdakjlopheefaa.PA
end
section
namespace Go.Proofs.Ytkdakjlopheefaa.PA
open Go.RowKit Go.Proofs.YtkdakjlopheefaaW.PrintWords Go.Proofs.YtkdakjlopheefaaW.PrintLast Go.Proofs.YtkdakjlopheefaaW.PrintMore
attribute [local go_sem] max2_int min2_int max_two min_two max_three min_three max_four min_four
set_option linter.unusedVariables false
set_option linter.unusedSimpArgs false
end Go.Proofs.Ytkdakjlopheefaa.PA
end
section
namespace Go.Proofs.Ytkdakjlopheefaa.PA
open Go.RowKit Go.Proofs.YtkdakjlopheefaaW.PrintWords Go.Proofs.YtkdakjlopheefaaW.PrintLast Go.Proofs.YtkdakjlopheefaaW.PrintMore
attribute [local go_sem] max2_int min2_int max_two min_two max_three min_three max_four min_four
set_option linter.unusedVariables false
set_option linter.unusedSimpArgs false
end Go.Proofs.Ytkdakjlopheefaa.PA
end
section
namespace Go.Proofs.Ytkdakjlopheefaa.PA
open Go.RowKit Go.Proofs.YtkdakjlopheefaaW.PrintWords Go.Proofs.YtkdakjlopheefaaW.PrintLast Go.Proofs.YtkdakjlopheefaaW.PrintMore
attribute [local go_sem] max2_int min2_int max_two min_two max_three min_three max_four min_four
set_option linter.unusedVariables false
set_option linter.unusedSimpArgs false
def codewrightlaw38_errors.l0 : Nat → List Int → List Int → Int → Int → Int → Int → List Int → Option (Bool)
 | 0, _, _, _, _, _, _, _ => none
 | k + 1, x1, x2, x9, x10, x782000, x782001, x782002 => if x10 < x9 then (if 0 ≤ x10 then (if x10 < (x1.length : Int) then ((codewrightref04_In.f k x782000 x782001 x782002 (rd x1 x10)).bind fun t784 => (if t784 = 0 then (some false) else ((codewrightref05_At.f k x782000 x782001 x782002 x2 x10).bind fun t785 => (if t785 = 0 then (some false) else (codewrightlaw38_errors.l0 k x1 x2 x9 (wrap64 (x10 + 1)) x782000 x782001 x782002))))) else (none)) else (none)) else (if (x1.length : Int) = (x2.length : Int) then ((codewrightref38_Different.f k x782000 x782001 x782002 x1).bind fun t782 => (some t782)) else (some false))
def codewrightlaw38_errors.f (k : Nat) (a0_0 : Int) (a0_1 : Int) (l0_2 : List Int) (l1 : List Int) (l2 : List Int) : Option (Bool) := codewrightlaw38_errors.l0 k l1 l2 (l1.length : Int) 0 a0_0 a0_1 l0_2
def codewrightlaw38_errors.T4 : Bool × List (List Nat × List Nat) := (true, [([], []), ([], []), ([], []), ([1, 2], [1, 2]), ([3], [3]), ([0, 4], [0, 4]), ([5], [5]), ([6, 5], [6]), ([7], [7]), ([7], [7]), ([7], [7]), ([8, 9, 10, 7, 7], [7, 8, 9, 10]), ([11, 7], [7, 11]), ([7, 12], [7, 12])])
def codewrightlaw38_errors.B4 : List Nat := [0, 0, 0, 6, 14, 31, 63, 127, 255, 255, 255, 2047, 4095, 8191]
theorem codewrightlaw38_errors.tab4 : rtab .any (opsOf Try.f29 4) = codewrightlaw38_errors.T4 := by kernel_rfl
theorem codewrightlaw38_errors.bits4 : waitsOk codewrightlaw38_errors.T4.2 codewrightlaw38_errors.B4 = true := by kernel_rfl
set_option maxHeartbeats 8000000 in
set_option maxRecDepth 100000 in
theorem codewrightlaw38_errors.calls (k : Nat) (a0_0 : Int) (a0_1 : Int) (A0_2 : Option Addr) (c0_2 : Nat) (l0_2 : List Int) (A1 : Option Addr) (c1 : Nat) (l1 : List Int) (A2 : Option Addr) (c2 : Nat) (l2 : List Int) (r : Bool) (w : World) (hr0_2 : Kd.C (Kd.int .i64) w A0_2 l0_2.length l0_2) (hc0_2 : l0_2.length ≤ c0_2) (hr1 : Kd.C (Kd.int .i64) w A1 l1.length l1) (hc1 : l1.length ≤ c1) (hr2 : Kd.C (Kd.int .i64) w A2 l2.length l2) (hc2 : l2.length ≤ c2) (h : codewrightlaw38_errors.f k a0_0 a0_1 l0_2 l1 l2 = some r) :
  Calls Try.prog 29 #[.agg #[.int .i64 a0_0, .int .i64 a0_1, .slice A0_2 l0_2.length c0_2], .slice A1 l1.length c1, .slice A2 l2.length c2] w fun e w' => e = .returned (.bool r) ∧ Below w.heap.size w w' := by
 have hu24 := Try.underlying24
 have HR0_2 := Aside0.mk hr0_2
 have HC0_2 := Aside0.mk hc0_2
 clear hr0_2 hc0_2
 have HR1 := Aside0.mk hr1
 have HC1 := Aside0.mk hc1
 clear hr1 hc1
 have HR2 := Aside0.mk hr2
 have HC2 := Aside0.mk hc2
 clear hr2 hc2
 have HB := Aside0.mk (Below.refl w.heap.size w)
 have H : (codewrightlaw38_errors.l0 k l1 l2 (l1.length : Int) 0 a0_0 a0_1 l0_2) = some r := h
 clear h
 have H' := Aside0.mk H
 clear H
 go_enter Try.func29, Try.ntmps29
 go_wp2_with (((with_reducible refine gate_dst (N := 3) rfl ?_); refine box_event ?hg (N := 3) ?hd (cs := #[.int .i64 a0_0, .int .i64 a0_1, .slice A0_2 l0_2.length c0_2]) (t := 24) ?hr ?_; (case hd => rfl); (case hg => rfl); (case hr => (go_simp; done)); intro gb781 hg w4 hbox hb; have n0_ := Aside0.mk (below_step HB.out hb); have n1_ := Aside0.mk (hbox); have n2_ := Aside0.mk ((by rw [hg]; exact (below_size HB.out) : w.heap.size ≤ gb781)); have n3_ := Aside0.mk ((by rw [hg]; exact (below_size HB.out) : w.heap.size ≤ gb781)); clear HB; have HB := n0_; have BK781 := n1_; have GW781 := n2_; have GE781 := n3_; clear n0_ n1_ n2_ n3_; clear hb hbox hg))
 go_loopg [10] k (fun kq v10 w' => ∃ (x10_1 : Int), v10 = .int .i64 x10_1 ∧ Aside0 (codewrightlaw38_errors.l0 kq l1 l2 (l1.length : Int) x10_1 a0_0 a0_1 l0_2 = some r) ∧ Aside0 (kq ≤ k) ∧ Aside0 (w'.heap[gb781]? = some (.cells #[.int .i64 a0_0, .int .i64 a0_1, (.slice A0_2 l0_2.length c0_2)] 24 (0, 0))) ∧ Aside0 (Below w.heap.size w w'))
 case atStart => exact ⟨(0), (by rfl), H', ⟨Nat.le_refl _⟩, ⟨BK781.out⟩, ⟨HB.out⟩⟩
 case round =>
  clear H'
  obtain ⟨x10_1, rfl, HA, HK1, BK781, HB⟩ := hrel
  cases gk with
  | zero => exact absurd HA.out (by simp [codewrightlaw38_errors.l0])
  | succ k1 =>
   have H := HA.out
   clear HA
   simp only [codewrightlaw38_errors.l0] at H
   by_cases c5 : x10_1 < (l1.length : Int)
   ·rw [if_pos c5] at H
    have c5b0 : decide (x10_1 < (l1.length : Int)) = true := decide_eq_true c5
    clear c5
    by_cases c6 : 0 ≤ x10_1
    ·rw [if_pos c6] at H
     have c6b0 : decide (0 ≤ x10_1) = true := decide_eq_true c6
     clear c6
     by_cases c7 : x10_1 < (l1.length : Int)
     ·rw [if_pos c7] at H
      have c7b0 : decide (x10_1 < (l1.length : Int)) = true := decide_eq_true c7
      clear c7
      obtain ⟨t784, A80, H⟩ := Option.bind_eq_some_iff.mp H
      replace H : (if t784 = 0 then (some false) else ((codewrightref05_At.f k1 a0_0 a0_1 l0_2 l2 x10_1).bind fun t785 => (if t785 = 0 then (some false) else (codewrightlaw38_errors.l0 k1 l1 l2 (l1.length : Int) (wrap64 (x10_1 + 1)) a0_0 a0_1 l0_2)))) = some r := H
      have A8 := Aside0.mk A80
      clear A80
      by_cases c9 : t784 = 0
      ·rw [if_pos c9] at H
       have c9b0 : (t784 == 0) = true := beq_iff_eq.mpr c9
       have c9b1 : (t784 != 0) = false := bne_eq_false_iff_eq.mpr c9
       clear c9
       obtain rfl := Option.some.inj H
       (go_wp2)
       have n0_ := Aside0.mk (blk_drew BK781.out)
       have n1_ := Aside0.mk (below_drew1 HB.out)
       clear BK781 HB
       have BK781 := n0_
       have HB := n1_
       clear n0_ n1_
       have p783 : 0 ≤ (x10_1 : Int) := of_decide_eq_true (by (with_reducible assumption))
       have q783 : x10_1 < (l1.length : Int) := of_decide_eq_true (by (with_reducible assumption))
       obtain ⟨ad783, e783, hx783_0⟩ := Kd.at_int HR1.out x10_1 p783 q783
       have hw783_0 := hx783_0
       cases e783
       replace hx783_0 := (HB.out.cell (World.block_lt_of_cell? w _ hx783_0)).trans hx783_0
       replace p783 := eq_true p783
       replace q783 := eq_true q783
       refine start_ (n := 14) (S := fun w' => w'.cell? ⟨gb781, 0, none⟩ = some (.int .i64 a0_0) ∧ w'.cell? ⟨gb781, 1, none⟩ = some (.int .i64 a0_1) ∧ w'.cell? ⟨gb781, 2, none⟩ = some (.slice A0_2 l0_2.length c0_2) ∧ w'.cell? (ad783.add (x10_1).toNat) = some (.int .i64 (rd l1 x10_1))) (ds := []) (bm 14 0) (by kernel_rfl) rfl rfl ⟨(blk_cell BK781.out 0).trans rfl, (blk_cell BK781.out 1).trans rfl, (blk_cell BK781.out 2).trans rfl, ((HB.out.cell (World.block_lt_of_cell? w _ hw783_0)).trans hw783_0)⟩ (fun hHeld => ?_); refine with_tabW codewrightlaw38_errors.tab4 codewrightlaw38_errors.bits4 (fun HT_ HW_ => ?_)
       generalize wr.drew = w10 at BK781 HB hx783_0 hHeld ⊢
       refine pu_ 1 14 (bm 14 2) HT_ ?_
       refine pu_ 2 15 (bm 14 6) HT_ ?_
       refine pu_ 3 16 (bm 14 14) HT_ ?_
       refine take_ (i := 0) (N := some 13) (v := ?_) (a' := ?_) (bm 14 15) rfl rfl (take_ofW HT_.out HW_.out (by kernel_rfl)) (fun _ _ _ h => h) (Or.inl ⟨by rfl, ?_⟩) hHeld ?_ ?_;rotate_left;(rintro w' ⟨s0, s1, s2, s3⟩;go_simp;with_reducible rfl);rotate_left;(simp only [ps_];rfl)
       refine take_ (i := 4) (N := some 17) (v := ?_) (a' := ?_) (bm 14 31) rfl rfl (take_ofW HT_.out HW_.out (by kernel_rfl)) (fun _ _ _ h => h) (Or.inl ⟨by rfl, ?_⟩) hHeld ?_ ?_;rotate_left;(rintro w' ⟨s0, s1, s2, s3⟩;go_simp;with_reducible rfl);rotate_left;(simp only [ps_];rfl)
       refine one_ (i := 5) (N := some 18) (bm 14 63) rfl rfl (one_of HT_.out (by kernel_rfl)) (by decide) (fun K hK => ?_)
       refine goes_ Try.func31 (by kernel_rfl) rfl #[.agg #[.int .i64 a0_0, .int .i64 a0_1, .slice A0_2 l0_2.length c0_2], .int .i64 (rd l1 x10_1)] (by rfl) rfl rfl (by ((simp only [List.map_toArray, List.map_cons, List.map_nil])); (rfl)) ?_
       with_reducible refine (codewrightref04_In.calls k1 a0_0 a0_1 _ _ l0_2 (rd l1 x10_1) t784 _ ?side1 ?side2 A8.out).mono ?_
       (case side1 => repeat ((exact (Kd.C_below HR0_2.out HB.out))))
       (case side2 => exact HC0_2.out)
       rintro e w11 ⟨rfl, hb⟩
       refine ⟨_, rfl, ?_⟩
       have n0_ := Aside0.mk (blk_below (g := gb781) (o := .cells #[.int .i64 a0_0, .int .i64 a0_1, .slice A0_2 l0_2.length c0_2] 24 (0, 0)) BK781.out hb)
       have n1_ := Aside0.mk (below_step HB.out hb)
       clear BK781 HB
       have BK781 := n0_
       have HB := n1_
       clear n0_ n1_
       ((clear hb))
       refine hK.out _ _ ⟨(blk_cell BK781.out 0).trans rfl, (blk_cell BK781.out 1).trans rfl, (blk_cell BK781.out 2).trans rfl, ((HB.out.cell (World.block_lt_of_cell? w _ hw783_0)).trans hw783_0)⟩ (fun hHeld => ?_)
       clear hK K
       refine norm_ (a' := ?_) ?_ ?_
       rotate_left
       ·show Act.put _ (some 18) _ = _
        simp only [Act.put, List.setIfInBounds_toArray, List.set_cons_zero, List.set_cons_succ, i64_w, i32_w]
        rfl
       refine pu_ 6 19 (bm 14 127) HT_ ?_
       refine pu_ 7 20 (bm 14 255) HT_ ?_
       refine pure_ (i := 8) (N := some 21) (v := undef) (a' := ?_) (bm 14 511) rfl rfl (any_of HT_.out (by kernel_rfl)) (fun _ _ _ h => h) (Or.inr ⟨by rfl, rfl⟩) ?_ ?_
       rotate_left
       ·simp only [Act.put, List.setIfInBounds_toArray, List.set_cons_zero, List.set_cons_succ, i64_w, i32_w]
        rfl
       refine pure_ (i := 9) (N := some 22) (v := undef) (a' := ?_) (bm 14 1023) rfl rfl (any_of HT_.out (by kernel_rfl)) (fun _ _ _ h => h) (Or.inr ⟨by rfl, rfl⟩) ?_ ?_
       rotate_left
       ·simp only [Act.put, List.setIfInBounds_toArray, List.set_cons_zero, List.set_cons_succ, i64_w, i32_w]
        rfl
       refine pure_ (i := 10) (N := some 23) (v := undef) (a' := ?_) (bm 14 2047) rfl rfl (any_of HT_.out (by kernel_rfl)) (fun _ _ _ h => h) (Or.inr ⟨by rfl, rfl⟩) ?_ ?_
       rotate_left
       ·simp only [Act.put, List.setIfInBounds_toArray, List.set_cons_zero, List.set_cons_succ, i64_w, i32_w]
        rfl
       refine pure_ (i := 11) (N := some 24) (v := undef) (a' := ?_) (bm 14 4095) rfl rfl (any_of HT_.out (by kernel_rfl)) (fun _ _ _ h => h) (Or.inr ⟨by rfl, rfl⟩) ?_ ?_
       rotate_left
       ·simp only [Act.put, List.setIfInBounds_toArray, List.set_cons_zero, List.set_cons_succ, i64_w, i32_w]
        rfl
       refine pure_ (i := 12) (N := some 25) (v := undef) (a' := ?_) (bm 14 8191) rfl rfl (any_of HT_.out (by kernel_rfl)) (fun _ _ _ h => h) (Or.inr ⟨by rfl, rfl⟩) ?_ ?_
       rotate_left
       ·simp only [Act.put, List.setIfInBounds_toArray, List.set_cons_zero, List.set_cons_succ, i64_w, i32_w]
        rfl
       refine pu_ 13 26 (bm 14 16383) HT_ ?_
       refine done_ (done_of HT_.out (by kernel_rfl)) ?_
       (go_wp2)
       go_ret
       exact ⟨by rfl, by exact HB.out⟩
      ·rw [if_neg c9] at H
       have c9b0 : (t784 == 0) = false := beq_eq_false_iff_ne.mpr c9
       have c9b1 : (t784 != 0) = true := bne_iff_ne.mpr c9
       obtain ⟨t785, A120, H⟩ := Option.bind_eq_some_iff.mp H
       replace H : (if t785 = 0 then (some false) else (codewrightlaw38_errors.l0 k1 l1 l2 (l1.length : Int) (wrap64 (x10_1 + 1)) a0_0 a0_1 l0_2)) = some r := H
       have A12 := Aside0.mk A120
       clear A120
       by_cases c13 : t785 = 0
       ·rw [if_pos c13] at H
        have c13b0 : (t785 == 0) = true := beq_iff_eq.mpr c13
        have c13b1 : (t785 != 0) = false := bne_eq_false_iff_eq.mpr c13
        clear c13
        obtain rfl := Option.some.inj H
        (go_wp2)
        have n0_ := Aside0.mk (blk_drew BK781.out)
        have n1_ := Aside0.mk (below_drew1 HB.out)
        clear BK781 HB
        have BK781 := n0_
        have HB := n1_
        clear n0_ n1_
        have p783 : 0 ≤ (x10_1 : Int) := of_decide_eq_true (by (with_reducible assumption))
        have q783 : x10_1 < (l1.length : Int) := of_decide_eq_true (by (with_reducible assumption))
        obtain ⟨ad783, e783, hx783_0⟩ := Kd.at_int HR1.out x10_1 p783 q783
        have hw783_0 := hx783_0
        cases e783
        replace hx783_0 := (HB.out.cell (World.block_lt_of_cell? w _ hx783_0)).trans hx783_0
        replace p783 := eq_true p783
        replace q783 := eq_true q783
        refine start_ (n := 14) (S := fun w' => w'.cell? ⟨gb781, 0, none⟩ = some (.int .i64 a0_0) ∧ w'.cell? ⟨gb781, 1, none⟩ = some (.int .i64 a0_1) ∧ w'.cell? ⟨gb781, 2, none⟩ = some (.slice A0_2 l0_2.length c0_2) ∧ w'.cell? (ad783.add (x10_1).toNat) = some (.int .i64 (rd l1 x10_1))) (ds := []) (bm 14 0) (by kernel_rfl) rfl rfl ⟨(blk_cell BK781.out 0).trans rfl, (blk_cell BK781.out 1).trans rfl, (blk_cell BK781.out 2).trans rfl, ((HB.out.cell (World.block_lt_of_cell? w _ hw783_0)).trans hw783_0)⟩ (fun hHeld => ?_); refine with_tabW codewrightlaw38_errors.tab4 codewrightlaw38_errors.bits4 (fun HT_ HW_ => ?_)
        generalize wr.drew = w14 at BK781 HB hx783_0 hHeld ⊢
        refine pu_ 1 14 (bm 14 2) HT_ ?_
        refine pu_ 2 15 (bm 14 6) HT_ ?_
        refine pu_ 3 16 (bm 14 14) HT_ ?_
        refine take_ (i := 0) (N := some 13) (v := ?_) (a' := ?_) (bm 14 15) rfl rfl (take_ofW HT_.out HW_.out (by kernel_rfl)) (fun _ _ _ h => h) (Or.inl ⟨by rfl, ?_⟩) hHeld ?_ ?_;rotate_left;(rintro w' ⟨s0, s1, s2, s3⟩;go_simp;with_reducible rfl);rotate_left;(simp only [ps_];rfl)
        refine take_ (i := 4) (N := some 17) (v := ?_) (a' := ?_) (bm 14 31) rfl rfl (take_ofW HT_.out HW_.out (by kernel_rfl)) (fun _ _ _ h => h) (Or.inl ⟨by rfl, ?_⟩) hHeld ?_ ?_;rotate_left;(rintro w' ⟨s0, s1, s2, s3⟩;go_simp;with_reducible rfl);rotate_left;(simp only [ps_];rfl)
        refine one_ (i := 5) (N := some 18) (bm 14 63) rfl rfl (one_of HT_.out (by kernel_rfl)) (by decide) (fun K hK => ?_)
        refine goes_ Try.func31 (by kernel_rfl) rfl #[.agg #[.int .i64 a0_0, .int .i64 a0_1, .slice A0_2 l0_2.length c0_2], .int .i64 (rd l1 x10_1)] (by rfl) rfl rfl (by ((simp only [List.map_toArray, List.map_cons, List.map_nil])); (rfl)) ?_
        with_reducible refine (codewrightref04_In.calls k1 a0_0 a0_1 _ _ l0_2 (rd l1 x10_1) t784 _ ?side1 ?side2 A8.out).mono ?_
        (case side1 => repeat ((exact (Kd.C_below HR0_2.out HB.out))))
        (case side2 => exact HC0_2.out)
        rintro e w15 ⟨rfl, hb⟩
        refine ⟨_, rfl, ?_⟩
        have n0_ := Aside0.mk (blk_below (g := gb781) (o := .cells #[.int .i64 a0_0, .int .i64 a0_1, .slice A0_2 l0_2.length c0_2] 24 (0, 0)) BK781.out hb)
        have n1_ := Aside0.mk (below_step HB.out hb)
        clear BK781 HB
        have BK781 := n0_
        have HB := n1_
        clear n0_ n1_
        ((clear hb))
        refine hK.out _ _ ⟨(blk_cell BK781.out 0).trans rfl, (blk_cell BK781.out 1).trans rfl, (blk_cell BK781.out 2).trans rfl, ((HB.out.cell (World.block_lt_of_cell? w _ hw783_0)).trans hw783_0)⟩ (fun hHeld => ?_)
        clear hK K
        refine norm_ (a' := ?_) ?_ ?_
        rotate_left
        ·show Act.put _ (some 18) _ = _
         simp only [Act.put, List.setIfInBounds_toArray, List.set_cons_zero, List.set_cons_succ, i64_w, i32_w]
         rfl
        refine pu_ 6 19 (bm 14 127) HT_ ?_
        refine pu_ 7 20 (bm 14 255) HT_ ?_
        refine pu_ 9 22 (bm 14 767) HT_ ?_
        refine pu_ 10 23 (bm 14 1791) HT_ ?_
        refine take_ (i := 8) (N := some 21) (v := ?_) (a' := ?_) (bm 14 2047) rfl rfl (take_ofW HT_.out HW_.out (by kernel_rfl)) (fun _ _ _ h => h) (Or.inl ⟨by rfl, ?_⟩) hHeld ?_ ?_;rotate_left;(rintro w' ⟨s0, s1, s2, s3⟩;go_simp;with_reducible rfl);rotate_left;(simp only [ps_];rfl)
        refine one_ (i := 11) (N := some 24) (bm 14 4095) rfl rfl (one_of HT_.out (by kernel_rfl)) (by decide) (fun K hK => ?_)
        refine goes_ Try.func56 (by kernel_rfl) rfl #[.agg #[.int .i64 a0_0, .int .i64 a0_1, .slice A0_2 l0_2.length c0_2], .slice A2 l2.length c2, .int .i64 x10_1] (by rfl) rfl rfl (by ((simp only [List.map_toArray, List.map_cons, List.map_nil])); (rfl)) ?_
        with_reducible refine (codewrightref05_At.calls k1 a0_0 a0_1 _ _ l0_2 _ _ l2 x10_1 t785 _ ?side1 ?side2 ?side3 ?side4 A12.out).mono ?_
        (case side1 => repeat ((exact (Kd.C_below HR0_2.out HB.out))))
        (case side2 => exact HC0_2.out)
        (case side3 => repeat ((exact (Kd.C_below HR2.out HB.out))))
        (case side4 => exact HC2.out)
        rintro e w16 ⟨rfl, hb⟩
        refine ⟨_, rfl, ?_⟩
        have n0_ := Aside0.mk (blk_below (g := gb781) (o := .cells #[.int .i64 a0_0, .int .i64 a0_1, .slice A0_2 l0_2.length c0_2] 24 (0, 0)) BK781.out hb)
        have n1_ := Aside0.mk (below_step HB.out hb)
        clear BK781 HB
        have BK781 := n0_
        have HB := n1_
        clear n0_ n1_
        ((clear hb))
        refine hK.out _ _ ⟨(blk_cell BK781.out 0).trans rfl, (blk_cell BK781.out 1).trans rfl, (blk_cell BK781.out 2).trans rfl, ((HB.out.cell (World.block_lt_of_cell? w _ hw783_0)).trans hw783_0)⟩ (fun hHeld => ?_)
        clear hK K
        refine norm_ (a' := ?_) ?_ ?_
        rotate_left
        ·show Act.put _ (some 24) _ = _
         simp only [Act.put, List.setIfInBounds_toArray, List.set_cons_zero, List.set_cons_succ, i64_w, i32_w]
         rfl
        refine pu_ 12 25 (bm 14 8191) HT_ ?_
        refine pu_ 13 26 (bm 14 16383) HT_ ?_
        refine done_ (done_of HT_.out (by kernel_rfl)) ?_
        (go_wp2)
        go_ret
        exact ⟨by rfl, by exact HB.out⟩
       ·rw [if_neg c13] at H
        have c13b0 : (t785 == 0) = false := beq_eq_false_iff_ne.mpr c13
        have c13b1 : (t785 != 0) = true := bne_iff_ne.mpr c13
        have H' := Aside0.mk H
        clear H
        (go_wp2)
        have n0_ := Aside0.mk (blk_drew BK781.out)
        have n1_ := Aside0.mk (below_drew1 HB.out)
        clear BK781 HB
        have BK781 := n0_
        have HB := n1_
        clear n0_ n1_
        have p783 : 0 ≤ (x10_1 : Int) := of_decide_eq_true (by (with_reducible assumption))
        have q783 : x10_1 < (l1.length : Int) := of_decide_eq_true (by (with_reducible assumption))
        obtain ⟨ad783, e783, hx783_0⟩ := Kd.at_int HR1.out x10_1 p783 q783
        have hw783_0 := hx783_0
        cases e783
        replace hx783_0 := (HB.out.cell (World.block_lt_of_cell? w _ hx783_0)).trans hx783_0
        replace p783 := eq_true p783
        replace q783 := eq_true q783
        refine start_ (n := 14) (S := fun w' => w'.cell? ⟨gb781, 0, none⟩ = some (.int .i64 a0_0) ∧ w'.cell? ⟨gb781, 1, none⟩ = some (.int .i64 a0_1) ∧ w'.cell? ⟨gb781, 2, none⟩ = some (.slice A0_2 l0_2.length c0_2) ∧ w'.cell? (ad783.add (x10_1).toNat) = some (.int .i64 (rd l1 x10_1))) (ds := []) (bm 14 0) (by kernel_rfl) rfl rfl ⟨(blk_cell BK781.out 0).trans rfl, (blk_cell BK781.out 1).trans rfl, (blk_cell BK781.out 2).trans rfl, ((HB.out.cell (World.block_lt_of_cell? w _ hw783_0)).trans hw783_0)⟩ (fun hHeld => ?_); refine with_tabW codewrightlaw38_errors.tab4 codewrightlaw38_errors.bits4 (fun HT_ HW_ => ?_)
        generalize wr.drew = w17 at BK781 HB hx783_0 hHeld ⊢
        refine pu_ 1 14 (bm 14 2) HT_ ?_
        refine pu_ 2 15 (bm 14 6) HT_ ?_
        refine pu_ 3 16 (bm 14 14) HT_ ?_
        refine take_ (i := 0) (N := some 13) (v := ?_) (a' := ?_) (bm 14 15) rfl rfl (take_ofW HT_.out HW_.out (by kernel_rfl)) (fun _ _ _ h => h) (Or.inl ⟨by rfl, ?_⟩) hHeld ?_ ?_;rotate_left;(rintro w' ⟨s0, s1, s2, s3⟩;go_simp;with_reducible rfl);rotate_left;(simp only [ps_];rfl)
        refine take_ (i := 4) (N := some 17) (v := ?_) (a' := ?_) (bm 14 31) rfl rfl (take_ofW HT_.out HW_.out (by kernel_rfl)) (fun _ _ _ h => h) (Or.inl ⟨by rfl, ?_⟩) hHeld ?_ ?_;rotate_left;(rintro w' ⟨s0, s1, s2, s3⟩;go_simp;with_reducible rfl);rotate_left;(simp only [ps_];rfl)
        refine one_ (i := 5) (N := some 18) (bm 14 63) rfl rfl (one_of HT_.out (by kernel_rfl)) (by decide) (fun K hK => ?_)
        refine goes_ Try.func31 (by kernel_rfl) rfl #[.agg #[.int .i64 a0_0, .int .i64 a0_1, .slice A0_2 l0_2.length c0_2], .int .i64 (rd l1 x10_1)] (by rfl) rfl rfl (by ((simp only [List.map_toArray, List.map_cons, List.map_nil])); (rfl)) ?_
        with_reducible refine (codewrightref04_In.calls k1 a0_0 a0_1 _ _ l0_2 (rd l1 x10_1) t784 _ ?side1 ?side2 A8.out).mono ?_
        (case side1 => repeat ((exact (Kd.C_below HR0_2.out HB.out))))
        (case side2 => exact HC0_2.out)
        rintro e w18 ⟨rfl, hb⟩
        refine ⟨_, rfl, ?_⟩
        have n0_ := Aside0.mk (blk_below (g := gb781) (o := .cells #[.int .i64 a0_0, .int .i64 a0_1, .slice A0_2 l0_2.length c0_2] 24 (0, 0)) BK781.out hb)
        have n1_ := Aside0.mk (below_step HB.out hb)
        clear BK781 HB
        have BK781 := n0_
        have HB := n1_
        clear n0_ n1_
        ((clear hb))
        refine hK.out _ _ ⟨(blk_cell BK781.out 0).trans rfl, (blk_cell BK781.out 1).trans rfl, (blk_cell BK781.out 2).trans rfl, ((HB.out.cell (World.block_lt_of_cell? w _ hw783_0)).trans hw783_0)⟩ (fun hHeld => ?_)
        clear hK K
        refine norm_ (a' := ?_) ?_ ?_
        rotate_left
        ·show Act.put _ (some 18) _ = _
         simp only [Act.put, List.setIfInBounds_toArray, List.set_cons_zero, List.set_cons_succ, i64_w, i32_w]
         rfl
        refine pu_ 6 19 (bm 14 127) HT_ ?_
        refine pu_ 7 20 (bm 14 255) HT_ ?_
        refine pu_ 9 22 (bm 14 767) HT_ ?_
        refine pu_ 10 23 (bm 14 1791) HT_ ?_
        refine take_ (i := 8) (N := some 21) (v := ?_) (a' := ?_) (bm 14 2047) rfl rfl (take_ofW HT_.out HW_.out (by kernel_rfl)) (fun _ _ _ h => h) (Or.inl ⟨by rfl, ?_⟩) hHeld ?_ ?_;rotate_left;(rintro w' ⟨s0, s1, s2, s3⟩;go_simp;with_reducible rfl);rotate_left;(simp only [ps_];rfl)
        refine one_ (i := 11) (N := some 24) (bm 14 4095) rfl rfl (one_of HT_.out (by kernel_rfl)) (by decide) (fun K hK => ?_)
        refine goes_ Try.func56 (by kernel_rfl) rfl #[.agg #[.int .i64 a0_0, .int .i64 a0_1, .slice A0_2 l0_2.length c0_2], .slice A2 l2.length c2, .int .i64 x10_1] (by rfl) rfl rfl (by ((simp only [List.map_toArray, List.map_cons, List.map_nil])); (rfl)) ?_
        with_reducible refine (codewrightref05_At.calls k1 a0_0 a0_1 _ _ l0_2 _ _ l2 x10_1 t785 _ ?side1 ?side2 ?side3 ?side4 A12.out).mono ?_
        (case side1 => repeat ((exact (Kd.C_below HR0_2.out HB.out))))
        (case side2 => exact HC0_2.out)
        (case side3 => repeat ((exact (Kd.C_below HR2.out HB.out))))
        (case side4 => exact HC2.out)
        rintro e w19 ⟨rfl, hb⟩
        refine ⟨_, rfl, ?_⟩
        have n0_ := Aside0.mk (blk_below (g := gb781) (o := .cells #[.int .i64 a0_0, .int .i64 a0_1, .slice A0_2 l0_2.length c0_2] 24 (0, 0)) BK781.out hb)
        have n1_ := Aside0.mk (below_step HB.out hb)
        clear BK781 HB
        have BK781 := n0_
        have HB := n1_
        clear n0_ n1_
        ((clear hb))
        refine hK.out _ _ ⟨(blk_cell BK781.out 0).trans rfl, (blk_cell BK781.out 1).trans rfl, (blk_cell BK781.out 2).trans rfl, ((HB.out.cell (World.block_lt_of_cell? w _ hw783_0)).trans hw783_0)⟩ (fun hHeld => ?_)
        clear hK K
        refine norm_ (a' := ?_) ?_ ?_
        rotate_left
        ·show Act.put _ (some 24) _ = _
         simp only [Act.put, List.setIfInBounds_toArray, List.set_cons_zero, List.set_cons_succ, i64_w, i32_w]
         rfl
        refine pu_ 12 25 (bm 14 8191) HT_ ?_
        refine pu_ 13 26 (bm 14 16383) HT_ ?_
        refine done_ (done_of HT_.out (by kernel_rfl)) ?_
        (go_wp2)
        go_roundg k1
        case measure => have := HK1.out; omega
        case rel => exact ⟨(wrap64 (x10_1 + 1)), (by rfl), H', ⟨by have := HK1.out; omega⟩, ⟨BK781.out⟩, ⟨HB.out⟩⟩
     ·rw [if_neg c7] at H
      exact absurd H (by simp)
    ·rw [if_neg c6] at H
     exact absurd H (by simp)
   ·rw [if_neg c5] at H
    have c5b0 : decide (x10_1 < (l1.length : Int)) = false := decide_eq_false c5
    clear c5
    by_cases c20 : (l1.length : Int) = (l2.length : Int)
    ·rw [if_pos c20] at H
     have c20b0 : ((l1.length : Int) == (l2.length : Int)) = true := beq_iff_eq.mpr c20
     have c20b1 : ((l1.length : Int) != (l2.length : Int)) = false := bne_eq_false_iff_eq.mpr c20
     have c20b2 : (l1.length == l2.length) = true := by (simp at c20 ⊢; omega)
     clear c20
     obtain ⟨t782, A210, H⟩ := Option.bind_eq_some_iff.mp H
     replace H : (some t782) = some r := H
     have A21 := Aside0.mk A210
     clear A210
     obtain rfl := Option.some.inj H
     have hcz22_0 : wr.cell? ⟨gb781, 0, none⟩ = some (.int .i64 a0_0) := (blk_cell BK781.out 0).trans rfl
     have hcz22_1 : wr.cell? ⟨gb781, 1, none⟩ = some (.int .i64 a0_1) := (blk_cell BK781.out 1).trans rfl
     have hcz22_2 : wr.cell? ⟨gb781, 2, none⟩ = some (.slice A0_2 l0_2.length c0_2) := (blk_cell BK781.out 2).trans rfl
     have hfz22_0 := blk_frozen BK781.out 0
     have hfz22_1 := blk_frozen BK781.out 1
     have hfz22_2 := blk_frozen BK781.out 2
     go_wp2_with ((go_at_call 19; (with_reducible refine (codewrightref38_Different.calls k1 a0_0 a0_1 _ _ l0_2 _ _ l1 t782 _ ?side1 ?side2 ?side3 ?side4 A21.out).mono ?_); (case side1 => repeat ((exact (Kd.C_below HR0_2.out HB.out)))); (case side2 => exact HC0_2.out); (case side3 => repeat ((exact (Kd.C_below HR1.out HB.out)))); (case side4 => exact HC1.out); rintro e w23 ⟨rfl, hb⟩; have n0_ := Aside0.mk (blk_below (g := gb781) (o := .cells #[.int .i64 a0_0, .int .i64 a0_1, .slice A0_2 l0_2.length c0_2] 24 (0, 0)) BK781.out hb); have n1_ := Aside0.mk (below_step HB.out hb); clear BK781; clear HB; have BK781 := n0_; have HB := n1_; clear n0_ n1_; ((clear hb)); (skip); (skip); (skip)))
     go_ret
     exact ⟨by rfl, by exact HB.out⟩
    ·rw [if_neg c20] at H
     have c20b0 : ((l1.length : Int) == (l2.length : Int)) = false := beq_eq_false_iff_ne.mpr c20
     have c20b1 : ((l1.length : Int) != (l2.length : Int)) = true := bne_iff_ne.mpr c20
     have c20b2 : (l1.length == l2.length) = false := by (simp at c20 ⊢; omega)
     obtain rfl := Option.some.inj H
     go_wp2
     go_ret
     exact ⟨by rfl, by exact HB.out⟩
end Go.Proofs.Ytkdakjlopheefaa.PA
end
section
namespace Go.Proofs.Ytkdakjlopheefaa.PA
open Go.RowKit Go.Proofs.YtkdakjlopheefaaW.PrintWords Go.Proofs.YtkdakjlopheefaaW.PrintLast Go.Proofs.YtkdakjlopheefaaW.PrintMore
attribute [local go_sem] max2_int min2_int max_two min_two max_three min_three max_four min_four
set_option linter.unusedVariables false
set_option linter.unusedSimpArgs false
def codewrightref38_Locator.l0 : Nat → List Int → List Int → Int → Int → Int → List Int → Option (List Int)
 | 0, _, _, _, _, _, _ => none
 | k + 1, x1, x5, x6, x787000, x787001, x787002 => if x6 < (x1.length : Int) then (if 0 ≤ x6 then ((codewrightref04_Neg.f k x787000 x787001 x787002 (rd x1 x6)).bind fun t791 => ((codewrightref05_Mul.f k x787000 x787001 x787002 x5 (([1, t791] : List Int))).bind fun t795 => (codewrightref38_Locator.l0 k x1 t795 (wrap64 (x6 + 1)) x787000 x787001 x787002))) else (none)) else (some x5)
def codewrightref38_Locator.f (k : Nat) (a0_0 : Int) (a0_1 : Int) (l0_2 : List Int) (l1 : List Int) : Option (List Int) := codewrightref38_Locator.l0 k l1 (([1] : List Int)) 0 a0_0 a0_1 l0_2
def codewrightref38_Locator.T5 : Bool × List (List Nat × List Nat) := (true, [([], []), ([], []), ([], []), ([], []), ([], []), ([3, 4], [3, 4]), ([5], [5]), ([2, 6], [2, 6]), ([7], [7]), ([0, 1, 8, 7], [0, 1, 8]), ([9, 9, 0, 1, 2, 3, 4, 5, 6, 7, 8, 9], [1, 9])])
def codewrightref38_Locator.B5 : List Nat := [0, 0, 0, 0, 0, 24, 56, 124, 252, 511, 1023]
theorem codewrightref38_Locator.tab5 : rtab .any (opsOf Try.f30 5) = codewrightref38_Locator.T5 := by kernel_rfl
theorem codewrightref38_Locator.bits5 : waitsOk codewrightref38_Locator.T5.2 codewrightref38_Locator.B5 = true := by kernel_rfl
set_option maxHeartbeats 8000000 in
set_option maxRecDepth 100000 in
theorem codewrightref38_Locator.calls (k : Nat) (a0_0 : Int) (a0_1 : Int) (A0_2 : Option Addr) (c0_2 : Nat) (l0_2 : List Int) (A1 : Option Addr) (c1 : Nat) (l1 : List Int) (r : List Int) (w : World) (hr0_2 : Kd.C (Kd.int .i64) w A0_2 l0_2.length l0_2) (hc0_2 : l0_2.length ≤ c0_2) (hr1 : Kd.C (Kd.int .i64) w A1 l1.length l1) (hc1 : l1.length ≤ c1) (h : codewrightref38_Locator.f k a0_0 a0_1 l0_2 l1 = some r) :
  Calls Try.prog 30 #[.agg #[.int .i64 a0_0, .int .i64 a0_1, .slice A0_2 l0_2.length c0_2], .slice A1 l1.length c1] w fun e w' => ∃ v0_ : Value, e = .returned (v0_) ∧ Kd.R (Kd.int .i64) 3 w' w.heap.size (fun _ => True) v0_ r ∧ Below w.heap.size w w' := by
 have hu24 := Try.underlying24
 have HR0_2 := Aside0.mk hr0_2
 have HC0_2 := Aside0.mk hc0_2
 clear hr0_2 hc0_2
 have HR1 := Aside0.mk hr1
 have HC1 := Aside0.mk hc1
 clear hr1 hc1
 have HB := Aside0.mk (Below.refl w.heap.size w)
 have H : (codewrightref38_Locator.l0 k l1 (([1] : List Int)) 0 a0_0 a0_1 l0_2) = some r := h
 clear h
 obtain ⟨y787, hy787⟩ : ∃ y_ : List Int, y_ = (([1] : List Int)) := ⟨_, rfl⟩
 replace H : (codewrightref38_Locator.l0 k l1 y787 0 a0_0 a0_1 l0_2) = some r := by (rw [hy787]; with_reducible exact H)
 have Ny787 := Aside0.mk hy787
 clear hy787
 have H' := Aside0.mk H
 clear H
 go_enter Try.func30, Try.ntmps30
 go_wp2_with (first | ((with_reducible refine gate_dst (N := 2) rfl ?_); refine box_event ?hg (N := 2) ?hd (cs := #[.int .i64 a0_0, .int .i64 a0_1, .slice A0_2 l0_2.length c0_2]) (t := 24) ?hr ?_; (case hd => rfl); (case hg => rfl); (case hr => (go_simp; done)); intro gb786 hg w3 hbox hb; have n0_ := Aside0.mk (below_step HB.out hb); have n1_ := Aside0.mk (hbox); have n2_ := Aside0.mk ((by rw [hg]; exact (below_size HB.out) : w.heap.size ≤ gb786)); have n3_ := Aside0.mk ((by rw [hg]; exact (below_size HB.out) : w.heap.size ≤ gb786)); clear HB; have HB := n0_; have BK786 := n1_; have GW786 := n2_; have GE786 := n3_; clear n0_ n1_ n2_ n3_; clear hb hbox hg) | ((with_reducible refine gate_dst (N := 7) rfl ?_); refine Kd.R_lit (Kd.int .i64) _ 3 ?hg (N := 7) ?hd (xs := ([1] : List Int)) (inner := [.int .i64 1]) (ok := fun _ => True) (okp := fun _ => True) ?hr ?hp (fun _ hk => hk) trivial (Below.refl _ _) (Nat.le_refl _) (by simp) ?_; (case hd => rfl); (case hg => rfl); (case hr => (go_simp; done)); (case hp => exact (Reps.one (show Kd.M (Kd.int .i64) _ _ _ 1 [.int .i64 1] from rfl) (Reps.none _ _))); intro v788 w4 ho5 hb hg_ hnew_; clear hg_ hnew_; ((rw [← Ny787.out] at ho5)); have n0_ := Aside0.mk (Kd.R_lower ho5 (below_size HB.out)); have n1_ := Aside0.mk (blk_below (g := gb786) (o := .cells #[.int .i64 a0_0, .int .i64 a0_1, .slice A0_2 l0_2.length c0_2] 24 (0, 0)) BK786.out hb); have n2_ := Aside0.mk (below_step HB.out hb); clear BK786; clear HB; have HO789 := n0_; have BK786 := n1_; have HB := n2_; clear n0_ n1_ n2_; clear hb ho5))
 go_loopg [5, 6] k (fun kq v5 v6 w' => ∃ (x5_1 : List Int) (x6_1 : Int), v6 = .int .i64 x6_1 ∧ Aside0 (codewrightref38_Locator.l0 kq l1 x5_1 x6_1 a0_0 a0_1 l0_2 = some r) ∧ Aside0 (kq ≤ k) ∧ Aside0 (Kd.R (Kd.int .i64) 3 w' w.heap.size (fun _ => True) v5 x5_1) ∧ Aside0 (w'.heap[gb786]? = some (.cells #[.int .i64 a0_0, .int .i64 a0_1, (.slice A0_2 l0_2.length c0_2)] 24 (0, 0))) ∧ Aside0 (Below w.heap.size w w'))
 case atStart => exact ⟨(y787), (0), (by rfl), H', ⟨Nat.le_refl _⟩, ⟨HO789.out⟩, ⟨BK786.out⟩, ⟨HB.out⟩⟩
 case round =>
  clear H'
  obtain ⟨x5_1, x6_1, rfl, HA, HK1, HO_5, BK786, HB⟩ := hrel
  cases gk with
  | zero => exact absurd HA.out (by simp [codewrightref38_Locator.l0])
  | succ k1 =>
   have H := HA.out
   clear HA
   simp only [codewrightref38_Locator.l0] at H
   by_cases c6 : x6_1 < (l1.length : Int)
   ·rw [if_pos c6] at H
    have c6b0 : decide (x6_1 < (l1.length : Int)) = true := decide_eq_true c6
    clear c6
    by_cases c7 : 0 ≤ x6_1
    ·rw [if_pos c7] at H
     have c7b0 : decide (0 ≤ x6_1) = true := decide_eq_true c7
     clear c7
     obtain ⟨t791, A80, H⟩ := Option.bind_eq_some_iff.mp H
     replace H : ((codewrightref05_Mul.f k1 a0_0 a0_1 l0_2 x5_1 (([1, t791] : List Int))).bind fun t795 => (codewrightref38_Locator.l0 k1 l1 t795 (wrap64 (x6_1 + 1)) a0_0 a0_1 l0_2)) = some r := H
     have A8 := Aside0.mk A80
     clear A80
     obtain ⟨y792, hy792⟩ : ∃ y_ : List Int, y_ = (([1, t791] : List Int)) := ⟨_, rfl⟩
     replace H : ((codewrightref05_Mul.f k1 a0_0 a0_1 l0_2 x5_1 y792).bind fun t795 => (codewrightref38_Locator.l0 k1 l1 t795 (wrap64 (x6_1 + 1)) a0_0 a0_1 l0_2)) = some r := by (rw [hy792]; with_reducible exact H)
     have Ny792 := Aside0.mk hy792
     clear hy792
     obtain ⟨t795, A90, H⟩ := Option.bind_eq_some_iff.mp H
     replace H : (codewrightref38_Locator.l0 k1 l1 t795 (wrap64 (x6_1 + 1)) a0_0 a0_1 l0_2) = some r := H
     have A9 := Aside0.mk A90
     clear A90
     have H' := Aside0.mk H
     clear H
     (go_wp2)
     have n0_ := Aside0.mk (Kd.R_drew HO_5.out)
     have n1_ := Aside0.mk (blk_drew BK786.out)
     have n2_ := Aside0.mk (below_drew1 HB.out)
     clear HO_5 BK786 HB
     have HO_5 := n0_
     have BK786 := n1_
     have HB := n2_
     clear n0_ n1_ n2_
     have p790 : 0 ≤ (x6_1 : Int) := of_decide_eq_true (by (with_reducible assumption))
     have q790 : x6_1 < (l1.length : Int) := of_decide_eq_true (by (with_reducible assumption))
     obtain ⟨ad790, e790, hx790_0⟩ := Kd.at_int HR1.out x6_1 p790 q790
     have hw790_0 := hx790_0
     cases e790
     replace hx790_0 := (HB.out.cell (World.block_lt_of_cell? w _ hx790_0)).trans hx790_0
     replace p790 := eq_true p790
     replace q790 := eq_true q790
     refine start_ (n := 11) (S := fun w' => w'.cell? ⟨gb786, 0, none⟩ = some (.int .i64 a0_0) ∧ w'.cell? ⟨gb786, 1, none⟩ = some (.int .i64 a0_1) ∧ w'.cell? ⟨gb786, 2, none⟩ = some (.slice A0_2 l0_2.length c0_2) ∧ w'.cell? (ad790.add (x6_1).toNat) = some (.int .i64 (rd l1 x6_1))) (ds := []) (bm 11 0) (by kernel_rfl) rfl rfl ⟨(blk_cell BK786.out 0).trans rfl, (blk_cell BK786.out 1).trans rfl, (blk_cell BK786.out 2).trans rfl, ((HB.out.cell (World.block_lt_of_cell? w _ hw790_0)).trans hw790_0)⟩ (fun hHeld => ?_); refine with_tabW codewrightref38_Locator.tab5 codewrightref38_Locator.bits5 (fun HT_ HW_ => ?_)
     generalize wr.drew = w10 at HO_5 BK786 HB hx790_0 hHeld ⊢
     refine pu_ 1 15 (bm 11 2) HT_ ?_
     refine pu_ 3 17 (bm 11 10) HT_ ?_
     refine pu_ 4 18 (bm 11 26) HT_ ?_
     refine pu_ 5 19 (bm 11 58) HT_ ?_
     refine take_ (i := 0) (N := some 14) (v := ?_) (a' := ?_) (bm 11 59) rfl rfl (take_ofW HT_.out HW_.out (by kernel_rfl)) (fun _ _ _ h => h) (Or.inl ⟨by rfl, ?_⟩) hHeld ?_ ?_;rotate_left;(rintro w' ⟨s0, s1, s2, s3⟩;go_simp;with_reducible rfl);rotate_left;(simp only [ps_];rfl)
     refine take_ (i := 2) (N := some 16) (v := ?_) (a' := ?_) (bm 11 63) rfl rfl (take_ofW HT_.out HW_.out (by kernel_rfl)) (fun _ _ _ h => h) (Or.inl ⟨by rfl, ?_⟩) hHeld ?_ ?_;rotate_left;(rintro w' ⟨s0, s1, s2, s3⟩;go_simp;with_reducible rfl);rotate_left;(simp only [ps_];rfl)
     refine take_ (i := 6) (N := some 20) (v := ?_) (a' := ?_) (bm 11 127) rfl rfl (take_ofW HT_.out HW_.out (by kernel_rfl)) (fun _ _ _ h => h) (Or.inl ⟨by rfl, ?_⟩) hHeld ?_ ?_;rotate_left;(rintro w' ⟨s0, s1, s2, s3⟩;go_simp;with_reducible rfl);rotate_left;(simp only [ps_];rfl)
     refine one_ (i := 7) (N := some 21) (bm 11 255) rfl rfl (one_of HT_.out (by kernel_rfl)) (by decide) (fun K hK => ?_)
     refine goes_ Try.func59 (by kernel_rfl) rfl #[.agg #[.int .i64 a0_0, .int .i64 a0_1, .slice A0_2 l0_2.length c0_2], .int .i64 (rd l1 x6_1)] (by rfl) rfl rfl (by ((simp only [List.map_toArray, List.map_cons, List.map_nil])); (rfl)) ?_
     with_reducible refine (codewrightref04_Neg.calls k1 a0_0 a0_1 _ _ l0_2 (rd l1 x6_1) t791 _ ?side1 ?side2 A8.out).mono ?_
     (case side1 => repeat ((exact (Kd.C_below HR0_2.out HB.out))))
     (case side2 => exact HC0_2.out)
     rintro e w11 ⟨rfl, hb⟩
     refine ⟨_, rfl, ?_⟩
     have n0_ := Aside0.mk (Kd.R_below HO_5.out hb)
     have n1_ := Aside0.mk (blk_below (g := gb786) (o := .cells #[.int .i64 a0_0, .int .i64 a0_1, .slice A0_2 l0_2.length c0_2] 24 (0, 0)) BK786.out hb)
     have n2_ := Aside0.mk (below_step HB.out hb)
     clear HO_5 BK786 HB
     have HO_5 := n0_
     have BK786 := n1_
     have HB := n2_
     clear n0_ n1_ n2_
     ((clear hb))
     refine hK.out _ _ ⟨(blk_cell BK786.out 0).trans rfl, (blk_cell BK786.out 1).trans rfl, (blk_cell BK786.out 2).trans rfl, ((HB.out.cell (World.block_lt_of_cell? w _ hw790_0)).trans hw790_0)⟩ (fun hHeld => ?_)
     clear hK K
     refine norm_ (a' := ?_) ?_ ?_
     rotate_left
     ·show Act.put _ (some 21) _ = _
      simp only [Act.put, List.setIfInBounds_toArray, List.set_cons_zero, List.set_cons_succ, i64_w, i32_w]
      rfl
     refine one_ (i := 8) (N := some 22) (bm 11 511) rfl rfl (one_of HT_.out (by kernel_rfl)) (by decide) (fun K hK => ?_)
     refine Kd.R_lit_step (Kd.int .i64) _ 3 ?hg (N := 22) ?hd (xs := ([1, t791] : List Int)) (inner := [.int .i64 1, .int .i64 t791]) (ok := fun _ => True) (okp := fun _ => True) ?hr ?hp (fun _ hk => hk) trivial (Below.refl _ _) (Nat.le_refl _) (by simp) ?_; (case hd => rfl); (case hg => rfl); (case hr => (go_simp; done)); (case hp => exact (Reps.one (show Kd.M (Kd.int .i64) _ _ _ 1 [.int .i64 1] from rfl) (Reps.one (show Kd.M (Kd.int .i64) _ _ _ t791 [.int .i64 t791] from rfl) (Reps.none _ _))))
     intro v793 w12 ho13 hb hg_ hnew_
     clear hg_ hnew_
     ((rw [← Ny792.out] at ho13))
     have n0_ := Aside0.mk (Kd.R_elder' HO_5.out (Kd.R_base ho13) hb)
     have n1_ := Aside0.mk (Kd.R_lower (Kd.R_new' ho13 (Kd.R_lt HO_5.out)) (below_size HB.out))
     have n2_ := Aside0.mk (blk_below (g := gb786) (o := .cells #[.int .i64 a0_0, .int .i64 a0_1, .slice A0_2 l0_2.length c0_2] 24 (0, 0)) BK786.out hb)
     have n3_ := Aside0.mk (below_step HB.out hb)
     clear HO_5 BK786 HB
     have HO_5 := n0_
     have HO794 := n1_
     have BK786 := n2_
     have HB := n3_
     clear n0_ n1_ n2_ n3_ hb ho13
     obtain ⟨Ao14, co14, eo14⟩ := Kd.R_slice HO_5.out
     ((subst eo14))
     obtain ⟨Ao15, co15, eo15⟩ := Kd.R_slice HO794.out
     ((subst eo15))
     refine hK.out _ _ ⟨(blk_cell BK786.out 0).trans rfl, (blk_cell BK786.out 1).trans rfl, (blk_cell BK786.out 2).trans rfl, ((HB.out.cell (World.block_lt_of_cell? w _ hw790_0)).trans hw790_0)⟩ (fun hHeld => ?_)
     clear hK K
     refine norm_ (a' := ?_) ?_ ?_
     rotate_left
     ·show Act.put _ (some 22) _ = _
      simp only [Act.put, List.setIfInBounds_toArray, List.set_cons_zero, List.set_cons_succ, i64_w, i32_w]
      rfl
     refine one_ (i := 9) (N := some 23) (bm 11 1023) rfl rfl (one_of HT_.out (by kernel_rfl)) (by decide) (fun K hK => ?_)
     refine goes_ Try.func28 (by kernel_rfl) rfl #[.agg #[.int .i64 a0_0, .int .i64 a0_1, .slice A0_2 l0_2.length c0_2], .slice Ao14 x5_1.length co14, .slice Ao15 y792.length co15] (by rfl) rfl rfl (by ((simp only [List.map_toArray, List.map_cons, List.map_nil])); (rfl)) ?_
     with_reducible refine (codewrightref05_Mul.calls k1 a0_0 a0_1 _ _ l0_2 _ _ x5_1 _ _ y792 t795 _ ?side1 ?side2 ?side3 ?side4 ?side5 ?side6 A9.out).mono ?_
     (case side1 => repeat ((exact (Kd.C_below HR0_2.out HB.out))))
     (case side2 => exact HC0_2.out)
     (case side3 => repeat ((exact (Kd.R_reads' HO_5.out).2.2)))
     (case side4 => exact (Kd.R_reads' HO_5.out).2.1)
     (case side5 => repeat ((exact (Kd.R_reads' HO794.out).2.2)))
     (case side6 => exact (Kd.R_reads' HO794.out).2.1)
     rintro e w16 ⟨v796, rfl, ho0, hb⟩
     refine ⟨_, rfl, ?_⟩
     have n0_ := Aside0.mk (Kd.R_elder' HO_5.out (Kd.R_base ho0) hb)
     have n1_ := Aside0.mk (Kd.R_elder' HO794.out (Kd.R_base ho0) hb)
     have n2_ := Aside0.mk (Kd.R_lower (Kd.R_new' (Kd.R_new' ho0 (Kd.R_lt HO_5.out)) (Kd.R_lt HO794.out)) (below_size HB.out))
     have n3_ := Aside0.mk (blk_below (g := gb786) (o := .cells #[.int .i64 a0_0, .int .i64 a0_1, .slice A0_2 l0_2.length c0_2] 24 (0, 0)) BK786.out hb)
     have n4_ := Aside0.mk (below_step HB.out hb)
     clear HO_5 HO794 BK786 HB
     have HO_5 := n0_
     have HO794 := n1_
     have HO797 := n2_
     have BK786 := n3_
     have HB := n4_
     clear n0_ n1_ n2_ n3_ n4_
     ((clear hb))
     ((clear ho0))
     refine hK.out _ _ ⟨(blk_cell BK786.out 0).trans rfl, (blk_cell BK786.out 1).trans rfl, (blk_cell BK786.out 2).trans rfl, ((HB.out.cell (World.block_lt_of_cell? w _ hw790_0)).trans hw790_0)⟩ (fun hHeld => ?_)
     clear hK K
     refine norm_ (a' := ?_) ?_ ?_
     rotate_left
     ·show Act.put _ (some 23) _ = _
      simp only [Act.put, List.setIfInBounds_toArray, List.set_cons_zero, List.set_cons_succ, i64_w, i32_w]
      rfl
     refine pu_ 10 5 (bm 11 2047) HT_ ?_
     refine done_ (done_of HT_.out (by kernel_rfl)) ?_
     (go_wp2)
     go_roundg k1
     case measure => have := HK1.out; omega
     case rel => exact ⟨(t795), (wrap64 (x6_1 + 1)), (by rfl), H', ⟨by have := HK1.out; omega⟩, ⟨by exact Kd.R_mono HO797.out (fun _ hk => trivial)⟩, ⟨BK786.out⟩, ⟨HB.out⟩⟩
    ·rw [if_neg c7] at H
     exact absurd H (by simp)
   ·rw [if_neg c6] at H
    have c6b0 : decide (x6_1 < (l1.length : Int)) = false := decide_eq_false c6
    clear c6
    obtain rfl := Option.some.inj H
    go_wp2
    go_ret
    exact ⟨_, by rfl, by exact HO_5.out, by exact HB.out⟩
end Go.Proofs.Ytkdakjlopheefaa.PA
end
section
namespace Go.Proofs.Ytkdakjlopheefaa.PA
open Go.RowKit Go.Proofs.YtkdakjlopheefaaW.PrintWords Go.Proofs.YtkdakjlopheefaaW.PrintLast Go.Proofs.YtkdakjlopheefaaW.PrintMore
attribute [local go_sem] max2_int min2_int max_two min_two max_three min_three max_four min_four
set_option linter.unusedVariables false
set_option linter.unusedSimpArgs false
end Go.Proofs.Ytkdakjlopheefaa.PA
end
section
namespace Go.Proofs.Ytkdakjlopheefaa.PA
open Go.RowKit Go.Proofs.YtkdakjlopheefaaW.PrintWords Go.Proofs.YtkdakjlopheefaaW.PrintLast Go.Proofs.YtkdakjlopheefaaW.PrintMore
attribute [local go_sem] max2_int min2_int max_two min_two max_three min_three max_four min_four
set_option linter.unusedVariables false
set_option linter.unusedSimpArgs false
end Go.Proofs.Ytkdakjlopheefaa.PA
end
section
namespace Go.Proofs.Ytkdakjlopheefaa.PA
open Go.RowKit Go.Proofs.YtkdakjlopheefaaW.PrintWords Go.Proofs.YtkdakjlopheefaaW.PrintLast Go.Proofs.YtkdakjlopheefaaW.PrintMore
theorem Ev.succ {α : Type} {g : Nat → Option α} {r : α} (h : Ev (fun k => g (k + 1)) r) : Ev g r := Ev.step (fun _ => rfl) h
theorem Ev.ifp {α : Type} {c : Prop} [Decidable c] {f g : Nat → Option α} {r : α} (h : c) (e : Ev f r) : Ev (fun k => if c then f k else g k) r := by simp only [if_pos h]; exact e
theorem Ev.ifn {α : Type} {c : Prop} [Decidable c] {f g : Nat → Option α} {r : α} (h : ¬ c) (e : Ev g r) : Ev (fun k => if c then f k else g k) r := by simp only [if_neg h]; exact e
theorem Ev.val {α : Type} {a r : α} (h : a = r) : Ev (fun _ => some a) r := h ▸ Ev.now a
theorem Ev.some_bind {α β : Type} {a : α} {f : Nat → α → Option β} {r : β} (h : Ev (fun k => f k a) r) : Ev (fun k => (some a).bind (f k)) r := h
theorem Ev.opt_bind {α β : Type} {o : Option α} {a : α} {f : Nat → α → Option β} {r : β} (h0 : o = some a) (h : Ev (fun k => f k a) r) : Ev (fun k => o.bind (f k)) r := by subst h0; exact h
theorem w64 {n : Int} (h : -4000000000000000000 ≤ n ∧ n ≤ 4000000000000000000) : wrap64 n = n := by unfold wrap64; omega
theorem rd_nat (xs : List Int) (j : Nat) : rd xs (j : Int) = xs.getD j 0 := by unfold rd; rw [Int.toNat_natCast]
theorem rd_set (xs : List Int) (i j : Nat) (v : Int) (h : i < xs.length) : (xs.set i v).getD j 0 = if i = j then v else xs.getD j 0 := by
  rw [List.getD_eq_getElem?_getD, List.getElem?_set]
  split
  · rename_i e; subst e; simp [h]
  · rw [List.getD_eq_getElem?_getD]
theorem tdiv_pos {a b : Int} (h : 0 ≤ a) : Int.tdiv a b = a / b := Int.tdiv_eq_ediv_of_nonneg h
theorem tmod_pos {a b : Int} (h : 0 ≤ a) : Int.tmod a b = a % b := Int.tmod_eq_emod_of_nonneg h
theorem getD_nat_lt (xs : List Int) (j : Nat) (h : xs.length ≤ j) : xs.getD j 0 = 0 := by
  rw [List.getD_eq_getElem?_getD, List.getElem?_eq_none h]; rfl
theorem getD_zeros (n j : Nat) : (List.replicate n (0 : Int)).getD j 0 = 0 := by
  rw [List.getD_eq_getElem?_getD, List.getElem?_replicate]; split <;> rfl
end Go.Proofs.Ytkdakjlopheefaa.PA
end
