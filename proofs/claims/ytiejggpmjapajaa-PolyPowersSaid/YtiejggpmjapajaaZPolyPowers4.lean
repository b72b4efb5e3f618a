/- Proved: for every input the law PolyPowers returns true and leaves its arguments as they were; no conditions. Part 5 of 6 of the proof. -/
import Derived.Test.YtiejggpmjapajaaZPolyPowers3
import Derived.WalkSpells
import Derived.Deep.RegionLaw
import Derived.Deep.RegionHeldLaw
import Derived.Deep.DeepFit
set_option linter.unusedSectionVars false
set_option linter.unusedSimpArgs false
set_option linter.unusedVariables false
section
namespace Go.Proofs.Ytiejggpmjapajaa.PA
open Go.RowKit Go.Proofs.YtiejggpmjapajaaW.PrintWords Go.Proofs.YtiejggpmjapajaaW.PrintLast Go.Proofs.YtiejggpmjapajaaW.PrintMore
attribute [local go_sem] max2_int min2_int max_two min_two max_three min_three max_four min_four
set_option linter.unusedVariables false
set_option linter.unusedSimpArgs false
def codewrightref04_Neg.l0 : Nat → List Int → Int → Int → Int → List Int → Option (Int)
 | 0, _, _, _, _, _ => none
 | k + 1, x5, x6, x496000, x496001, x496002 => if x6 < (x5.length : Int) then (if 0 ≤ x6 then (if x496000 = 0 then (none) else (codewrightref04_Neg.l0 k (x5.set (x6 : Int).toNat (Int.tmod (wrap64 (x496000 - (rd x5 x6))) x496000)) (wrap64 (x6 + 1)) x496000 x496001 x496002)) else (none)) else ((codewrightref04_Value.f k x496000 x496001 x496002 x5).bind fun t501 => (some t501))
def codewrightref04_Neg.f (k : Nat) (a0_0 : Int) (a0_1 : Int) (l0_2 : List Int) (a1 : Int) : Option (Int) := (codewrightref04_Digits.f k a0_0 a0_1 l0_2 a1).bind fun t496 => (codewrightref04_Neg.l0 k t496 0 a0_0 a0_1 l0_2)
def codewrightref04_Neg.T5 : Bool × List (List Nat × List Nat) := (true, [([], []), ([], []), ([], []), ([2], [2]), ([], []), ([], []), ([4, 5], [4, 5]), ([6], [6]), ([3, 7], [3, 7]), ([], []), ([9], [9]), ([8, 10], [8, 10]), ([0, 1, 0, 1, 2, 3, 4, 5, 6, 7, 8, 9, 10, 11], [0, 1]), ([12, 11, 0, 1, 2, 3, 4, 5, 6, 7, 8, 9, 10, 11], [11, 12])])
def codewrightref04_Neg.B5 : List Nat := [0, 0, 0, 4, 0, 0, 48, 112, 252, 0, 512, 2044, 4095, 8191]
theorem codewrightref04_Neg.tab5 : rtab .any (opsOf Try.f84 5) = codewrightref04_Neg.T5 := by kernel_rfl
theorem codewrightref04_Neg.bits5 : waitsOk codewrightref04_Neg.T5.2 codewrightref04_Neg.B5 = true := by kernel_rfl
set_option maxHeartbeats 8000000 in
set_option maxRecDepth 100000 in
theorem codewrightref04_Neg.calls (k : Nat) (a0_0 : Int) (a0_1 : Int) (A0_2 : Option Addr) (c0_2 : Nat) (l0_2 : List Int) (a1 : Int) (r : Int) (w : World) (hr0_2 : Kd.C (Kd.int .i64) w A0_2 l0_2.length l0_2) (hc0_2 : l0_2.length ≤ c0_2) (h : codewrightref04_Neg.f k a0_0 a0_1 l0_2 a1 = some r) :
  Calls Try.prog 84 #[.agg #[.int .i64 a0_0, .int .i64 a0_1, .slice A0_2 l0_2.length c0_2], .int .i64 a1] w fun e w' => e = .returned (.int .i64 r) ∧ Below w.heap.size w w' := by
 have hu24 := Try.underlying24
 have HR0_2 := Aside0.mk hr0_2
 have HC0_2 := Aside0.mk hc0_2
 clear hr0_2 hc0_2
 have HB := Aside0.mk (Below.refl w.heap.size w)
 have H : ((codewrightref04_Digits.f k a0_0 a0_1 l0_2 a1).bind fun t496 => (codewrightref04_Neg.l0 k t496 0 a0_0 a0_1 l0_2)) = some r := h
 clear h
 obtain ⟨t496, A30, H⟩ := Option.bind_eq_some_iff.mp H
 replace H : (codewrightref04_Neg.l0 k t496 0 a0_0 a0_1 l0_2) = some r := H
 have A3 := Aside0.mk A30
 clear A30
 have H' := Aside0.mk H
 clear H
 go_enter Try.func84, Try.ntmps84
 go_wp2_with (first | ((with_reducible refine gate_dst (N := 2) rfl ?_); refine box_event ?hg (N := 2) ?hd (cs := #[.int .i64 a0_0, .int .i64 a0_1, .slice A0_2 l0_2.length c0_2]) (t := 24) ?hr ?_; (case hd => rfl); (case hg => rfl); (case hr => (go_simp; done)); intro gb495 hg w4 hbox hb; have n0_ := Aside0.mk (below_step HB.out hb); have n1_ := Aside0.mk (hbox); have n2_ := Aside0.mk ((by rw [hg]; exact (below_size HB.out) : w.heap.size ≤ gb495)); have n3_ := Aside0.mk ((by rw [hg]; exact (below_size HB.out) : w.heap.size ≤ gb495)); clear HB; have HB := n0_; have BK495 := n1_; have GW495 := n2_; have GE495 := n3_; clear n0_ n1_ n2_ n3_; clear hb hbox hg; have hcz5_0 : w4.cell? ⟨gb495, 0, none⟩ = some (.int .i64 a0_0) := (blk_cell BK495.out 0).trans rfl; have hcz5_1 : w4.cell? ⟨gb495, 1, none⟩ = some (.int .i64 a0_1) := (blk_cell BK495.out 1).trans rfl; have hcz5_2 : w4.cell? ⟨gb495, 2, none⟩ = some (.slice A0_2 l0_2.length c0_2) := (blk_cell BK495.out 2).trans rfl; have hfz5_0 := blk_frozen BK495.out 0; have hfz5_1 := blk_frozen BK495.out 1; have hfz5_2 := blk_frozen BK495.out 2) | ((with_reducible refine gate_callee (f := 72) rfl ?_); refine goesL_ (some 9) rfl rfl Try.func72 (by kernel_rfl) rfl #[.agg #[.int .i64 a0_0, .int .i64 a0_1, .slice A0_2 l0_2.length c0_2], .int .i64 a1] rfl (by ((simp only [List.map_toArray, List.map_cons, List.map_nil])); (rfl)) ?_; (with_reducible refine (codewrightref04_Digits.calls k a0_0 a0_1 _ _ l0_2 a1 t496 _ ?side1 ?side2 A3.out).mono ?_); (case side1 => repeat ((exact (Kd.C_below HR0_2.out HB.out)))); (case side2 => exact HC0_2.out); rintro e w6 ⟨v497, rfl, ho0, hb⟩; refine ⟨_, rfl, ?_⟩; have n0_ := Aside0.mk (Kd.R_lower ho0 (below_size HB.out)); have n1_ := Aside0.mk (blk_below (g := gb495) (o := .cells #[.int .i64 a0_0, .int .i64 a0_1, .slice A0_2 l0_2.length c0_2] 24 (0, 0)) BK495.out hb); have n2_ := Aside0.mk (below_step HB.out hb); clear BK495; clear HB; have HO498 := n0_; have BK495 := n1_; have HB := n2_; clear n0_ n1_ n2_; ((clear hb)); (skip); (skip); (skip); ((clear ho0))))
 go_loopg [6] k (fun kq v6 w' => ∃ (x5_1 : List Int) (x6_1 : Int), v6 = .int .i64 x6_1 ∧ Aside0 (codewrightref04_Neg.l0 kq x5_1 x6_1 a0_0 a0_1 l0_2 = some r) ∧ Aside0 (kq ≤ k) ∧ Aside0 (Kd.R (Kd.int .i64) 3 w' w.heap.size (fun _ => True) v497 x5_1) ∧ Aside0 (w'.heap[gb495]? = some (.cells #[.int .i64 a0_0, .int .i64 a0_1, (.slice A0_2 l0_2.length c0_2)] 24 (0, 0))) ∧ Aside0 (Below w.heap.size w w'))
 case atStart => exact ⟨(t496), (0), (by rfl), H', ⟨Nat.le_refl _⟩, ⟨HO498.out⟩, ⟨BK495.out⟩, ⟨by exact HB.out⟩⟩
 case round =>
  clear H' hcz5_0 hcz5_1 hcz5_2 hfz5_0 hfz5_1 hfz5_2
  obtain ⟨x5_1, x6_1, rfl, HA, HK1, HO_5, BK495, HB⟩ := hrel
  cases gk with
  | zero => exact absurd HA.out (by simp [codewrightref04_Neg.l0])
  | succ k1 =>
   have H := HA.out
   clear HA
   simp only [codewrightref04_Neg.l0] at H
   by_cases c7 : x6_1 < (x5_1.length : Int)
   ·rw [if_pos c7] at H
    have c7b0 : decide (x6_1 < (x5_1.length : Int)) = true := decide_eq_true c7
    clear c7
    by_cases c8 : 0 ≤ x6_1
    ·rw [if_pos c8] at H
     have c8b0 : decide (0 ≤ x6_1) = true := decide_eq_true c8
     clear c8
     by_cases c9 : a0_0 = 0
     ·rw [if_pos c9] at H
      exact absurd H (by simp)
     ·rw [if_neg c9] at H
      have c9b0 : (a0_0 == 0) = false := beq_eq_false_iff_ne.mpr c9
      have c9b1 : (a0_0 != 0) = true := bne_iff_ne.mpr c9
      obtain ⟨y500, hy500⟩ : ∃ y_ : List Int, y_ = (x5_1.set (x6_1 : Int).toNat (Int.tmod (wrap64 (a0_0 - (rd x5_1 x6_1))) a0_0)) := ⟨_, rfl⟩
      replace H : (codewrightref04_Neg.l0 k1 y500 (wrap64 (x6_1 + 1)) a0_0 a0_1 l0_2) = some r := by (rw [hy500]; with_reducible exact H)
      have Ny500 := Aside0.mk hy500
      clear hy500
      have H' := Aside0.mk H
      clear H
      obtain ⟨Ao11, co11, eo11⟩ := Kd.R_slice HO_5.out
      subst eo11
      (go_wp2)
      have n0_ := Aside0.mk (Kd.R_drew HO_5.out)
      have n1_ := Aside0.mk (blk_drew BK495.out)
      have n2_ := Aside0.mk (below_drew1 HB.out)
      clear HO_5 BK495 HB
      have HO_5 := n0_
      have BK495 := n1_
      have HB := n2_
      clear n0_ n1_ n2_
      have p499 : 0 ≤ (x6_1 : Int) := of_decide_eq_true (by (with_reducible assumption))
      have q499 : x6_1 < (x5_1.length : Int) := of_decide_eq_true (by (with_reducible assumption))
      obtain ⟨ad499, e499, hx499_0⟩ := Kd.at_int (Kd.R_reads' HO_5.out).2.2 x6_1 p499 q499
      cases e499
      replace p499 := eq_true p499
      replace q499 := eq_true q499
      have p10 : 0 ≤ (x6_1 : Int) := of_decide_eq_true (by (with_reducible assumption))
      have q10 : (x6_1 : Int) < ((x5_1.length : Int) : Int) := of_decide_eq_true (by (with_reducible assumption))
      obtain ⟨go10, co10, eo10, gb10, gl10, cl10, HG10⟩ := Kd.R_form HO_5.out (by omega)
      ((cases eo10))
      have GB10 := Aside0.mk gb10
      have GG10 := Aside0.mk HG10
      clear gb10 gl10 HG10
      ((simp only [add_plain] at hx499_0))
      obtain ⟨hx10_0, hf10_0⟩ := Kd.R_celln 0 HO_5.out (x6_1 : Int) p10 q10
      replace p10 := eq_true p10
      replace q10 := eq_true q10
      have HP13 := Kd.R_putn HO_5.out (x6_1 : Int) (Int.tmod (wrap64 (a0_0 - (rd x5_1 x6_1))) a0_0)
      rw [← Ny500.out] at HP13
      have HQ13 := Aside0.mk HP13
      clear HP13
      refine start_ (n := 14) (S := fun w' => w'.cell? ⟨gb495, 0, none⟩ = some (.int .i64 a0_0) ∧ w'.cell? ⟨gb495, 1, none⟩ = some (.int .i64 a0_1) ∧ w'.cell? ⟨gb495, 2, none⟩ = some (.slice A0_2 l0_2.length c0_2) ∧ w'.cell? ⟨go10, (x6_1).toNat, none⟩ = some (.int .i64 (rd x5_1 x6_1))) (ds := [13]) (bm 14 0) (by kernel_rfl) rfl rfl ⟨(blk_cell BK495.out 0).trans rfl, (blk_cell BK495.out 1).trans rfl, (blk_cell BK495.out 2).trans rfl, hx499_0⟩ (fun hHeld => ?_); refine with_tabW codewrightref04_Neg.tab5 codewrightref04_Neg.bits5 (fun HT_ HW_ => ?_)
      generalize wr.drew = w12 at HO_5 BK495 HB GG10 HQ13 hf10_0 hx10_0 hx499_0 hHeld ⊢
      refine pure_ (i := 0) (N := some 16) (v := ?_) (a' := ?_) (bm 14 1) rfl rfl (any_of HT_.out (by kernel_rfl)) (fun _ _ _ h => h) (Or.inl ⟨by rfl, ?_⟩) ?_ ?_;rotate_left;(intro w';go_simp;with_reducible rfl);rotate_left;(simp only [ps_];rfl)
      refine pure_ (i := 1) (N := some 17) (v := ?_) (a' := ?_) (bm 14 3) rfl rfl (any_of HT_.out (by kernel_rfl)) (fun _ _ _ h => h) (Or.inl ⟨by rfl, ?_⟩) ?_ ?_;rotate_left;(intro w';go_simp;with_reducible rfl);rotate_left;(simp only [ps_];rfl)
      refine pure_ (i := 2) (N := some 18) (v := ?_) (a' := ?_) (bm 14 7) rfl rfl (any_of HT_.out (by kernel_rfl)) (fun _ _ _ h => h) (Or.inl ⟨by rfl, ?_⟩) ?_ ?_;rotate_left;(intro w';go_simp;with_reducible rfl);rotate_left;(simp only [ps_];rfl)
      refine pure_ (i := 4) (N := some 20) (v := ?_) (a' := ?_) (bm 14 23) rfl rfl (any_of HT_.out (by kernel_rfl)) (fun _ _ _ h => h) (Or.inl ⟨by rfl, ?_⟩) ?_ ?_;rotate_left;(intro w';go_simp;with_reducible rfl);rotate_left;(simp only [ps_];rfl)
      refine pure_ (i := 5) (N := some 21) (v := ?_) (a' := ?_) (bm 14 55) rfl rfl (any_of HT_.out (by kernel_rfl)) (fun _ _ _ h => h) (Or.inl ⟨by rfl, ?_⟩) ?_ ?_;rotate_left;(intro w';go_simp;with_reducible rfl);rotate_left;(simp only [ps_];rfl)
      refine pure_ (i := 6) (N := some 22) (v := ?_) (a' := ?_) (bm 14 119) rfl rfl (any_of HT_.out (by kernel_rfl)) (fun _ _ _ h => h) (Or.inl ⟨by rfl, ?_⟩) ?_ ?_;rotate_left;(intro w';go_simp;with_reducible rfl);rotate_left;(simp only [ps_];rfl)
      refine pure_ (i := 9) (N := some 25) (v := ?_) (a' := ?_) (bm 14 631) rfl rfl (any_of HT_.out (by kernel_rfl)) (fun _ _ _ h => h) (Or.inl ⟨by rfl, ?_⟩) ?_ ?_;rotate_left;(intro w';go_simp;with_reducible rfl);rotate_left;(simp only [ps_];rfl)
      refine take_ (i := 3) (N := some 19) (v := ?_) (a' := ?_) (bm 14 639) rfl rfl (take_ofW HT_.out HW_.out (by kernel_rfl)) (fun _ _ _ h => h) (Or.inl ⟨by rfl, ?_⟩) hHeld ?_ ?_;rotate_left;(rintro w' ⟨s0, s1, s2, s3⟩;go_simp;with_reducible rfl);rotate_left;(simp only [ps_];rfl)
      refine take_ (i := 7) (N := some 23) (v := ?_) (a' := ?_) (bm 14 767) rfl rfl (take_ofW HT_.out HW_.out (by kernel_rfl)) (fun _ _ _ h => h) (Or.inl ⟨by rfl, ?_⟩) hHeld ?_ ?_;rotate_left;(rintro w' ⟨s0, s1, s2, s3⟩;go_simp;with_reducible rfl);rotate_left;(simp only [ps_];rfl)
      refine pure_ (i := 8) (N := some 24) (v := ?_) (a' := ?_) (bm 14 1023) rfl rfl (any_of HT_.out (by kernel_rfl)) (fun _ _ _ h => h) (Or.inl ⟨by rfl, ?_⟩) ?_ ?_;rotate_left;(intro w';go_simp;with_reducible rfl);rotate_left;(simp only [ps_];rfl)
      refine take_ (i := 10) (N := some 26) (v := ?_) (a' := ?_) (bm 14 2047) rfl rfl (take_ofW HT_.out HW_.out (by kernel_rfl)) (fun _ _ _ h => h) (Or.inl ⟨by rfl, ?_⟩) hHeld ?_ ?_;rotate_left;(rintro w' ⟨s0, s1, s2, s3⟩;go_simp;with_reducible rfl);rotate_left;(simp only [ps_];rfl)
      refine pure_ (i := 11) (N := some 27) (v := ?_) (a' := ?_) (bm 14 4095) rfl rfl (any_of HT_.out (by kernel_rfl)) (fun _ _ _ h => h) (Or.inl ⟨by rfl, ?_⟩) ?_ ?_;rotate_left;(intro w';go_simp;with_reducible rfl);rotate_left;(simp only [ps_];rfl)
      refine pure_ (i := 12) (N := some 28) (v := ?_) (a' := ?_) (bm 14 8191) rfl rfl (any_of HT_.out (by kernel_rfl)) (fun _ _ _ h => h) (Or.inl ⟨by rfl, ?_⟩) ?_ ?_;rotate_left;(intro w';go_simp;with_reducible rfl);rotate_left;(simp only [ps_];rfl)
      refine last_ (i := 13) (N := none) (bm 14 16383) rfl rfl (one_of HT_.out (by kernel_rfl)) (by decide) (fun K hK => ?_)
      refine skip_ (w1 := ?_) (by rfl) rfl ?_ ?_
      rotate_left
      ·go_simp
       rfl
      refine hK.out _ _ ?_
      clear hK K
      refine done_ (done_of HT_.out (by kernel_rfl)) ?_
      (go_wp2)
      go_roundg k1
      case measure => have := HK1.out; omega
      case rel => exact ⟨(y500), (wrap64 (x6_1 + 1)), (by rfl), H', ⟨by have := HK1.out; omega⟩, ⟨HQ13.out⟩, ⟨by (with_reducible repeat (fail)); refine blk_far ?_ (by have h_ := Kd.R_ne HO_5.out BK495.out (by decide); intro e_; exact h_ (by rw [e_]; rfl)) _; (with_reducible repeat (fail)); exact BK495.out⟩, ⟨by repeat ((with_reducible first | (exact HB.out) | (refine below_set ?_ GB10.out)))⟩⟩
    ·rw [if_neg c8] at H
     exact absurd H (by simp)
   ·rw [if_neg c7] at H
    have c7b0 : decide (x6_1 < (x5_1.length : Int)) = false := decide_eq_false c7
    clear c7
    obtain ⟨t501, A140, H⟩ := Option.bind_eq_some_iff.mp H
    replace H : (some t501) = some r := H
    have A14 := Aside0.mk A140
    clear A140
    obtain rfl := Option.some.inj H
    obtain ⟨Ao15, co15, eo15⟩ := Kd.R_slice HO_5.out
    subst eo15
    have hcz16_0 : wr.cell? ⟨gb495, 0, none⟩ = some (.int .i64 a0_0) := (blk_cell BK495.out 0).trans rfl
    have hcz16_1 : wr.cell? ⟨gb495, 1, none⟩ = some (.int .i64 a0_1) := (blk_cell BK495.out 1).trans rfl
    have hcz16_2 : wr.cell? ⟨gb495, 2, none⟩ = some (.slice A0_2 l0_2.length c0_2) := (blk_cell BK495.out 2).trans rfl
    have hfz16_0 := blk_frozen BK495.out 0
    have hfz16_1 := blk_frozen BK495.out 1
    have hfz16_2 := blk_frozen BK495.out 2
    go_wp2_with (((with_reducible refine gate_callee (f := 73) rfl ?_); refine goesL_ (some 31) rfl rfl Try.func73 (by kernel_rfl) rfl #[.agg #[.int .i64 a0_0, .int .i64 a0_1, .slice A0_2 l0_2.length c0_2], .slice Ao15 x5_1.length co15] rfl (by ((simp only [List.map_toArray, List.map_cons, List.map_nil])); (rfl)) ?_; (with_reducible refine (codewrightref04_Value.calls k1 a0_0 a0_1 _ _ l0_2 _ _ x5_1 t501 _ ?side1 ?side2 ?side3 ?side4 A14.out).mono ?_); (case side1 => repeat ((exact (Kd.C_below HR0_2.out HB.out)))); (case side2 => exact HC0_2.out); (case side3 => repeat ((exact (Kd.R_reads' HO_5.out).2.2))); (case side4 => exact (Kd.R_reads' HO_5.out).2.1); rintro e w17 ⟨rfl, hb⟩; refine ⟨_, rfl, ?_⟩; have n0_ := Aside0.mk (Kd.R_below HO_5.out hb); have n1_ := Aside0.mk (blk_below (g := gb495) (o := .cells #[.int .i64 a0_0, .int .i64 a0_1, .slice A0_2 l0_2.length c0_2] 24 (0, 0)) BK495.out hb); have n2_ := Aside0.mk (below_step HB.out hb); clear HO_5; clear BK495; clear HB; have HO_5 := n0_; have BK495 := n1_; have HB := n2_; clear n0_ n1_ n2_; ((clear hb)); (skip); (skip); (skip)))
    go_ret
    exact ⟨by rfl, by exact HB.out⟩
def codewrightref05_Sub.f (k : Nat) (a0_0 : Int) (a0_1 : Int) (l0_2 : List Int) (l1 : List Int) (l2 : List Int) : Option (List Int) := (codewrightref04_Neg.f k a0_0 a0_1 l0_2 1).bind fun t503 => ((codewrightref05_Scale.f k a0_0 a0_1 l0_2 t503 l2).bind fun t504 => ((codewrightref05_Add.f k a0_0 a0_1 l0_2 l1 t504).bind fun t507 => (some t507)))
def codewrightref05_Sub.T1 : Bool × List (List Nat × List Nat) := (true, [([], []), ([], []), ([], []), ([], []), ([3], [3]), ([], []), ([2, 4, 5, 4], [2, 4, 5]), ([0, 1, 6, 6], [0, 1, 6]), ([7, 7, 0, 1, 2, 3, 4, 5, 6, 7], [7])])
def codewrightref05_Sub.B1 : List Nat := [0, 0, 0, 0, 8, 0, 60, 127, 255]
theorem codewrightref05_Sub.tab1 : rtab .any (opsOf Try.f75 1) = codewrightref05_Sub.T1 := by kernel_rfl
theorem codewrightref05_Sub.bits1 : waitsOk codewrightref05_Sub.T1.2 codewrightref05_Sub.B1 = true := by kernel_rfl
set_option maxHeartbeats 8000000 in
set_option maxRecDepth 100000 in
theorem codewrightref05_Sub.calls (k : Nat) (a0_0 : Int) (a0_1 : Int) (A0_2 : Option Addr) (c0_2 : Nat) (l0_2 : List Int) (A1 : Option Addr) (c1 : Nat) (l1 : List Int) (A2 : Option Addr) (c2 : Nat) (l2 : List Int) (r : List Int) (w : World) (hr0_2 : Kd.C (Kd.int .i64) w A0_2 l0_2.length l0_2) (hc0_2 : l0_2.length ≤ c0_2) (hr1 : Kd.C (Kd.int .i64) w A1 l1.length l1) (hc1 : l1.length ≤ c1) (hr2 : Kd.C (Kd.int .i64) w A2 l2.length l2) (hc2 : l2.length ≤ c2) (h : codewrightref05_Sub.f k a0_0 a0_1 l0_2 l1 l2 = some r) :
  Calls Try.prog 75 #[.agg #[.int .i64 a0_0, .int .i64 a0_1, .slice A0_2 l0_2.length c0_2], .slice A1 l1.length c1, .slice A2 l2.length c2] w fun e w' => ∃ v0_ : Value, e = .returned (v0_) ∧ Kd.R (Kd.int .i64) 3 w' w.heap.size (fun _ => True) v0_ r ∧ Below w.heap.size w w' := by
 have hu24 := Try.underlying24
 have HR0_2 := Aside0.mk hr0_2
 have HC0_2 := Aside0.mk hc0_2
 clear hr0_2 hc0_2
 have HR1 := Aside0.mk hr1
 have HC1 := Aside0.mk hc1
 clear hr1 hc1
 have HR2 := Aside0.mk hr2
 have HC2 := Aside0.mk hc2
 clear hr2 hc2
 have HB := Aside0.mk (Below.refl w.heap.size w)
 have H : ((codewrightref04_Neg.f k a0_0 a0_1 l0_2 1).bind fun t503 => ((codewrightref05_Scale.f k a0_0 a0_1 l0_2 t503 l2).bind fun t504 => ((codewrightref05_Add.f k a0_0 a0_1 l0_2 l1 t504).bind fun t507 => (some t507)))) = some r := h
 clear h
 obtain ⟨t503, A40, H⟩ := Option.bind_eq_some_iff.mp H
 replace H : ((codewrightref05_Scale.f k a0_0 a0_1 l0_2 t503 l2).bind fun t504 => ((codewrightref05_Add.f k a0_0 a0_1 l0_2 l1 t504).bind fun t507 => (some t507))) = some r := H
 have A4 := Aside0.mk A40
 clear A40
 obtain ⟨t504, A50, H⟩ := Option.bind_eq_some_iff.mp H
 replace H : ((codewrightref05_Add.f k a0_0 a0_1 l0_2 l1 t504).bind fun t507 => (some t507)) = some r := H
 have A5 := Aside0.mk A50
 clear A50
 obtain ⟨t507, A60, H⟩ := Option.bind_eq_some_iff.mp H
 replace H : (some t507) = some r := H
 have A6 := Aside0.mk A60
 clear A60
 obtain rfl := Option.some.inj H
 go_enter Try.func75, Try.ntmps75
 (go_wp2_with (((with_reducible refine gate_dst (N := 3) rfl ?_); refine box_event ?hg (N := 3) ?hd (cs := #[.int .i64 a0_0, .int .i64 a0_1, .slice A0_2 l0_2.length c0_2]) (t := 24) ?hr ?_; (case hd => rfl); (case hg => rfl); (case hr => (go_simp; done)); intro gb502 hg w7 hbox hb; have n0_ := Aside0.mk (below_step HB.out hb); have n1_ := Aside0.mk (hbox); have n2_ := Aside0.mk ((by rw [hg]; exact (below_size HB.out) : w.heap.size ≤ gb502)); have n3_ := Aside0.mk ((by rw [hg]; exact (below_size HB.out) : w.heap.size ≤ gb502)); clear HB; have HB := n0_; have BK502 := n1_; have GW502 := n2_; have GE502 := n3_; clear n0_ n1_ n2_ n3_; clear hb hbox hg)))
 have n0_ := Aside0.mk (blk_drew BK502.out)
 have n1_ := Aside0.mk (below_drew1 HB.out)
 clear BK502 HB
 have BK502 := n0_
 have HB := n1_
 clear n0_ n1_
 refine start_ (n := 9) (S := fun w' => w'.cell? ⟨gb502, 0, none⟩ = some (.int .i64 a0_0) ∧ w'.cell? ⟨gb502, 1, none⟩ = some (.int .i64 a0_1) ∧ w'.cell? ⟨gb502, 2, none⟩ = some (.slice A0_2 l0_2.length c0_2)) (ds := []) (bm 9 0) (by kernel_rfl) rfl rfl ⟨(blk_cell BK502.out 0).trans rfl, (blk_cell BK502.out 1).trans rfl, (blk_cell BK502.out 2).trans rfl⟩ (fun hHeld => ?_); refine with_tabW codewrightref05_Sub.tab1 codewrightref05_Sub.bits1 (fun HT_ HW_ => ?_)
 generalize w7.drew = w8 at BK502 HB hHeld ⊢
 refine pure_ (i := 1) (N := some 8) (v := ?_) (a' := ?_) (bm 9 2) rfl rfl (any_of HT_.out (by kernel_rfl)) (fun _ _ _ h => h) (Or.inl ⟨by rfl, ?_⟩) ?_ ?_;rotate_left;(intro w';go_simp;with_reducible rfl);rotate_left;(simp only [ps_];rfl)
 refine pure_ (i := 5) (N := some 12) (v := ?_) (a' := ?_) (bm 9 34) rfl rfl (any_of HT_.out (by kernel_rfl)) (fun _ _ _ h => h) (Or.inl ⟨by rfl, ?_⟩) ?_ ?_;rotate_left;(intro w';go_simp;with_reducible rfl);rotate_left;(simp only [ps_];rfl)
 refine take_ (i := 0) (N := some 7) (v := ?_) (a' := ?_) (bm 9 35) rfl rfl (take_ofW HT_.out HW_.out (by kernel_rfl)) (fun _ _ _ h => h) (Or.inl ⟨by rfl, ?_⟩) hHeld ?_ ?_;rotate_left;(rintro w' ⟨s0, s1, s2⟩;go_simp;with_reducible rfl);rotate_left;(simp only [ps_];rfl)
 refine take_ (i := 2) (N := some 9) (v := ?_) (a' := ?_) (bm 9 39) rfl rfl (take_ofW HT_.out HW_.out (by kernel_rfl)) (fun _ _ _ h => h) (Or.inl ⟨by rfl, ?_⟩) hHeld ?_ ?_;rotate_left;(rintro w' ⟨s0, s1, s2⟩;go_simp;with_reducible rfl);rotate_left;(simp only [ps_];rfl)
 refine take_ (i := 3) (N := some 10) (v := ?_) (a' := ?_) (bm 9 47) rfl rfl (take_ofW HT_.out HW_.out (by kernel_rfl)) (fun _ _ _ h => h) (Or.inl ⟨by rfl, ?_⟩) hHeld ?_ ?_;rotate_left;(rintro w' ⟨s0, s1, s2⟩;go_simp;with_reducible rfl);rotate_left;(simp only [ps_];rfl)
 refine one_ (i := 4) (N := some 11) (bm 9 63) rfl rfl (one_of HT_.out (by kernel_rfl)) (by decide) (fun K hK => ?_)
 refine goes_ Try.func84 (by kernel_rfl) rfl #[.agg #[.int .i64 a0_0, .int .i64 a0_1, .slice A0_2 l0_2.length c0_2], .int .i64 1] (by rfl) rfl rfl (by ((simp only [List.map_toArray, List.map_cons, List.map_nil])); (rfl)) ?_
 with_reducible refine (codewrightref04_Neg.calls k a0_0 a0_1 _ _ l0_2 1 t503 _ ?side1 ?side2 A4.out).mono ?_
 (case side1 => repeat ((exact (Kd.C_below HR0_2.out HB.out))))
 (case side2 => exact HC0_2.out)
 rintro e w9 ⟨rfl, hb⟩
 refine ⟨_, rfl, ?_⟩
 have n0_ := Aside0.mk (blk_below (g := gb502) (o := .cells #[.int .i64 a0_0, .int .i64 a0_1, .slice A0_2 l0_2.length c0_2] 24 (0, 0)) BK502.out hb)
 have n1_ := Aside0.mk (below_step HB.out hb)
 clear BK502 HB
 have BK502 := n0_
 have HB := n1_
 clear n0_ n1_
 ((clear hb))
 refine hK.out _ _ ⟨(blk_cell BK502.out 0).trans rfl, (blk_cell BK502.out 1).trans rfl, (blk_cell BK502.out 2).trans rfl⟩ (fun hHeld => ?_)
 clear hK K
 refine norm_ (a' := ?_) ?_ ?_
 rotate_left
 ·show Act.put _ (some 11) _ = _
  simp only [Act.put, List.setIfInBounds_toArray, List.set_cons_zero, List.set_cons_succ, i64_w, i32_w]
  rfl
 refine one_ (i := 6) (N := some 13) (bm 9 127) rfl rfl (one_of HT_.out (by kernel_rfl)) (by decide) (fun K hK => ?_)
 refine goes_ Try.func42 (by kernel_rfl) rfl #[.agg #[.int .i64 a0_0, .int .i64 a0_1, .slice A0_2 l0_2.length c0_2], .int .i64 t503, .slice A2 l2.length c2] (by rfl) rfl rfl (by ((simp only [List.map_toArray, List.map_cons, List.map_nil])); (rfl)) ?_
 with_reducible refine (codewrightref05_Scale.calls k a0_0 a0_1 _ _ l0_2 t503 _ _ l2 t504 _ ?side1 ?side2 ?side3 ?side4 A5.out).mono ?_
 (case side1 => repeat ((exact (Kd.C_below HR0_2.out HB.out))))
 (case side2 => exact HC0_2.out)
 (case side3 => repeat ((exact (Kd.C_below HR2.out HB.out))))
 (case side4 => exact HC2.out)
 rintro e w10 ⟨v505, rfl, ho0, hb⟩
 refine ⟨_, rfl, ?_⟩
 have n0_ := Aside0.mk (Kd.R_lower ho0 (below_size HB.out))
 have n1_ := Aside0.mk (blk_below (g := gb502) (o := .cells #[.int .i64 a0_0, .int .i64 a0_1, .slice A0_2 l0_2.length c0_2] 24 (0, 0)) BK502.out hb)
 have n2_ := Aside0.mk (below_step HB.out hb)
 clear BK502 HB
 have HO506 := n0_
 have BK502 := n1_
 have HB := n2_
 clear n0_ n1_ n2_
 ((clear hb))
 ((clear ho0))
 obtain ⟨Ao11, co11, eo11⟩ := Kd.R_slice HO506.out
 ((subst eo11))
 refine hK.out _ _ ⟨(blk_cell BK502.out 0).trans rfl, (blk_cell BK502.out 1).trans rfl, (blk_cell BK502.out 2).trans rfl⟩ (fun hHeld => ?_)
 clear hK K
 refine norm_ (a' := ?_) ?_ ?_
 rotate_left
 ·show Act.put _ (some 13) _ = _
  simp only [Act.put, List.setIfInBounds_toArray, List.set_cons_zero, List.set_cons_succ, i64_w, i32_w]
  rfl
 refine one_ (i := 7) (N := some 14) (bm 9 255) rfl rfl (one_of HT_.out (by kernel_rfl)) (by decide) (fun K hK => ?_)
 refine goes_ Try.func35 (by kernel_rfl) rfl #[.agg #[.int .i64 a0_0, .int .i64 a0_1, .slice A0_2 l0_2.length c0_2], .slice A1 l1.length c1, .slice Ao11 t504.length co11] (by rfl) rfl rfl (by ((simp only [List.map_toArray, List.map_cons, List.map_nil])); (rfl)) ?_
 with_reducible refine (codewrightref05_Add.calls k a0_0 a0_1 _ _ l0_2 _ _ l1 _ _ t504 t507 _ ?side1 ?side2 ?side3 ?side4 ?side5 ?side6 A6.out).mono ?_
 (case side1 => repeat ((exact (Kd.C_below HR0_2.out HB.out))))
 (case side2 => exact HC0_2.out)
 (case side3 => repeat ((exact (Kd.C_below HR1.out HB.out))))
 (case side4 => exact HC1.out)
 (case side5 => repeat ((exact (Kd.R_reads' HO506.out).2.2)))
 (case side6 => exact (Kd.R_reads' HO506.out).2.1)
 rintro e w12 ⟨v508, rfl, ho0, hb⟩
 refine ⟨_, rfl, ?_⟩
 have n0_ := Aside0.mk (Kd.R_elder' HO506.out (Kd.R_base ho0) hb)
 have n1_ := Aside0.mk (Kd.R_lower (Kd.R_new' ho0 (Kd.R_lt HO506.out)) (below_size HB.out))
 have n2_ := Aside0.mk (blk_below (g := gb502) (o := .cells #[.int .i64 a0_0, .int .i64 a0_1, .slice A0_2 l0_2.length c0_2] 24 (0, 0)) BK502.out hb)
 have n3_ := Aside0.mk (below_step HB.out hb)
 clear HO506 BK502 HB
 have HO506 := n0_
 have HO509 := n1_
 have BK502 := n2_
 have HB := n3_
 clear n0_ n1_ n2_ n3_
 ((clear hb))
 ((clear ho0))
 refine hK.out _ _ ⟨(blk_cell BK502.out 0).trans rfl, (blk_cell BK502.out 1).trans rfl, (blk_cell BK502.out 2).trans rfl⟩ (fun hHeld => ?_)
 clear hK K
 refine norm_ (a' := ?_) ?_ ?_
 rotate_left
 ·show Act.put _ (some 14) _ = _
  simp only [Act.put, List.setIfInBounds_toArray, List.set_cons_zero, List.set_cons_succ, i64_w, i32_w]
  rfl
 refine pure_ (i := 8) (N := some 6) (v := ?_) (a' := ?_) (bm 9 511) rfl rfl (any_of HT_.out (by kernel_rfl)) (fun _ _ _ h => h) (Or.inl ⟨by rfl, ?_⟩) ?_ ?_;rotate_left;(intro w';go_simp;with_reducible rfl);rotate_left;(simp only [ps_];rfl)
 refine done_ (done_of HT_.out (by kernel_rfl)) ?_
 (go_wp2)
 go_ret
 exact ⟨_, by rfl, by exact Kd.R_mono HO509.out (fun _ hk => trivial), by exact HB.out⟩
def codewrightref05_Power.f (a0 : Int) : Option (List Int) := if 0 ≤ (wrap64 (a0 + 1)) then (if (wrap64 (a0 + 1) : Int).toNat ≤ 35184372088832 then ((some (List.replicate (wrap64 (a0 + 1) : Int).toNat 0 : List Int)).bind fun y510 => (if 0 ≤ a0 then (if a0 < (y510.length : Int) then (some (y510.set (a0 : Int).toNat 1)) else (none)) else (none))) else (none)) else (none)
set_option maxHeartbeats 8000000 in
set_option maxRecDepth 100000 in
theorem codewrightref05_Power.calls (a0 : Int) (r : List Int) (w : World) (h : codewrightref05_Power.f a0 = some r) :
  Calls Try.prog 76 #[.int .i64 a0] w fun e w' => ∃ v0_ : Value, e = .returned (v0_) ∧ Kd.R (Kd.int .i64) 3 w' w.heap.size (fun _ => True) v0_ r ∧ Below w.heap.size w w' := by
 have HB := Aside0.mk (Below.refl w.heap.size w)
 have H : (if 0 ≤ (wrap64 (a0 + 1)) then (if (wrap64 (a0 + 1) : Int).toNat ≤ 35184372088832 then ((some (List.replicate (wrap64 (a0 + 1) : Int).toNat 0 : List Int)).bind fun y510 => (if 0 ≤ a0 then (if a0 < (y510.length : Int) then (some (y510.set (a0 : Int).toNat 1)) else (none)) else (none))) else (none)) else (none)) = some r := h
 clear h
 obtain ⟨ji2, hji2⟩ : ∃ j_ : Int, (wrap64 (a0 + 1)) = j_ := ⟨_, rfl⟩
 replace H : (if 0 ≤ (ji2) then (if (ji2 : Int).toNat ≤ 35184372088832 then ((some (List.replicate (ji2 : Int).toNat 0 : List Int)).bind fun y510 => (if 0 ≤ a0 then (if a0 < (y510.length : Int) then (some (y510.set (a0 : Int).toNat 1)) else (none)) else (none))) else (none)) else (none)) = some r := by (rw [hji2] at H; exact H)
 have hji2w : (IntKind.i64.wrap (a0 + 1)) = ji2 := (i64_w _).trans hji2
 by_cases c3 : 0 ≤ (ji2)
 ·rw [if_pos c3] at H
  have c3b0 := eq_true c3
  have c3b1 : decide (0 ≤ (ji2)) = true := decide_eq_true c3
  clear c3
  by_cases c4 : (ji2 : Int).toNat ≤ 35184372088832
  ·rw [if_pos c4] at H
   have c4b0 := eq_true c4
   have c4b1 : decide ((ji2 : Int).toNat ≤ 35184372088832) = true := decide_eq_true c4
   clear c4
   obtain ⟨y510, hy510⟩ : ∃ y_ : List Int, y_ = (List.replicate (ji2 : Int).toNat 0) := ⟨_, rfl⟩
   replace H : (if 0 ≤ a0 then (if a0 < (y510.length : Int) then (some (y510.set (a0 : Int).toNat 1)) else (none)) else (none)) = some r := by (have H2_ := (Option.bind_some _ _).symm.trans H; rw [hy510]; with_reducible exact H2_)
   have Ny510 := Aside0.mk hy510
   clear hy510
   by_cases c5 : 0 ≤ a0
   ·rw [if_pos c5] at H
    have c5b0 : decide (0 ≤ a0) = true := decide_eq_true c5
    clear c5
    by_cases c6 : a0 < (y510.length : Int)
    ·rw [if_pos c6] at H
     have c6b0 : decide (a0 < (y510.length : Int)) = true := decide_eq_true c6
     clear c6
     obtain ⟨y513, hy513⟩ : ∃ y_ : List Int, y_ = (y510.set (a0 : Int).toNat 1) := ⟨_, rfl⟩
     replace H : (some y513) = some r := by (rw [hy513]; with_reducible exact H)
     have Ny513 := Aside0.mk hy513
     clear hy513
     obtain rfl := Option.some.inj H
     go_enter Try.func76, Try.ntmps76
     go_wp2_with (first | ((with_reducible refine gate_dst (N := 6) rfl ?_); refine Kd.R_make (Kd.int .i64) _ 3 rfl (N := 6) rfl 22 _ _ rfl ji2 rfl rfl Try.underlying22 (.int .i64 0) 8 info3 rfl (by decide) (by omega) 0 (ok := fun _ => True) (okp := fun _ => True) rfl (fun _ hk => hk) trivial (of_decide_eq_true (by (with_reducible assumption))) (Nat.le_trans (Nat.mul_le_mul_right _ (of_decide_eq_true (by (with_reducible assumption)) : ji2.toNat ≤ 35184372088832)) (by omega)) (Below.refl _ _) (Nat.le_refl _) ?_; intro v511 w8 ho9 hb hg_ hnew_; clear hg_ hnew_; ((rw [← Ny510.out] at ho9)); have n0_ := Aside0.mk (Kd.R_lower ho9 (below_size HB.out)); have n1_ := Aside0.mk (below_step HB.out hb); clear HB; have HO512 := n0_; have HB := n1_; clear n0_ n1_; clear hb ho9; have p7 : 0 ≤ (a0 : Int) := of_decide_eq_true (by (with_reducible assumption)); have q7 : (a0 : Int) < ((y510.length : Int) : Int) := of_decide_eq_true (by (with_reducible assumption)); obtain ⟨go7, co7, eo7, gb7, gl7, cl7, HG7⟩ := Kd.R_form HO512.out (by omega); ((cases eo7)); have GB7 := Aside0.mk gb7; have GG7 := Aside0.mk HG7; clear gb7 gl7 HG7; obtain ⟨hx7_0, hf7_0⟩ := Kd.R_celln 0 HO512.out (a0 : Int) p7 q7; replace p7 := eq_true p7; replace q7 := eq_true q7; obtain ⟨hy10_, hz10_⟩ := Kd.R_celln 0 HO512.out (a0 : Int) (of_decide_eq_true (by (with_reducible assumption))) (of_decide_eq_true (by (with_reducible assumption))); have HP10 := Kd.R_putg HO512.out (a0 : Int) 1) | ((with_reducible refine gate_store (t := 3) (p := 9) rfl ?_); refine store_event (t := 3) (p := 9) (v := ?vo_w11) (w1 := (w8.setCell ⟨go7, (a0 : Int).toNat, none⟩ (.int .i64 1))) ?hg ?ho ?hn ?hr ?_; (case ho => rfl); (case hg => rfl); (case hn => rfl); (case hr => (go_simp; done)); intro w11 hw; have hg : w8.grownBy w11 (some go7) := (by rw [hw]; exact HP10.2); have hp_ : Kd.R (Kd.int .i64) 3 w11 w.heap.size (fun _ => True) (.slice (some ⟨go7, 0, none⟩) y510.length co7) y513 := (by rw [hw, Ny513.out]; exact HP10.1); clear HP10; have n0_ := Aside0.mk (hp_); have n1_ := Aside0.mk ((by rw [hw]; exact below_set (HB.out) GB7.out : Below w.heap.size w w11)); clear HO512; clear HB; have HO512 := n0_; have HB := n1_; clear n0_ n1_; clear hg hw hp_))
     go_ret
     exact ⟨_, by rfl, by exact HO512.out, by exact HB.out⟩
    ·rw [if_neg c6] at H
     exact absurd H (by simp)
   ·rw [if_neg c5] at H
    exact absurd H (by simp)
  ·rw [if_neg c4] at H
   exact absurd H (by simp)
 ·rw [if_neg c3] at H
  exact absurd H (by simp)
end Go.Proofs.Ytiejggpmjapajaa.PA
end
section
namespace Go.Proofs.Ytiejggpmjapajaa.PA
open Go.RowKit Go.Proofs.YtiejggpmjapajaaW.PrintWords Go.Proofs.YtiejggpmjapajaaW.PrintLast Go.Proofs.YtiejggpmjapajaaW.PrintMore
attribute [local go_sem] max2_int min2_int max_two min_two max_three min_three max_four min_four
set_option linter.unusedVariables false
set_option linter.unusedSimpArgs false
def codewrightref05_DivMod.l0 : Nat → List Int → List Int → Int → Int → List Int → Int → Int → List Int → Option (List Int × List Int)
 | 0, _, _, _, _, _, _, _, _ => none
 | k + 1, x2, x8, x9, x10, x11, x515000, x515001, x515002 => if (x8.length : Int) > x9 then (if 0 ≤ (wrap64 ((x8.length : Int) - 1)) then (if (wrap64 ((x8.length : Int) - 1)) < (x8.length : Int) then ((codewrightref04_Mul.f k x515000 x515001 x515002 (rd x8 (wrap64 ((x8.length : Int) - 1))) x10).bind fun t530 => (if 0 ≤ (wrap64 ((wrap64 ((x8.length : Int) - 1)) - x9)) then (if (wrap64 ((wrap64 ((x8.length : Int) - 1)) - x9)) < (x11.length : Int) then ((codewrightref05_Scale.f k x515000 x515001 x515002 t530 x2).bind fun t532 => ((codewrightref05_Power.f (wrap64 ((wrap64 ((x8.length : Int) - 1)) - x9))).bind fun t535 => ((codewrightref05_Mul.f k x515000 x515001 x515002 t532 t535).bind fun t538 => ((codewrightref05_Sub.f k x515000 x515001 x515002 x8 t538).bind fun t541 => (codewrightref05_DivMod.l0 k x2 t541 x9 x10 (x11.set ((wrap64 ((wrap64 ((x8.length : Int) - 1)) - x9)) : Int).toNat t530) x515000 x515001 x515002))))) else (none)) else (none))) else (none)) else (none)) else ((codewrightref05_Canon.f k x515000 x515001 x515002 x11).bind fun t526 => (some (t526, x8)))
def codewrightref05_DivMod.f (k : Nat) (a0_0 : Int) (a0_1 : Int) (l0_2 : List Int) (l1 : List Int) (l2 : List Int) : Option (List Int × List Int) := (codewrightref05_Canon.f k a0_0 a0_1 l0_2 l2).bind fun t515 => ((codewrightref05_Canon.f k a0_0 a0_1 l0_2 l1).bind fun t518 => (if 0 ≤ (wrap64 ((t515.length : Int) - 1)) then (if (wrap64 ((t515.length : Int) - 1)) < (t515.length : Int) then ((codewrightref04_Inv.f k a0_0 a0_1 l0_2 (rd t515 (wrap64 ((t515.length : Int) - 1)))).bind fun t522 => (if 0 ≤ (mx (wrap64 ((t518.length : Int) - (wrap64 ((t515.length : Int) - 1)))) 0) then (if (mx (wrap64 ((t518.length : Int) - (wrap64 ((t515.length : Int) - 1)))) 0 : Int).toNat ≤ 35184372088832 then (codewrightref05_DivMod.l0 k t515 t518 (wrap64 ((t515.length : Int) - 1)) t522 (List.replicate (mx (wrap64 ((t518.length : Int) - (wrap64 ((t515.length : Int) - 1)))) 0 : Int).toNat 0) a0_0 a0_1 l0_2) else (none)) else (none))) else (none)) else (none)))
def codewrightref05_DivMod.T8 : Bool × List (List Nat × List Nat) := (true, [([], []), ([], []), ([], []), ([2], [2]), ([3], [3]), ([1, 4], [1, 4]), ([5], [5]), ([], []), ([0, 6, 7], [0, 6, 7]), ([8, 8, 0, 1, 2, 3, 4, 5, 6, 7, 8], [8])])
def codewrightref05_DivMod.B8 : List Nat := [0, 0, 0, 4, 12, 30, 62, 0, 255, 511]
theorem codewrightref05_DivMod.tab8 : rtab .any (opsOf Try.f47 8) = codewrightref05_DivMod.T8 := by kernel_rfl
theorem codewrightref05_DivMod.bits8 : waitsOk codewrightref05_DivMod.T8.2 codewrightref05_DivMod.B8 = true := by kernel_rfl
def codewrightref05_DivMod.T10 : Bool × List (List Nat × List Nat) := (true, [([], []), ([], []), ([], []), ([], []), ([], []), ([], []), ([3, 4, 5], [3, 4, 5]), ([], []), ([7, 6], [7]), ([2, 6, 8, 8], [2, 6, 8]), ([0, 1, 9, 9], [0, 1, 9]), ([10, 10, 0, 1, 2, 3, 4, 5, 6, 7, 8, 9, 10], [1, 10])])
def codewrightref05_DivMod.B10 : List Nat := [0, 0, 0, 0, 0, 0, 56, 0, 248, 508, 1023, 2047]
theorem codewrightref05_DivMod.tab10 : rtab .any (opsOf Try.f47 10) = codewrightref05_DivMod.T10 := by kernel_rfl
theorem codewrightref05_DivMod.bits10 : waitsOk codewrightref05_DivMod.T10.2 codewrightref05_DivMod.B10 = true := by kernel_rfl
set_option maxHeartbeats 8000000 in
set_option maxRecDepth 100000 in
theorem codewrightref05_DivMod.calls (k : Nat) (a0_0 : Int) (a0_1 : Int) (A0_2 : Option Addr) (c0_2 : Nat) (l0_2 : List Int) (A1 : Option Addr) (c1 : Nat) (l1 : List Int) (A2 : Option Addr) (c2 : Nat) (l2 : List Int) (r1 : List Int) (r2 : List Int) (w : World) (hr0_2 : Kd.C (Kd.int .i64) w A0_2 l0_2.length l0_2) (hc0_2 : l0_2.length ≤ c0_2) (hr1 : Kd.C (Kd.int .i64) w A1 l1.length l1) (hc1 : l1.length ≤ c1) (hr2 : Kd.C (Kd.int .i64) w A2 l2.length l2) (hc2 : l2.length ≤ c2) (h : codewrightref05_DivMod.f k a0_0 a0_1 l0_2 l1 l2 = some (r1, r2)) :
  Calls Try.prog 47 #[.agg #[.int .i64 a0_0, .int .i64 a0_1, .slice A0_2 l0_2.length c0_2], .slice A1 l1.length c1, .slice A2 l2.length c2] w fun e w' => ∃ v0_ v1_ : Value, e = .returned (.tuple #[v0_, v1_]) ∧ Kd.R (Kd.int .i64) 3 w' w.heap.size (fun k_ => some k_ ≠ (v1_ : Value).ownBlock) v0_ r1 ∧ Kd.R (Kd.int .i64) 3 w' w.heap.size (fun k_ => some k_ ≠ (v0_ : Value).ownBlock) v1_ r2 ∧ Below w.heap.size w w' := by
 have hu24 := Try.underlying24
 have HR0_2 := Aside0.mk hr0_2
 have HC0_2 := Aside0.mk hc0_2
 clear hr0_2 hc0_2
 have HR1 := Aside0.mk hr1
 have HC1 := Aside0.mk hc1
 clear hr1 hc1
 have HR2 := Aside0.mk hr2
 have HC2 := Aside0.mk hc2
 clear hr2 hc2
 have HB := Aside0.mk (Below.refl w.heap.size w)
 have H : ((codewrightref05_Canon.f k a0_0 a0_1 l0_2 l2).bind fun t515 => ((codewrightref05_Canon.f k a0_0 a0_1 l0_2 l1).bind fun t518 => (if 0 ≤ (wrap64 ((t515.length : Int) - 1)) then (if (wrap64 ((t515.length : Int) - 1)) < (t515.length : Int) then ((codewrightref04_Inv.f k a0_0 a0_1 l0_2 (rd t515 (wrap64 ((t515.length : Int) - 1)))).bind fun t522 => (if 0 ≤ (mx (wrap64 ((t518.length : Int) - (wrap64 ((t515.length : Int) - 1)))) 0) then (if (mx (wrap64 ((t518.length : Int) - (wrap64 ((t515.length : Int) - 1)))) 0 : Int).toNat ≤ 35184372088832 then (codewrightref05_DivMod.l0 k t515 t518 (wrap64 ((t515.length : Int) - 1)) t522 (List.replicate (mx (wrap64 ((t518.length : Int) - (wrap64 ((t515.length : Int) - 1)))) 0 : Int).toNat 0) a0_0 a0_1 l0_2) else (none)) else (none))) else (none)) else (none)))) = some (r1, r2) := h
 clear h
 obtain ⟨t515, A40, H⟩ := Option.bind_eq_some_iff.mp H
 replace H : ((codewrightref05_Canon.f k a0_0 a0_1 l0_2 l1).bind fun t518 => (if 0 ≤ (wrap64 ((t515.length : Int) - 1)) then (if (wrap64 ((t515.length : Int) - 1)) < (t515.length : Int) then ((codewrightref04_Inv.f k a0_0 a0_1 l0_2 (rd t515 (wrap64 ((t515.length : Int) - 1)))).bind fun t522 => (if 0 ≤ (mx (wrap64 ((t518.length : Int) - (wrap64 ((t515.length : Int) - 1)))) 0) then (if (mx (wrap64 ((t518.length : Int) - (wrap64 ((t515.length : Int) - 1)))) 0 : Int).toNat ≤ 35184372088832 then (codewrightref05_DivMod.l0 k t515 t518 (wrap64 ((t515.length : Int) - 1)) t522 (List.replicate (mx (wrap64 ((t518.length : Int) - (wrap64 ((t515.length : Int) - 1)))) 0 : Int).toNat 0) a0_0 a0_1 l0_2) else (none)) else (none))) else (none)) else (none))) = some (r1, r2) := H
 have A4 := Aside0.mk A40
 clear A40
 obtain ⟨t518, A50, H⟩ := Option.bind_eq_some_iff.mp H
 replace H : (if 0 ≤ (wrap64 ((t515.length : Int) - 1)) then (if (wrap64 ((t515.length : Int) - 1)) < (t515.length : Int) then ((codewrightref04_Inv.f k a0_0 a0_1 l0_2 (rd t515 (wrap64 ((t515.length : Int) - 1)))).bind fun t522 => (if 0 ≤ (mx (wrap64 ((t518.length : Int) - (wrap64 ((t515.length : Int) - 1)))) 0) then (if (mx (wrap64 ((t518.length : Int) - (wrap64 ((t515.length : Int) - 1)))) 0 : Int).toNat ≤ 35184372088832 then (codewrightref05_DivMod.l0 k t515 t518 (wrap64 ((t515.length : Int) - 1)) t522 (List.replicate (mx (wrap64 ((t518.length : Int) - (wrap64 ((t515.length : Int) - 1)))) 0 : Int).toNat 0) a0_0 a0_1 l0_2) else (none)) else (none))) else (none)) else (none)) = some (r1, r2) := H
 have A5 := Aside0.mk A50
 clear A50
 obtain ⟨ji6, hji6⟩ : ∃ j_ : Int, (wrap64 ((t515.length : Int) - 1)) = j_ := ⟨_, rfl⟩
 replace H : (if 0 ≤ (ji6) then (if (ji6) < (t515.length : Int) then ((codewrightref04_Inv.f k a0_0 a0_1 l0_2 (rd t515 (ji6))).bind fun t522 => (if 0 ≤ (mx (wrap64 ((t518.length : Int) - (ji6))) 0) then (if (mx (wrap64 ((t518.length : Int) - (ji6))) 0 : Int).toNat ≤ 35184372088832 then (codewrightref05_DivMod.l0 k t515 t518 ji6 t522 (List.replicate (mx (wrap64 ((t518.length : Int) - (ji6))) 0 : Int).toNat 0) a0_0 a0_1 l0_2) else (none)) else (none))) else (none)) else (none)) = some (r1, r2) := by (rw [hji6] at H; exact H)
 have hji6w : (IntKind.i64.wrap ((t515.length : Int) - 1)) = ji6 := (i64_w _).trans hji6
 by_cases c7 : 0 ≤ (ji6)
 ·rw [if_pos c7] at H
  have c7b0 : decide (0 ≤ (ji6)) = true := decide_eq_true c7
  clear c7
  by_cases c8 : (ji6) < (t515.length : Int)
  ·rw [if_pos c8] at H
   have c8b0 : decide ((ji6) < (t515.length : Int)) = true := decide_eq_true c8
   clear c8
   obtain ⟨t522, A90, H⟩ := Option.bind_eq_some_iff.mp H
   replace H : (if 0 ≤ (mx (wrap64 ((t518.length : Int) - (ji6))) 0) then (if (mx (wrap64 ((t518.length : Int) - (ji6))) 0 : Int).toNat ≤ 35184372088832 then (codewrightref05_DivMod.l0 k t515 t518 ji6 t522 (List.replicate (mx (wrap64 ((t518.length : Int) - (ji6))) 0 : Int).toNat 0) a0_0 a0_1 l0_2) else (none)) else (none)) = some (r1, r2) := H
   have A9 := Aside0.mk A90
   clear A90
   obtain ⟨ji10, hji10⟩ : ∃ j_ : Int, (mx (wrap64 ((t518.length : Int) - (ji6))) 0) = j_ := ⟨_, rfl⟩
   replace H : (if 0 ≤ (ji10) then (if (ji10 : Int).toNat ≤ 35184372088832 then (codewrightref05_DivMod.l0 k t515 t518 ji6 t522 (List.replicate (ji10 : Int).toNat 0) a0_0 a0_1 l0_2) else (none)) else (none)) = some (r1, r2) := by (rw [hji10] at H; exact H)
   have hji10_ : (if (wrap64 ((t518.length : Int) - (ji6))) < 0 then 0 else (wrap64 ((t518.length : Int) - (ji6)))) = ji10 := hji10
   by_cases c11 : 0 ≤ (ji10)
   ·rw [if_pos c11] at H
    have c11b0 := eq_true c11
    have c11b1 : decide (0 ≤ (ji10)) = true := decide_eq_true c11
    clear c11
    by_cases c12 : (ji10 : Int).toNat ≤ 35184372088832
    ·rw [if_pos c12] at H
     have c12b0 := eq_true c12
     have c12b1 : decide ((ji10 : Int).toNat ≤ 35184372088832) = true := decide_eq_true c12
     clear c12
     obtain ⟨y523, hy523⟩ : ∃ y_ : List Int, y_ = (List.replicate (ji10 : Int).toNat 0) := ⟨_, rfl⟩
     replace H : (codewrightref05_DivMod.l0 k t515 t518 ji6 t522 y523 a0_0 a0_1 l0_2) = some (r1, r2) := by (rw [hy523]; with_reducible exact H)
     have Ny523 := Aside0.mk hy523
     clear hy523
     have H' := Aside0.mk H
     clear H
     go_enter Try.func47, Try.ntmps47
     (go_wp2_with (first | ((with_reducible refine gate_dst (N := 3) rfl ?_); refine box_event ?hg (N := 3) ?hd (cs := #[.int .i64 a0_0, .int .i64 a0_1, .slice A0_2 l0_2.length c0_2]) (t := 24) ?hr ?_; (case hd => rfl); (case hg => rfl); (case hr => (go_simp; done)); intro gb514 hg w13 hbox hb; have n0_ := Aside0.mk (below_step HB.out hb); have n1_ := Aside0.mk (hbox); have n2_ := Aside0.mk ((by rw [hg]; exact (below_size HB.out) : w.heap.size ≤ gb514)); have n3_ := Aside0.mk ((by rw [hg]; exact (below_size HB.out) : w.heap.size ≤ gb514)); clear HB; have HB := n0_; have BK514 := n1_; have GW514 := n2_; have GE514 := n3_; clear n0_ n1_ n2_ n3_; clear hb hbox hg; have hcz14_0 : w13.cell? ⟨gb514, 0, none⟩ = some (.int .i64 a0_0) := (blk_cell BK514.out 0).trans rfl; have hcz14_1 : w13.cell? ⟨gb514, 1, none⟩ = some (.int .i64 a0_1) := (blk_cell BK514.out 1).trans rfl; have hcz14_2 : w13.cell? ⟨gb514, 2, none⟩ = some (.slice A0_2 l0_2.length c0_2) := (blk_cell BK514.out 2).trans rfl; have hfz14_0 := blk_frozen BK514.out 0; have hfz14_1 := blk_frozen BK514.out 1; have hfz14_2 := blk_frozen BK514.out 2) | ((with_reducible refine gate_callee (f := 32) rfl ?_); refine goesL_ (some 16) rfl rfl Try.func32 (by kernel_rfl) rfl #[.agg #[.int .i64 a0_0, .int .i64 a0_1, .slice A0_2 l0_2.length c0_2], .slice A2 l2.length c2] rfl (by ((simp only [List.map_toArray, List.map_cons, List.map_nil])); (rfl)) ?_; (with_reducible refine (codewrightref05_Canon.calls k a0_0 a0_1 _ _ l0_2 _ _ l2 t515 _ ?side1 ?side2 ?side3 ?side4 A4.out).mono ?_); (case side1 => repeat ((exact (Kd.C_below HR0_2.out HB.out)))); (case side2 => exact HC0_2.out); (case side3 => repeat ((exact (Kd.C_below HR2.out HB.out)))); (case side4 => exact HC2.out); rintro e w15 ⟨v516, rfl, ho0, hb⟩; refine ⟨_, rfl, ?_⟩; have n0_ := Aside0.mk (Kd.R_lower ho0 (below_size HB.out)); have n1_ := Aside0.mk (blk_below (g := gb514) (o := .cells #[.int .i64 a0_0, .int .i64 a0_1, .slice A0_2 l0_2.length c0_2] 24 (0, 0)) BK514.out hb); have n2_ := Aside0.mk (below_step HB.out hb); clear BK514; clear HB; have HO517 := n0_; have BK514 := n1_; have HB := n2_; clear n0_ n1_ n2_; ((clear hb)); (skip); (skip); (skip); ((clear ho0)); have hcz16_0 : w15.cell? ⟨gb514, 0, none⟩ = some (.int .i64 a0_0) := (blk_cell BK514.out 0).trans rfl; have hcz16_1 : w15.cell? ⟨gb514, 1, none⟩ = some (.int .i64 a0_1) := (blk_cell BK514.out 1).trans rfl; have hcz16_2 : w15.cell? ⟨gb514, 2, none⟩ = some (.slice A0_2 l0_2.length c0_2) := (blk_cell BK514.out 2).trans rfl; have hfz16_0 := blk_frozen BK514.out 0; have hfz16_1 := blk_frozen BK514.out 1; have hfz16_2 := blk_frozen BK514.out 2) | ((with_reducible refine gate_callee (f := 32) rfl ?_); refine goesL_ (some 19) rfl rfl Try.func32 (by kernel_rfl) rfl #[.agg #[.int .i64 a0_0, .int .i64 a0_1, .slice A0_2 l0_2.length c0_2], .slice A1 l1.length c1] rfl (by ((simp only [List.map_toArray, List.map_cons, List.map_nil])); (rfl)) ?_; (with_reducible refine (codewrightref05_Canon.calls k a0_0 a0_1 _ _ l0_2 _ _ l1 t518 _ ?side1 ?side2 ?side3 ?side4 A5.out).mono ?_); (case side1 => repeat ((exact (Kd.C_below HR0_2.out HB.out)))); (case side2 => exact HC0_2.out); (case side3 => repeat ((exact (Kd.C_below HR1.out HB.out)))); (case side4 => exact HC1.out); rintro e w17 ⟨v519, rfl, ho0, hb⟩; refine ⟨_, rfl, ?_⟩; have n0_ := Aside0.mk (Kd.R_elder' HO517.out (Kd.R_base ho0) hb); have n1_ := Aside0.mk (Kd.R_lower (Kd.R_new' ho0 (Kd.R_lt HO517.out)) (below_size HB.out)); have n2_ := Aside0.mk (blk_below (g := gb514) (o := .cells #[.int .i64 a0_0, .int .i64 a0_1, .slice A0_2 l0_2.length c0_2] 24 (0, 0)) BK514.out hb); have n3_ := Aside0.mk (below_step HB.out hb); clear HO517; clear BK514; clear HB; have HO517 := n0_; have HO520 := n1_; have BK514 := n2_; have HB := n3_; clear n0_ n1_ n2_ n3_; ((clear hb)); (skip); (skip); (skip); ((clear ho0)); obtain ⟨Ao18, co18, eo18⟩ := Kd.R_slice HO517.out; subst eo18)))
     have n0_ := Aside0.mk (Kd.R_drew HO517.out)
     have n1_ := Aside0.mk (Kd.R_drew HO520.out)
     have n2_ := Aside0.mk (blk_drew BK514.out)
     have n3_ := Aside0.mk (below_drew1 HB.out)
     clear HO517 HO520 BK514 HB
     have HO517 := n0_
     have HO520 := n1_
     have BK514 := n2_
     have HB := n3_
     clear n0_ n1_ n2_ n3_
     have p521 : 0 ≤ ((ji6) : Int) := of_decide_eq_true (by (with_reducible assumption))
     have q521 : (ji6) < (t515.length : Int) := of_decide_eq_true (by (with_reducible assumption))
     obtain ⟨ad521, e521, hx521_0⟩ := Kd.at_int (Kd.R_reads' HO517.out).2.2 (ji6) p521 q521
     cases e521
     replace p521 := eq_true p521
     replace q521 := eq_true q521
     refine start_ (n := 7) (S := fun w' => w'.cell? ⟨gb514, 0, none⟩ = some (.int .i64 a0_0) ∧ w'.cell? ⟨gb514, 1, none⟩ = some (.int .i64 a0_1) ∧ w'.cell? ⟨gb514, 2, none⟩ = some (.slice A0_2 l0_2.length c0_2) ∧ w'.cell? (ad521.add ((ji6)).toNat) = some (.int .i64 (rd t515 (ji6)))) (ds := []) (bm 7 0) (by kernel_rfl) rfl rfl ⟨(blk_cell BK514.out 0).trans rfl, (blk_cell BK514.out 1).trans rfl, (blk_cell BK514.out 2).trans rfl, hx521_0⟩ (fun hHeld => ?_)
     generalize w17.drew = w19 at HO517 HO520 BK514 HB hx521_0 hHeld ⊢
     refine pure_ (i := 1) (N := some 24) (v := ?_) (a' := ?_) (bm 7 2) rfl rfl (by kernel_rfl) (fun _ _ _ h => h) (Or.inl ⟨by rfl, ?_⟩) ?_ ?_;rotate_left;(intro w';go_simp;with_reducible rfl);rotate_left;(simp only [ps_];rfl)
     refine pure_ (i := 2) (N := some 25) (v := ?_) (a' := ?_) (bm 7 6) rfl rfl (by kernel_rfl) (fun _ _ _ h => h) (Or.inl ⟨by rfl, ?_⟩) ?_ ?_;rotate_left;(intro w';go_simp;with_reducible rfl);rotate_left;(simp only [ps_];rfl)
     refine pure_ (i := 3) (N := some 26) (v := ?_) (a' := ?_) (bm 7 14) rfl rfl (by kernel_rfl) (fun _ _ _ h => h) (Or.inl ⟨by rfl, ?_⟩) ?_ ?_;rotate_left;(intro w';go_simp;with_reducible rfl);rotate_left;(simp only [ps_];rfl)
     refine take_ (i := 0) (N := some 23) (v := ?_) (a' := ?_) (bm 7 15) rfl rfl (by kernel_rfl) (fun _ _ _ h => h) (Or.inl ⟨by rfl, ?_⟩) hHeld ?_ ?_;rotate_left;(rintro w' ⟨s0, s1, s2, s3⟩;go_simp;with_reducible rfl);rotate_left;(simp only [ps_];rfl)
     refine take_ (i := 4) (N := some 27) (v := ?_) (a' := ?_) (bm 7 31) rfl rfl (by kernel_rfl) (fun _ _ _ h => h) (Or.inl ⟨by rfl, ?_⟩) hHeld ?_ ?_;rotate_left;(rintro w' ⟨s0, s1, s2, s3⟩;go_simp;with_reducible rfl);rotate_left;(simp only [ps_];rfl)
     refine one_ (i := 5) (N := some 28) (bm 7 63) rfl rfl (by kernel_rfl) (by decide) (fun K hK => ?_)
     refine goes_ Try.func46 (by kernel_rfl) rfl #[.agg #[.int .i64 a0_0, .int .i64 a0_1, .slice A0_2 l0_2.length c0_2], .int .i64 (rd t515 (ji6))] (by rfl) rfl rfl (by ((simp only [List.map_toArray, List.map_cons, List.map_nil])); (rfl)) ?_
     with_reducible refine (codewrightref04_Inv.calls k a0_0 a0_1 _ _ l0_2 (rd t515 (ji6)) t522 _ ?side1 ?side2 A9.out).mono ?_
     (case side1 => repeat ((exact (Kd.C_below HR0_2.out HB.out))))
     (case side2 => exact HC0_2.out)
     rintro e w20 ⟨rfl, hb⟩
     have HS3_ := (hb.cell (World.block_lt_of_cell? _ _ (hHeld.2.2.2))).trans (hHeld.2.2.2)
     refine ⟨_, rfl, ?_⟩
     have n0_ := Aside0.mk (Kd.R_below HO517.out hb)
     have n1_ := Aside0.mk (Kd.R_below HO520.out hb)
     have n2_ := Aside0.mk (blk_below (g := gb514) (o := .cells #[.int .i64 a0_0, .int .i64 a0_1, .slice A0_2 l0_2.length c0_2] 24 (0, 0)) BK514.out hb)
     have n3_ := Aside0.mk (below_step HB.out hb)
     clear HO517 HO520 BK514 HB
     have HO517 := n0_
     have HO520 := n1_
     have BK514 := n2_
     have HB := n3_
     clear n0_ n1_ n2_ n3_
     ((clear hb))
     refine hK.out _ _ ⟨(blk_cell BK514.out 0).trans rfl, (blk_cell BK514.out 1).trans rfl, (blk_cell BK514.out 2).trans rfl, HS3_⟩ (fun hHeld => ?_)
     clear hK K
     refine norm_ (a' := ?_) ?_ ?_
     rotate_left
     ·show Act.put _ (some 28) _ = _
      simp only [Act.put, List.setIfInBounds_toArray, List.set_cons_zero, List.set_cons_succ, i64_w, i32_w]
      rfl
     refine pure_ (i := 6) (N := some 10) (v := ?_) (a' := ?_) (bm 7 127) rfl rfl (by kernel_rfl) (fun _ _ _ h => h) (Or.inl ⟨by rfl, ?_⟩) ?_ ?_;rotate_left;(intro w';go_simp;with_reducible rfl);rotate_left;(simp only [ps_];rfl)
     refine done_ (by kernel_rfl) ?_
     obtain ⟨Ao21, co21, eo21⟩ := Kd.R_slice HO520.out
     subst eo21
     (go_wp2_with (((with_reducible refine gate_dst (N := 34) rfl ?_); refine Kd.R_make (Kd.int .i64) _ 3 rfl (N := 34) rfl 22 _ _ rfl ji10 rfl rfl Try.underlying22 (.int .i64 0) 8 info3 rfl (by decide) (by omega) 0 (ok := fun _ => True) (okp := fun _ => True) rfl (fun _ hk => hk) trivial (of_decide_eq_true (by (with_reducible assumption))) (Nat.le_trans (Nat.mul_le_mul_right _ (of_decide_eq_true (by (with_reducible assumption)) : ji10.toNat ≤ 35184372088832)) (by omega)) (Below.refl _ _) (Nat.le_refl _) ?_; intro v524 w22 ho23 hb hg_ hnew_; clear hg_ hnew_; ((rw [← Ny523.out] at ho23)); have n0_ := Aside0.mk (Kd.R_elder' HO517.out (Kd.R_base ho23) hb); have n1_ := Aside0.mk (Kd.R_elder' HO520.out (Kd.R_base ho23) hb); have n2_ := Aside0.mk (Kd.R_lower (Kd.R_new' (Kd.R_new' ho23 (Kd.R_lt HO517.out)) (Kd.R_lt HO520.out)) (below_size HB.out)); have n3_ := Aside0.mk (blk_below (g := gb514) (o := .cells #[.int .i64 a0_0, .int .i64 a0_1, .slice A0_2 l0_2.length c0_2] 24 (0, 0)) BK514.out hb); have n4_ := Aside0.mk (below_step HB.out hb); clear HO517; clear HO520; clear BK514; clear HB; have HO517 := n0_; have HO520 := n1_; have HO525 := n2_; have BK514 := n3_; have HB := n4_; clear n0_ n1_ n2_ n3_ n4_; clear hb ho23)))
     go_loopg [8] k (fun kq v8 w' => ∃ (x8_1 : List Int) (x11_1 : List Int), Aside0 (codewrightref05_DivMod.l0 kq t515 x8_1 ji6 t522 x11_1 a0_0 a0_1 l0_2 = some (r1, r2)) ∧ Aside0 (kq ≤ k) ∧ Aside0 (Kd.R (Kd.int .i64) 3 w' w.heap.size (fun k_ => some k_ ≠ (v8 : Value).ownBlock ∧ some k_ ≠ (v524 : Value).ownBlock) (.slice (some ad521) t515.length co18) t515) ∧ Aside0 (Kd.R (Kd.int .i64) 3 w' w.heap.size (fun k_ => some k_ ≠ ((.slice (some ad521) t515.length co18) : Value).ownBlock ∧ some k_ ≠ (v524 : Value).ownBlock) v8 x8_1) ∧ Aside0 (Kd.R (Kd.int .i64) 3 w' w.heap.size (fun k_ => some k_ ≠ ((.slice (some ad521) t515.length co18) : Value).ownBlock ∧ some k_ ≠ (v8 : Value).ownBlock) v524 x11_1) ∧ Aside0 (w'.heap[gb514]? = some (.cells #[.int .i64 a0_0, .int .i64 a0_1, (.slice A0_2 l0_2.length c0_2)] 24 (0, 0))) ∧ Aside0 (Below w.heap.size w w'))
     case atStart => exact ⟨(t518), (y523), H', ⟨Nat.le_refl _⟩, ⟨by exact Kd.R_mono HO517.out (fun _ hk => ⟨hk.1.2, hk.2⟩)⟩, ⟨by exact Kd.R_mono HO520.out (fun _ hk => ⟨hk.1.2, hk.2⟩)⟩, ⟨by exact Kd.R_mono HO525.out (fun _ hk => ⟨hk.1.2, hk.2⟩)⟩, ⟨BK514.out⟩, ⟨by exact HB.out⟩⟩
     case round =>
      clear H' c7b0 c8b0 c11b0 c11b1 c12b0 c12b1 hcz14_0 hcz14_1 hcz14_2 hcz16_0 hcz16_1 hcz16_2 hfz14_0 hfz14_1 hfz14_2 hfz16_0 hfz16_1 hfz16_2 hx521_0 p521 q521
      obtain ⟨x8_1, x11_1, HA, HK1, HO_2, HO_8, HO_11, BK514, HB⟩ := hrel
      cases gk with
      | zero => exact absurd HA.out (by simp [codewrightref05_DivMod.l0])
      | succ k1 =>
       have H := HA.out
       clear HA
       simp only [codewrightref05_DivMod.l0] at H
       by_cases c24 : (x8_1.length : Int) > ji6
       ·rw [if_pos c24] at H
        have c24b0 : decide (ji6 < (x8_1.length : Int)) = true := decide_eq_true c24
        clear c24
        obtain ⟨ji25, hji25⟩ : ∃ j_ : Int, (wrap64 ((x8_1.length : Int) - 1)) = j_ := ⟨_, rfl⟩
        replace H : (if 0 ≤ (ji25) then (if (ji25) < (x8_1.length : Int) then ((codewrightref04_Mul.f k1 a0_0 a0_1 l0_2 (rd x8_1 (ji25)) t522).bind fun t530 => (if 0 ≤ (wrap64 ((ji25) - ji6)) then (if (wrap64 ((ji25) - ji6)) < (x11_1.length : Int) then ((codewrightref05_Scale.f k1 a0_0 a0_1 l0_2 t530 t515).bind fun t532 => ((codewrightref05_Power.f (wrap64 ((ji25) - ji6))).bind fun t535 => ((codewrightref05_Mul.f k1 a0_0 a0_1 l0_2 t532 t535).bind fun t538 => ((codewrightref05_Sub.f k1 a0_0 a0_1 l0_2 x8_1 t538).bind fun t541 => (codewrightref05_DivMod.l0 k1 t515 t541 ji6 t522 (x11_1.set ((wrap64 ((ji25) - ji6)) : Int).toNat t530) a0_0 a0_1 l0_2))))) else (none)) else (none))) else (none)) else (none)) = some (r1, r2) := by (rw [hji25] at H; exact H)
        have hji25w : (IntKind.i64.wrap ((x8_1.length : Int) - 1)) = ji25 := (i64_w _).trans hji25
        by_cases c26 : 0 ≤ (ji25)
        ·rw [if_pos c26] at H
         have c26b0 : decide (0 ≤ (ji25)) = true := decide_eq_true c26
         clear c26
         by_cases c27 : (ji25) < (x8_1.length : Int)
         ·rw [if_pos c27] at H
          have c27b0 : decide ((ji25) < (x8_1.length : Int)) = true := decide_eq_true c27
          clear c27
          obtain ⟨t530, A280, H⟩ := Option.bind_eq_some_iff.mp H
          replace H : (if 0 ≤ (wrap64 ((ji25) - ji6)) then (if (wrap64 ((ji25) - ji6)) < (x11_1.length : Int) then ((codewrightref05_Scale.f k1 a0_0 a0_1 l0_2 t530 t515).bind fun t532 => ((codewrightref05_Power.f (wrap64 ((ji25) - ji6))).bind fun t535 => ((codewrightref05_Mul.f k1 a0_0 a0_1 l0_2 t532 t535).bind fun t538 => ((codewrightref05_Sub.f k1 a0_0 a0_1 l0_2 x8_1 t538).bind fun t541 => (codewrightref05_DivMod.l0 k1 t515 t541 ji6 t522 (x11_1.set ((wrap64 ((ji25) - ji6)) : Int).toNat t530) a0_0 a0_1 l0_2))))) else (none)) else (none)) = some (r1, r2) := H
          have A28 := Aside0.mk A280
          clear A280
          obtain ⟨ji29, hji29⟩ : ∃ j_ : Int, (wrap64 ((ji25) - ji6)) = j_ := ⟨_, rfl⟩
          replace H : (if 0 ≤ (ji29) then (if (ji29) < (x11_1.length : Int) then ((codewrightref05_Scale.f k1 a0_0 a0_1 l0_2 t530 t515).bind fun t532 => ((codewrightref05_Power.f (ji29)).bind fun t535 => ((codewrightref05_Mul.f k1 a0_0 a0_1 l0_2 t532 t535).bind fun t538 => ((codewrightref05_Sub.f k1 a0_0 a0_1 l0_2 x8_1 t538).bind fun t541 => (codewrightref05_DivMod.l0 k1 t515 t541 ji6 t522 (x11_1.set ((ji29) : Int).toNat t530) a0_0 a0_1 l0_2))))) else (none)) else (none)) = some (r1, r2) := by (rw [hji29] at H; exact H)
          have hji29w : (IntKind.i64.wrap ((ji25) - ji6)) = ji29 := (i64_w _).trans hji29
          by_cases c30 : 0 ≤ (ji29)
          ·rw [if_pos c30] at H
           have c30b0 : decide (0 ≤ (ji29)) = true := decide_eq_true c30
           clear c30
           by_cases c31 : (ji29) < (x11_1.length : Int)
           ·rw [if_pos c31] at H
            have c31b0 : decide ((ji29) < (x11_1.length : Int)) = true := decide_eq_true c31
            clear c31
            obtain ⟨y531, hy531⟩ : ∃ y_ : List Int, y_ = (x11_1.set ((ji29) : Int).toNat t530) := ⟨_, rfl⟩
            replace H : ((codewrightref05_Scale.f k1 a0_0 a0_1 l0_2 t530 t515).bind fun t532 => ((codewrightref05_Power.f (ji29)).bind fun t535 => ((codewrightref05_Mul.f k1 a0_0 a0_1 l0_2 t532 t535).bind fun t538 => ((codewrightref05_Sub.f k1 a0_0 a0_1 l0_2 x8_1 t538).bind fun t541 => (codewrightref05_DivMod.l0 k1 t515 t541 ji6 t522 y531 a0_0 a0_1 l0_2))))) = some (r1, r2) := by (rw [hy531]; with_reducible exact H)
            have Ny531 := Aside0.mk hy531
            clear hy531
            obtain ⟨t532, A330, H⟩ := Option.bind_eq_some_iff.mp H
            replace H : ((codewrightref05_Power.f (ji29)).bind fun t535 => ((codewrightref05_Mul.f k1 a0_0 a0_1 l0_2 t532 t535).bind fun t538 => ((codewrightref05_Sub.f k1 a0_0 a0_1 l0_2 x8_1 t538).bind fun t541 => (codewrightref05_DivMod.l0 k1 t515 t541 ji6 t522 y531 a0_0 a0_1 l0_2)))) = some (r1, r2) := H
            have A33 := Aside0.mk A330
            clear A330
            obtain ⟨t535, A340, H⟩ := Option.bind_eq_some_iff.mp H
            replace H : ((codewrightref05_Mul.f k1 a0_0 a0_1 l0_2 t532 t535).bind fun t538 => ((codewrightref05_Sub.f k1 a0_0 a0_1 l0_2 x8_1 t538).bind fun t541 => (codewrightref05_DivMod.l0 k1 t515 t541 ji6 t522 y531 a0_0 a0_1 l0_2))) = some (r1, r2) := H
            have A34 := Aside0.mk A340
            clear A340
            obtain ⟨t538, A350, H⟩ := Option.bind_eq_some_iff.mp H
            replace H : ((codewrightref05_Sub.f k1 a0_0 a0_1 l0_2 x8_1 t538).bind fun t541 => (codewrightref05_DivMod.l0 k1 t515 t541 ji6 t522 y531 a0_0 a0_1 l0_2)) = some (r1, r2) := H
            have A35 := Aside0.mk A350
            clear A350
            obtain ⟨t541, A360, H⟩ := Option.bind_eq_some_iff.mp H
            replace H : (codewrightref05_DivMod.l0 k1 t515 t541 ji6 t522 y531 a0_0 a0_1 l0_2) = some (r1, r2) := H
            have A36 := Aside0.mk A360
            clear A360
            have H' := Aside0.mk H
            clear H
            obtain ⟨Ao37, co37, eo37⟩ := Kd.R_slice HO_8.out
            subst eo37
            (go_wp2)
            have n0_ := Aside0.mk (Kd.R_drew HO_2.out)
            have n1_ := Aside0.mk (Kd.R_drew HO_8.out)
            have n2_ := Aside0.mk (Kd.R_drew HO_11.out)
            have n3_ := Aside0.mk (blk_drew BK514.out)
            have n4_ := Aside0.mk (below_drew1 HB.out)
            clear HO_2 HO_8 HO_11 BK514 HB
            have HO_2 := n0_
            have HO_8 := n1_
            have HO_11 := n2_
            have BK514 := n3_
            have HB := n4_
            clear n0_ n1_ n2_ n3_ n4_
            have p529 : 0 ≤ ((ji25) : Int) := of_decide_eq_true (by (with_reducible assumption))
            have q529 : (ji25) < (x8_1.length : Int) := of_decide_eq_true (by (with_reducible assumption))
            obtain ⟨ad529, e529, hx529_0⟩ := Kd.at_int (Kd.R_reads' HO_8.out).2.2 (ji25) p529 q529
            cases e529
            replace p529 := eq_true p529
            replace q529 := eq_true q529
            refine start_ (n := 10) (S := fun w' => w'.cell? ⟨gb514, 0, none⟩ = some (.int .i64 a0_0) ∧ w'.cell? ⟨gb514, 1, none⟩ = some (.int .i64 a0_1) ∧ w'.cell? ⟨gb514, 2, none⟩ = some (.slice A0_2 l0_2.length c0_2) ∧ w'.cell? (ad529.add ((ji25)).toNat) = some (.int .i64 (rd x8_1 (ji25)))) (ds := []) (bm 10 0) (by kernel_rfl) rfl rfl ⟨(blk_cell BK514.out 0).trans rfl, (blk_cell BK514.out 1).trans rfl, (blk_cell BK514.out 2).trans rfl, hx529_0⟩ (fun hHeld => ?_); refine with_tabW codewrightref05_DivMod.tab8 codewrightref05_DivMod.bits8 (fun HT_ HW_ => ?_)
            generalize wr.drew = w38 at HO_2 HO_8 HO_11 BK514 HB hx529_0 hHeld ⊢
            refine pure_ (i := 1) (N := some 45) (v := ?_) (a' := ?_) (bm 10 2) rfl rfl (any_of HT_.out (by kernel_rfl)) (fun _ _ _ h => h) (Or.inl ⟨by rfl, ?_⟩) ?_ ?_;rotate_left;(intro w';go_simp;with_reducible rfl);rotate_left;(simp only [ps_];rfl)
            refine pure_ (i := 2) (N := some 46) (v := ?_) (a' := ?_) (bm 10 6) rfl rfl (any_of HT_.out (by kernel_rfl)) (fun _ _ _ h => h) (Or.inl ⟨by rfl, ?_⟩) ?_ ?_;rotate_left;(intro w';go_simp;with_reducible rfl);rotate_left;(simp only [ps_];rfl)
            refine pure_ (i := 3) (N := some 47) (v := ?_) (a' := ?_) (bm 10 14) rfl rfl (any_of HT_.out (by kernel_rfl)) (fun _ _ _ h => h) (Or.inl ⟨by rfl, ?_⟩) ?_ ?_;rotate_left;(intro w';go_simp;with_reducible rfl);rotate_left;(simp only [ps_];rfl)
            refine pure_ (i := 4) (N := some 48) (v := ?_) (a' := ?_) (bm 10 30) rfl rfl (any_of HT_.out (by kernel_rfl)) (fun _ _ _ h => h) (Or.inl ⟨by rfl, ?_⟩) ?_ ?_;rotate_left;(intro w';go_simp;with_reducible rfl);rotate_left;(simp only [ps_];rfl)
            refine pure_ (i := 5) (N := some 49) (v := ?_) (a' := ?_) (bm 10 62) rfl rfl (any_of HT_.out (by kernel_rfl)) (fun _ _ _ h => h) (Or.inl ⟨by rfl, ?_⟩) ?_ ?_;rotate_left;(intro w';go_simp;with_reducible rfl);rotate_left;(simp only [ps_];rfl)
            refine pure_ (i := 7) (N := some 51) (v := ?_) (a' := ?_) (bm 10 190) rfl rfl (any_of HT_.out (by kernel_rfl)) (fun _ _ _ h => h) (Or.inl ⟨by rfl, ?_⟩) ?_ ?_;rotate_left;(intro w';go_simp;with_reducible rfl);rotate_left;(simp only [ps_];rfl)
            refine take_ (i := 0) (N := some 44) (v := ?_) (a' := ?_) (bm 10 191) rfl rfl (take_ofW HT_.out HW_.out (by kernel_rfl)) (fun _ _ _ h => h) (Or.inl ⟨by rfl, ?_⟩) hHeld ?_ ?_;rotate_left;(rintro w' ⟨s0, s1, s2, s3⟩;go_simp;with_reducible rfl);rotate_left;(simp only [ps_];rfl)
            refine take_ (i := 6) (N := some 50) (v := ?_) (a' := ?_) (bm 10 255) rfl rfl (take_ofW HT_.out HW_.out (by kernel_rfl)) (fun _ _ _ h => h) (Or.inl ⟨by rfl, ?_⟩) hHeld ?_ ?_;rotate_left;(rintro w' ⟨s0, s1, s2, s3⟩;go_simp;with_reducible rfl);rotate_left;(simp only [ps_];rfl)
            refine one_ (i := 8) (N := some 52) (bm 10 511) rfl rfl (one_of HT_.out (by kernel_rfl)) (by decide) (fun K hK => ?_)
            refine goes_ Try.func44 (by kernel_rfl) rfl #[.agg #[.int .i64 a0_0, .int .i64 a0_1, .slice A0_2 l0_2.length c0_2], .int .i64 (rd x8_1 (ji25)), .int .i64 t522] (by rfl) rfl rfl (by ((simp only [List.map_toArray, List.map_cons, List.map_nil])); (rfl)) ?_
            with_reducible refine (codewrightref04_Mul.calls k1 a0_0 a0_1 _ _ l0_2 (rd x8_1 (ji25)) t522 t530 _ ?side1 ?side2 A28.out).mono ?_
            (case side1 => repeat ((exact (Kd.C_below HR0_2.out HB.out))))
            (case side2 => exact HC0_2.out)
            rintro e w39 ⟨rfl, hb⟩
            have HS3_ := (hb.cell (World.block_lt_of_cell? _ _ (hHeld.2.2.2))).trans (hHeld.2.2.2)
            refine ⟨_, rfl, ?_⟩
            have n0_ := Aside0.mk (Kd.R_below HO_2.out hb)
            have n1_ := Aside0.mk (Kd.R_below HO_8.out hb)
            have n2_ := Aside0.mk (Kd.R_below HO_11.out hb)
            have n3_ := Aside0.mk (blk_below (g := gb514) (o := .cells #[.int .i64 a0_0, .int .i64 a0_1, .slice A0_2 l0_2.length c0_2] 24 (0, 0)) BK514.out hb)
            have n4_ := Aside0.mk (below_step HB.out hb)
            clear HO_2 HO_8 HO_11 BK514 HB
            have HO_2 := n0_
            have HO_8 := n1_
            have HO_11 := n2_
            have BK514 := n3_
            have HB := n4_
            clear n0_ n1_ n2_ n3_ n4_
            ((clear hb))
            refine hK.out _ _ ⟨(blk_cell BK514.out 0).trans rfl, (blk_cell BK514.out 1).trans rfl, (blk_cell BK514.out 2).trans rfl, HS3_⟩ (fun hHeld => ?_)
            clear hK K
            refine norm_ (a' := ?_) ?_ ?_
            rotate_left
            ·show Act.put _ (some 52) _ = _
             simp only [Act.put, List.setIfInBounds_toArray, List.set_cons_zero, List.set_cons_succ, i64_w, i32_w]
             rfl
            refine pure_ (i := 9) (N := some 13) (v := ?_) (a' := ?_) (bm 10 1023) rfl rfl (any_of HT_.out (by kernel_rfl)) (fun _ _ _ h => h) (Or.inl ⟨by rfl, ?_⟩) ?_ ?_;rotate_left;(intro w';go_simp;with_reducible rfl);rotate_left;(simp only [ps_];rfl)
            refine done_ (done_of HT_.out (by kernel_rfl)) ?_
            have p32 : 0 ≤ ((ji29) : Int) := of_decide_eq_true (by (with_reducible assumption))
            have q32 : ((ji29) : Int) < ((x11_1.length : Int) : Int) := of_decide_eq_true (by (with_reducible assumption))
            obtain ⟨go32, co32, eo32, gb32, gl32, cl32, HG32⟩ := Kd.R_form HO_11.out (by omega)
            ((cases eo32))
            have GB32 := Aside0.mk gb32
            have GG32 := Aside0.mk HG32
            clear gb32 gl32 HG32
            obtain ⟨hx32_0, hf32_0⟩ := Kd.R_celln 0 HO_11.out ((ji29) : Int) p32 q32
            replace p32 := eq_true p32
            replace q32 := eq_true q32
            obtain ⟨hy40_, hz40_⟩ := Kd.R_celln 0 HO_11.out ((ji29) : Int) (of_decide_eq_true (by (with_reducible assumption))) (of_decide_eq_true (by (with_reducible assumption)))
            have HP40 := Kd.R_putg HO_11.out ((ji29) : Int) t530
            (go_wp2_with (((with_reducible refine gate_store (t := 3) (p := 56) rfl ?_); refine store_event (t := 3) (p := 56) (v := ?vo_w41) (w1 := (w39.setCell ⟨go32, ((ji29) : Int).toNat, none⟩ (.int .i64 t530))) ?hg ?ho ?hn ?hr ?_; (case ho => rfl); (case hg => rfl); (case hn => rfl); (case hr => (go_simp; done)); intro w41 hw; have hg : w39.grownBy w41 (some go32) := (by rw [hw]; exact HP40.2); have hp_ : Kd.R (Kd.int .i64) 3 w41 w.heap.size (fun k_ => some k_ ≠ (.slice (some ad521) t515.length co18 : Value).ownBlock ∧ some k_ ≠ (.slice (some ad529) x8_1.length co37 : Value).ownBlock) (.slice (some ⟨go32, 0, none⟩) x11_1.length co32) y531 := (by rw [hw, Ny531.out]; exact HP40.1); clear HP40; have n0_ := Aside0.mk (Kd.R_after (v := (.slice (some ⟨go32, 0, none⟩) x11_1.length co32)) (v1 := (.slice (some ⟨go32, 0, none⟩) x11_1.length co32)) (ok := (fun k_ => some k_ ≠ (.slice (some ad529) x8_1.length co37 : Value).ownBlock)) HO_2.out hg (.inl rfl)); have n1_ := Aside0.mk (Kd.R_after (v := (.slice (some ⟨go32, 0, none⟩) x11_1.length co32)) (v1 := (.slice (some ⟨go32, 0, none⟩) x11_1.length co32)) (ok := (fun k_ => some k_ ≠ (.slice (some ad521) t515.length co18 : Value).ownBlock)) HO_8.out hg (.inl rfl)); have n2_ := Aside0.mk (hp_); have n3_ := Aside0.mk (blk_grown (g := gb514) (o := .cells #[.int .i64 a0_0, .int .i64 a0_1, .slice A0_2 l0_2.length c0_2] 24 (0, 0)) BK514.out hg (Kd.R_ne HO_11.out BK514.out (by decide))); have n4_ := Aside0.mk ((by rw [hw]; exact below_set (HB.out) GB32.out : Below w.heap.size w w41)); clear HO_2; clear HO_8; clear HO_11; clear BK514; clear HB; have HO_2 := n0_; have HO_8 := n1_; have HO_11 := n2_; have BK514 := n3_; have HB := n4_; clear n0_ n1_ n2_ n3_ n4_; clear hg hw hp_)))
            have n0_ := Aside0.mk (Kd.R_drew HO_2.out)
            have n1_ := Aside0.mk (Kd.R_drew HO_8.out)
            have n2_ := Aside0.mk (Kd.R_drew HO_11.out)
            have n3_ := Aside0.mk (blk_drew BK514.out)
            have n4_ := Aside0.mk (below_drew1 HB.out)
            clear HO_2 HO_8 HO_11 BK514 HB
            have HO_2 := n0_
            have HO_8 := n1_
            have HO_11 := n2_
            have BK514 := n3_
            have HB := n4_
            clear n0_ n1_ n2_ n3_ n4_
            refine start_ (n := 12) (S := fun w' => w'.cell? ⟨gb514, 0, none⟩ = some (.int .i64 a0_0) ∧ w'.cell? ⟨gb514, 1, none⟩ = some (.int .i64 a0_1) ∧ w'.cell? ⟨gb514, 2, none⟩ = some (.slice A0_2 l0_2.length c0_2)) (ds := []) (bm 12 0) (by kernel_rfl) rfl rfl ⟨(blk_cell BK514.out 0).trans rfl, (blk_cell BK514.out 1).trans rfl, (blk_cell BK514.out 2).trans rfl⟩ (fun hHeld => ?_); refine with_tabW codewrightref05_DivMod.tab10 codewrightref05_DivMod.bits10 (fun HT_ HW_ => ?_)
            generalize w41.drew = w42 at HO_2 HO_8 HO_11 BK514 HB hHeld ⊢
            refine pure_ (i := 1) (N := some 58) (v := ?_) (a' := ?_) (bm 12 2) rfl rfl (any_of HT_.out (by kernel_rfl)) (fun _ _ _ h => h) (Or.inl ⟨by rfl, ?_⟩) ?_ ?_;rotate_left;(intro w';go_simp;with_reducible rfl);rotate_left;(simp only [ps_];rfl)
            refine pure_ (i := 4) (N := some 61) (v := ?_) (a' := ?_) (bm 12 18) rfl rfl (any_of HT_.out (by kernel_rfl)) (fun _ _ _ h => h) (Or.inl ⟨by rfl, ?_⟩) ?_ ?_;rotate_left;(intro w';go_simp;with_reducible rfl);rotate_left;(simp only [ps_];rfl)
            refine pure_ (i := 5) (N := some 62) (v := ?_) (a' := ?_) (bm 12 50) rfl rfl (any_of HT_.out (by kernel_rfl)) (fun _ _ _ h => h) (Or.inl ⟨by rfl, ?_⟩) ?_ ?_;rotate_left;(intro w';go_simp;with_reducible rfl);rotate_left;(simp only [ps_];rfl)
            refine pure_ (i := 7) (N := some 64) (v := ?_) (a' := ?_) (bm 12 178) rfl rfl (any_of HT_.out (by kernel_rfl)) (fun _ _ _ h => h) (Or.inl ⟨by rfl, ?_⟩) ?_ ?_;rotate_left;(intro w';go_simp;with_reducible rfl);rotate_left;(simp only [ps_];rfl)
            refine take_ (i := 0) (N := some 57) (v := ?_) (a' := ?_) (bm 12 179) rfl rfl (take_ofW HT_.out HW_.out (by kernel_rfl)) (fun _ _ _ h => h) (Or.inl ⟨by rfl, ?_⟩) hHeld ?_ ?_;rotate_left;(rintro w' ⟨s0, s1, s2⟩;go_simp;with_reducible rfl);rotate_left;(simp only [ps_];rfl)
            refine take_ (i := 2) (N := some 59) (v := ?_) (a' := ?_) (bm 12 183) rfl rfl (take_ofW HT_.out HW_.out (by kernel_rfl)) (fun _ _ _ h => h) (Or.inl ⟨by rfl, ?_⟩) hHeld ?_ ?_;rotate_left;(rintro w' ⟨s0, s1, s2⟩;go_simp;with_reducible rfl);rotate_left;(simp only [ps_];rfl)
            refine take_ (i := 3) (N := some 60) (v := ?_) (a' := ?_) (bm 12 191) rfl rfl (take_ofW HT_.out HW_.out (by kernel_rfl)) (fun _ _ _ h => h) (Or.inl ⟨by rfl, ?_⟩) hHeld ?_ ?_;rotate_left;(rintro w' ⟨s0, s1, s2⟩;go_simp;with_reducible rfl);rotate_left;(simp only [ps_];rfl)
            refine one_ (i := 6) (N := some 63) (bm 12 255) rfl rfl (one_of HT_.out (by kernel_rfl)) (by decide) (fun K hK => ?_)
            refine goes_ Try.func42 (by kernel_rfl) rfl #[.agg #[.int .i64 a0_0, .int .i64 a0_1, .slice A0_2 l0_2.length c0_2], .int .i64 t530, .slice (some ad521) t515.length co18] (by rfl) rfl rfl (by ((simp only [List.map_toArray, List.map_cons, List.map_nil])); (rfl)) ?_
            with_reducible refine (codewrightref05_Scale.calls k1 a0_0 a0_1 _ _ l0_2 t530 _ _ t515 t532 _ ?side1 ?side2 ?side3 ?side4 A33.out).mono ?_
            (case side1 => repeat ((exact (Kd.C_below HR0_2.out HB.out))))
            (case side2 => exact HC0_2.out)
            (case side3 => repeat ((exact (Kd.R_reads' HO_2.out).2.2)))
            (case side4 => exact (Kd.R_reads' HO_2.out).2.1)
            rintro e w43 ⟨v533, rfl, ho0, hb⟩
            refine ⟨_, rfl, ?_⟩
            have n0_ := Aside0.mk (Kd.R_elder' HO_2.out (Kd.R_base ho0) hb)
            have n1_ := Aside0.mk (Kd.R_elder' HO_8.out (Kd.R_base ho0) hb)
            have n2_ := Aside0.mk (Kd.R_elder' HO_11.out (Kd.R_base ho0) hb)
            have n3_ := Aside0.mk (Kd.R_lower (Kd.R_new' (Kd.R_new' (Kd.R_new' ho0 (Kd.R_lt HO_2.out)) (Kd.R_lt HO_8.out)) (Kd.R_lt HO_11.out)) (below_size HB.out))
            have n4_ := Aside0.mk (blk_below (g := gb514) (o := .cells #[.int .i64 a0_0, .int .i64 a0_1, .slice A0_2 l0_2.length c0_2] 24 (0, 0)) BK514.out hb)
            have n5_ := Aside0.mk (below_step HB.out hb)
            clear HO_2 HO_8 HO_11 BK514 HB
            have HO_2 := n0_
            have HO_8 := n1_
            have HO_11 := n2_
            have HO534 := n3_
            have BK514 := n4_
            have HB := n5_
            clear n0_ n1_ n2_ n3_ n4_ n5_
            ((clear hb))
            ((clear ho0))
            refine hK.out _ _ ⟨(blk_cell BK514.out 0).trans rfl, (blk_cell BK514.out 1).trans rfl, (blk_cell BK514.out 2).trans rfl⟩ (fun hHeld => ?_)
            clear hK K
            refine norm_ (a' := ?_) ?_ ?_
            rotate_left
            ·show Act.put _ (some 63) _ = _
             simp only [Act.put, List.setIfInBounds_toArray, List.set_cons_zero, List.set_cons_succ, i64_w, i32_w]
             rfl
            refine one_ (i := 8) (N := some 65) (bm 12 511) rfl rfl (one_of HT_.out (by kernel_rfl)) (by decide) (fun K hK => ?_)
            refine goes_ Try.func76 (by kernel_rfl) rfl #[.int .i64 ji29] (by rfl) rfl rfl (by ((simp only [List.map_toArray, List.map_cons, List.map_nil])); (rfl)) ?_
            with_reducible refine (codewrightref05_Power.calls ji29 t535 _ A34.out).mono ?_
            rintro e w44 ⟨v536, rfl, ho0, hb⟩
            refine ⟨_, rfl, ?_⟩
            have n0_ := Aside0.mk (Kd.R_elder' HO_2.out (Kd.R_base ho0) hb)
            have n1_ := Aside0.mk (Kd.R_elder' HO_8.out (Kd.R_base ho0) hb)
            have n2_ := Aside0.mk (Kd.R_elder' HO_11.out (Kd.R_base ho0) hb)
            have n3_ := Aside0.mk (Kd.R_elder' HO534.out (Kd.R_base ho0) hb)
            have n4_ := Aside0.mk (Kd.R_lower (Kd.R_new' (Kd.R_new' (Kd.R_new' (Kd.R_new' ho0 (Kd.R_lt HO_2.out)) (Kd.R_lt HO_8.out)) (Kd.R_lt HO_11.out)) (Kd.R_lt HO534.out)) (below_size HB.out))
            have n5_ := Aside0.mk (blk_below (g := gb514) (o := .cells #[.int .i64 a0_0, .int .i64 a0_1, .slice A0_2 l0_2.length c0_2] 24 (0, 0)) BK514.out hb)
            have n6_ := Aside0.mk (below_step HB.out hb)
            clear HO_2 HO_8 HO_11 HO534 BK514 HB
            have HO_2 := n0_
            have HO_8 := n1_
            have HO_11 := n2_
            have HO534 := n3_
            have HO537 := n4_
            have BK514 := n5_
            have HB := n6_
            clear n0_ n1_ n2_ n3_ n4_ n5_ n6_
            ((clear hb))
            ((clear ho0))
            obtain ⟨Ao45, co45, eo45⟩ := Kd.R_slice HO534.out
            ((subst eo45))
            obtain ⟨Ao46, co46, eo46⟩ := Kd.R_slice HO537.out
            ((subst eo46))
            refine hK.out _ _ ⟨(blk_cell BK514.out 0).trans rfl, (blk_cell BK514.out 1).trans rfl, (blk_cell BK514.out 2).trans rfl⟩ (fun hHeld => ?_)
            clear hK K
            refine norm_ (a' := ?_) ?_ ?_
            rotate_left
            ·show Act.put _ (some 65) _ = _
             simp only [Act.put, List.setIfInBounds_toArray, List.set_cons_zero, List.set_cons_succ, i64_w, i32_w]
             rfl
            refine one_ (i := 9) (N := some 66) (bm 12 1023) rfl rfl (one_of HT_.out (by kernel_rfl)) (by decide) (fun K hK => ?_)
            refine goes_ Try.func36 (by kernel_rfl) rfl #[.agg #[.int .i64 a0_0, .int .i64 a0_1, .slice A0_2 l0_2.length c0_2], .slice Ao45 t532.length co45, .slice Ao46 t535.length co46] (by rfl) rfl rfl (by ((simp only [List.map_toArray, List.map_cons, List.map_nil])); (rfl)) ?_
            with_reducible refine (codewrightref05_Mul.calls k1 a0_0 a0_1 _ _ l0_2 _ _ t532 _ _ t535 t538 _ ?side1 ?side2 ?side3 ?side4 ?side5 ?side6 A35.out).mono ?_
            (case side1 => repeat ((exact (Kd.C_below HR0_2.out HB.out))))
            (case side2 => exact HC0_2.out)
            (case side3 => repeat ((exact (Kd.R_reads' HO534.out).2.2)))
            (case side4 => exact (Kd.R_reads' HO534.out).2.1)
            (case side5 => repeat ((exact (Kd.R_reads' HO537.out).2.2)))
            (case side6 => exact (Kd.R_reads' HO537.out).2.1)
            rintro e w47 ⟨v539, rfl, ho0, hb⟩
            refine ⟨_, rfl, ?_⟩
            have n0_ := Aside0.mk (Kd.R_elder' HO_2.out (Kd.R_base ho0) hb)
            have n1_ := Aside0.mk (Kd.R_elder' HO_8.out (Kd.R_base ho0) hb)
            have n2_ := Aside0.mk (Kd.R_elder' HO_11.out (Kd.R_base ho0) hb)
            have n3_ := Aside0.mk (Kd.R_elder' HO534.out (Kd.R_base ho0) hb)
            have n4_ := Aside0.mk (Kd.R_elder' HO537.out (Kd.R_base ho0) hb)
            have n5_ := Aside0.mk (Kd.R_lower (Kd.R_new' (Kd.R_new' (Kd.R_new' (Kd.R_new' (Kd.R_new' ho0 (Kd.R_lt HO_2.out)) (Kd.R_lt HO_8.out)) (Kd.R_lt HO_11.out)) (Kd.R_lt HO534.out)) (Kd.R_lt HO537.out)) (below_size HB.out))
            have n6_ := Aside0.mk (blk_below (g := gb514) (o := .cells #[.int .i64 a0_0, .int .i64 a0_1, .slice A0_2 l0_2.length c0_2] 24 (0, 0)) BK514.out hb)
            have n7_ := Aside0.mk (below_step HB.out hb)
            clear HO_2 HO_8 HO_11 HO534 HO537 BK514 HB
            have HO_2 := n0_
            have HO_8 := n1_
            have HO_11 := n2_
            have HO534 := n3_
            have HO537 := n4_
            have HO540 := n5_
            have BK514 := n6_
            have HB := n7_
            clear n0_ n1_ n2_ n3_ n4_ n5_ n6_ n7_
            ((clear hb))
            ((clear ho0))
            obtain ⟨Ao48, co48, eo48⟩ := Kd.R_slice HO540.out
            ((subst eo48))
            refine hK.out _ _ ⟨(blk_cell BK514.out 0).trans rfl, (blk_cell BK514.out 1).trans rfl, (blk_cell BK514.out 2).trans rfl⟩ (fun hHeld => ?_)
            clear hK K
            refine norm_ (a' := ?_) ?_ ?_
            rotate_left
            ·show Act.put _ (some 66) _ = _
             simp only [Act.put, List.setIfInBounds_toArray, List.set_cons_zero, List.set_cons_succ, i64_w, i32_w]
             rfl
            refine one_ (i := 10) (N := some 67) (bm 12 2047) rfl rfl (one_of HT_.out (by kernel_rfl)) (by decide) (fun K hK => ?_)
            refine goes_ Try.func75 (by kernel_rfl) rfl #[.agg #[.int .i64 a0_0, .int .i64 a0_1, .slice A0_2 l0_2.length c0_2], .slice (some ad529) x8_1.length co37, .slice Ao48 t538.length co48] (by rfl) rfl rfl (by ((simp only [List.map_toArray, List.map_cons, List.map_nil])); (rfl)) ?_
            with_reducible refine (codewrightref05_Sub.calls k1 a0_0 a0_1 _ _ l0_2 _ _ x8_1 _ _ t538 t541 _ ?side1 ?side2 ?side3 ?side4 ?side5 ?side6 A36.out).mono ?_
            (case side1 => repeat ((exact (Kd.C_below HR0_2.out HB.out))))
            (case side2 => exact HC0_2.out)
            (case side3 => repeat ((exact (Kd.R_reads' HO_8.out).2.2)))
            (case side4 => exact (Kd.R_reads' HO_8.out).2.1)
            (case side5 => repeat ((exact (Kd.R_reads' HO540.out).2.2)))
            (case side6 => exact (Kd.R_reads' HO540.out).2.1)
            rintro e w49 ⟨v542, rfl, ho0, hb⟩
            refine ⟨_, rfl, ?_⟩
            have n0_ := Aside0.mk (Kd.R_elder' HO_2.out (Kd.R_base ho0) hb)
            have n1_ := Aside0.mk (Kd.R_elder' HO_8.out (Kd.R_base ho0) hb)
            have n2_ := Aside0.mk (Kd.R_elder' HO_11.out (Kd.R_base ho0) hb)
            have n3_ := Aside0.mk (Kd.R_elder' HO534.out (Kd.R_base ho0) hb)
            have n4_ := Aside0.mk (Kd.R_elder' HO537.out (Kd.R_base ho0) hb)
            have n5_ := Aside0.mk (Kd.R_elder' HO540.out (Kd.R_base ho0) hb)
            have n6_ := Aside0.mk (Kd.R_lower (Kd.R_new' (Kd.R_new' (Kd.R_new' (Kd.R_new' (Kd.R_new' (Kd.R_new' ho0 (Kd.R_lt HO_2.out)) (Kd.R_lt HO_8.out)) (Kd.R_lt HO_11.out)) (Kd.R_lt HO534.out)) (Kd.R_lt HO537.out)) (Kd.R_lt HO540.out)) (below_size HB.out))
            have n7_ := Aside0.mk (blk_below (g := gb514) (o := .cells #[.int .i64 a0_0, .int .i64 a0_1, .slice A0_2 l0_2.length c0_2] 24 (0, 0)) BK514.out hb)
            have n8_ := Aside0.mk (below_step HB.out hb)
            clear HO_2 HO_8 HO_11 HO534 HO537 HO540 BK514 HB
            have HO_2 := n0_
            have HO_8 := n1_
            have HO_11 := n2_
            have HO534 := n3_
            have HO537 := n4_
            have HO540 := n5_
            have HO543 := n6_
            have BK514 := n7_
            have HB := n8_
            clear n0_ n1_ n2_ n3_ n4_ n5_ n6_ n7_ n8_
            ((clear hb))
            ((clear ho0))
            refine hK.out _ _ ⟨(blk_cell BK514.out 0).trans rfl, (blk_cell BK514.out 1).trans rfl, (blk_cell BK514.out 2).trans rfl⟩ (fun hHeld => ?_)
            clear hK K
            refine norm_ (a' := ?_) ?_ ?_
            rotate_left
            ·show Act.put _ (some 67) _ = _
             simp only [Act.put, List.setIfInBounds_toArray, List.set_cons_zero, List.set_cons_succ, i64_w, i32_w]
             rfl
            refine pure_ (i := 11) (N := some 8) (v := ?_) (a' := ?_) (bm 12 4095) rfl rfl (any_of HT_.out (by kernel_rfl)) (fun _ _ _ h => h) (Or.inl ⟨by rfl, ?_⟩) ?_ ?_;rotate_left;(intro w';go_simp;with_reducible rfl);rotate_left;(simp only [ps_];rfl)
            refine done_ (done_of HT_.out (by kernel_rfl)) ?_
            (go_wp2)
            go_roundg k1
            case measure => have := HK1.out; omega
            case rel => exact ⟨(t541), (y531), H', ⟨by have := HK1.out; omega⟩, ⟨by exact Kd.R_mono HO_2.out (fun _ hk => ⟨hk.2, hk.1.1.1.1.2⟩)⟩, ⟨by exact Kd.R_mono HO543.out (fun _ hk => ⟨hk.1.1.1.1.1.2, hk.1.1.1.2⟩)⟩, ⟨by exact Kd.R_mono HO_11.out (fun _ hk => ⟨hk.1.1.1.1.1, hk.2⟩)⟩, ⟨BK514.out⟩, ⟨by exact HB.out⟩⟩
           ·rw [if_neg c31] at H
            exact absurd H (by simp)
          ·rw [if_neg c30] at H
           exact absurd H (by simp)
         ·rw [if_neg c27] at H
          exact absurd H (by simp)
        ·rw [if_neg c26] at H
         exact absurd H (by simp)
       ·rw [if_neg c24] at H
        have c24b0 : decide (ji6 < (x8_1.length : Int)) = false := decide_eq_false c24
        clear c24
        obtain ⟨t526, A500, H⟩ := Option.bind_eq_some_iff.mp H
        replace H : (some (t526, x8_1)) = some (r1, r2) := H
        have A50 := Aside0.mk A500
        clear A500
        simp only [Option.some.injEq, Prod.mk.injEq] at H
        obtain ⟨rfl, rfl⟩ := H
        obtain ⟨Ao51, co51, eo51⟩ := Kd.R_slice HO_8.out
        subst eo51
        have hcz52_0 : wr.cell? ⟨gb514, 0, none⟩ = some (.int .i64 a0_0) := (blk_cell BK514.out 0).trans rfl
        have hcz52_1 : wr.cell? ⟨gb514, 1, none⟩ = some (.int .i64 a0_1) := (blk_cell BK514.out 1).trans rfl
        have hcz52_2 : wr.cell? ⟨gb514, 2, none⟩ = some (.slice A0_2 l0_2.length c0_2) := (blk_cell BK514.out 2).trans rfl
        have hfz52_0 := blk_frozen BK514.out 0
        have hfz52_1 := blk_frozen BK514.out 1
        have hfz52_2 := blk_frozen BK514.out 2
        obtain ⟨Ao53, co53, eo53⟩ := Kd.R_slice HO_11.out
        subst eo53
        go_wp2_with (((with_reducible refine gate_callee (f := 32) rfl ?_); refine goesL_ (some 70) rfl rfl Try.func32 (by kernel_rfl) rfl #[.agg #[.int .i64 a0_0, .int .i64 a0_1, .slice A0_2 l0_2.length c0_2], .slice Ao53 x11_1.length co53] rfl (by ((simp only [List.map_toArray, List.map_cons, List.map_nil])); (rfl)) ?_; (with_reducible refine (codewrightref05_Canon.calls k1 a0_0 a0_1 _ _ l0_2 _ _ x11_1 t526 _ ?side1 ?side2 ?side3 ?side4 A50.out).mono ?_); (case side1 => repeat ((exact (Kd.C_below HR0_2.out HB.out)))); (case side2 => exact HC0_2.out); (case side3 => repeat ((exact (Kd.R_reads' HO_11.out).2.2))); (case side4 => exact (Kd.R_reads' HO_11.out).2.1); rintro e w54 ⟨v527, rfl, ho0, hb⟩; refine ⟨_, rfl, ?_⟩; have n0_ := Aside0.mk (Kd.R_elder' HO_2.out (Kd.R_base ho0) hb); have n1_ := Aside0.mk (Kd.R_elder' HO_8.out (Kd.R_base ho0) hb); have n2_ := Aside0.mk (Kd.R_elder' HO_11.out (Kd.R_base ho0) hb); have n3_ := Aside0.mk (Kd.R_lower (Kd.R_new' (Kd.R_new' (Kd.R_new' ho0 (Kd.R_lt HO_2.out)) (Kd.R_lt HO_8.out)) (Kd.R_lt HO_11.out)) (below_size HB.out)); have n4_ := Aside0.mk (blk_below (g := gb514) (o := .cells #[.int .i64 a0_0, .int .i64 a0_1, .slice A0_2 l0_2.length c0_2] 24 (0, 0)) BK514.out hb); have n5_ := Aside0.mk (below_step HB.out hb); clear HO_2; clear HO_8; clear HO_11; clear BK514; clear HB; have HO_2 := n0_; have HO_8 := n1_; have HO_11 := n2_; have HO528 := n3_; have BK514 := n4_; have HB := n5_; clear n0_ n1_ n2_ n3_ n4_ n5_; ((clear hb)); (skip); (skip); (skip); ((clear ho0))))
        go_ret2
        exact ⟨_, _, by rfl, by exact Kd.R_mono HO528.out (fun _ hk => hk.1.2), by exact Kd.R_mono HO_8.out (fun _ hk => hk.2), by exact HB.out⟩
    ·rw [if_neg c12] at H
     exact absurd H (by simp)
   ·rw [if_neg c11] at H
    exact absurd H (by simp)
  ·rw [if_neg c8] at H
   exact absurd H (by simp)
 ·rw [if_neg c7] at H
  exact absurd H (by simp)
def codewrightref05_Rem.f (k : Nat) (a0_0 : Int) (a0_1 : Int) (l0_2 : List Int) (l1 : List Int) (l2 : List Int) : Option (List Int) := (codewrightref05_DivMod.f k a0_0 a0_1 l0_2 l1 l2).bind fun bt545 => (some bt545.2)
set_option maxHeartbeats 8000000 in
set_option maxRecDepth 100000 in
theorem codewrightref05_Rem.calls (k : Nat) (a0_0 : Int) (a0_1 : Int) (A0_2 : Option Addr) (c0_2 : Nat) (l0_2 : List Int) (A1 : Option Addr) (c1 : Nat) (l1 : List Int) (A2 : Option Addr) (c2 : Nat) (l2 : List Int) (r : List Int) (w : World) (hr0_2 : Kd.C (Kd.int .i64) w A0_2 l0_2.length l0_2) (hc0_2 : l0_2.length ≤ c0_2) (hr1 : Kd.C (Kd.int .i64) w A1 l1.length l1) (hc1 : l1.length ≤ c1) (hr2 : Kd.C (Kd.int .i64) w A2 l2.length l2) (hc2 : l2.length ≤ c2) (h : codewrightref05_Rem.f k a0_0 a0_1 l0_2 l1 l2 = some r) :
  Calls Try.prog 22 #[.agg #[.int .i64 a0_0, .int .i64 a0_1, .slice A0_2 l0_2.length c0_2], .slice A1 l1.length c1, .slice A2 l2.length c2] w fun e w' => ∃ v0_ : Value, e = .returned (v0_) ∧ Kd.R (Kd.int .i64) 3 w' w.heap.size (fun _ => True) v0_ r ∧ Below w.heap.size w w' := by
 have hu24 := Try.underlying24
 have HR0_2 := Aside0.mk hr0_2
 have HC0_2 := Aside0.mk hc0_2
 clear hr0_2 hc0_2
 have HR1 := Aside0.mk hr1
 have HC1 := Aside0.mk hc1
 clear hr1 hc1
 have HR2 := Aside0.mk hr2
 have HC2 := Aside0.mk hc2
 clear hr2 hc2
 have HB := Aside0.mk (Below.refl w.heap.size w)
 have H : ((codewrightref05_DivMod.f k a0_0 a0_1 l0_2 l1 l2).bind fun bt545 => (some bt545.2)) = some r := h
 clear h
 replace H := Option.bind_eq_some_iff.mp H
 obtain ⟨⟨t545, t548⟩, A40, H⟩ := H
 replace H : (some t548) = some r := H
 have A4 := Aside0.mk A40
 clear A40
 obtain rfl := Option.some.inj H
 go_enter Try.func22, Try.ntmps22
 go_wp2_with (first | ((with_reducible refine gate_dst (N := 3) rfl ?_); refine box_event ?hg (N := 3) ?hd (cs := #[.int .i64 a0_0, .int .i64 a0_1, .slice A0_2 l0_2.length c0_2]) (t := 24) ?hr ?_; (case hd => rfl); (case hg => rfl); (case hr => (go_simp; done)); intro gb544 hg w5 hbox hb; have n0_ := Aside0.mk (below_step HB.out hb); have n1_ := Aside0.mk (hbox); have n2_ := Aside0.mk ((by rw [hg]; exact (below_size HB.out) : w.heap.size ≤ gb544)); have n3_ := Aside0.mk ((by rw [hg]; exact (below_size HB.out) : w.heap.size ≤ gb544)); clear HB; have HB := n0_; have BK544 := n1_; have GW544 := n2_; have GE544 := n3_; clear n0_ n1_ n2_ n3_; clear hb hbox hg; have hcz6_0 : w5.cell? ⟨gb544, 0, none⟩ = some (.int .i64 a0_0) := (blk_cell BK544.out 0).trans rfl; have hcz6_1 : w5.cell? ⟨gb544, 1, none⟩ = some (.int .i64 a0_1) := (blk_cell BK544.out 1).trans rfl; have hcz6_2 : w5.cell? ⟨gb544, 2, none⟩ = some (.slice A0_2 l0_2.length c0_2) := (blk_cell BK544.out 2).trans rfl; have hfz6_0 := blk_frozen BK544.out 0; have hfz6_1 := blk_frozen BK544.out 1; have hfz6_2 := blk_frozen BK544.out 2) | ((with_reducible refine gate_callee (f := 47) rfl ?_); refine goesL_ (some 13) rfl rfl Try.func47 (by kernel_rfl) rfl #[.agg #[.int .i64 a0_0, .int .i64 a0_1, .slice A0_2 l0_2.length c0_2], .slice A1 l1.length c1, .slice A2 l2.length c2] rfl (by ((simp only [List.map_toArray, List.map_cons, List.map_nil])); (rfl)) ?_; (with_reducible refine (codewrightref05_DivMod.calls k a0_0 a0_1 _ _ l0_2 _ _ l1 _ _ l2 t545 t548 _ ?side1 ?side2 ?side3 ?side4 ?side5 ?side6 A4.out).mono ?_); (case side1 => repeat ((exact (Kd.C_below HR0_2.out HB.out)))); (case side2 => exact HC0_2.out); (case side3 => repeat ((exact (Kd.C_below HR1.out HB.out)))); (case side4 => exact HC1.out); (case side5 => repeat ((exact (Kd.C_below HR2.out HB.out)))); (case side6 => exact HC2.out); rintro e w7 ⟨v546, v549, rfl, ho0, ho1, hb⟩; refine ⟨_, rfl, ?_⟩; have n0_ := Aside0.mk (Kd.R_lower ho0 (below_size HB.out)); have n1_ := Aside0.mk (Kd.R_lower ho1 (below_size HB.out)); have n2_ := Aside0.mk (blk_below (g := gb544) (o := .cells #[.int .i64 a0_0, .int .i64 a0_1, .slice A0_2 l0_2.length c0_2] 24 (0, 0)) BK544.out hb); have n3_ := Aside0.mk (below_step HB.out hb); clear BK544; clear HB; have HO547 := n0_; have HO550 := n1_; have BK544 := n2_; have HB := n3_; clear n0_ n1_ n2_ n3_; ((clear hb)); (skip); (skip); (skip); ((clear ho0)); ((clear ho1))))
 go_ret
 exact ⟨_, by rfl, by exact Kd.R_mono HO550.out (fun _ hk => trivial), by exact HB.out⟩
end Go.Proofs.Ytiejggpmjapajaa.PA
end
section
namespace Go.Proofs.Ytiejggpmjapajaa.PA
open Go.RowKit Go.Proofs.YtiejggpmjapajaaW.PrintWords Go.Proofs.YtiejggpmjapajaaW.PrintLast Go.Proofs.YtiejggpmjapajaaW.PrintMore
attribute [local go_sem] max2_int min2_int max_two min_two max_three min_three max_four min_four
set_option linter.unusedVariables false
set_option linter.unusedSimpArgs false
def codewrightref05_PowMod.l0 : Nat → List Int → Int → List Int → List Int → Int → Int → List Int → Option (List Int)
 | 0, _, _, _, _, _, _, _ => none
 | k + 1, x1, x2, x3, x9, x552000, x552001, x552002 => if x2 > 0 then (if (Int.tmod x2 2) = 1 then ((codewrightref05_Mul.f k x552000 x552001 x552002 x9 x1).bind fun t561 => ((codewrightref05_Rem.f k x552000 x552001 x552002 t561 x3).bind fun t564 => ((codewrightref05_Mul.f k x552000 x552001 x552002 x1 x1).bind fun t567 => ((codewrightref05_Rem.f k x552000 x552001 x552002 t567 x3).bind fun t570 => (codewrightref05_PowMod.l0 k t570 (wrap64 (Int.tdiv x2 2)) x3 t564 x552000 x552001 x552002))))) else ((codewrightref05_Mul.f k x552000 x552001 x552002 x1 x1).bind fun t573 => ((codewrightref05_Rem.f k x552000 x552001 x552002 t573 x3).bind fun t576 => (codewrightref05_PowMod.l0 k t576 (wrap64 (Int.tdiv x2 2)) x3 x9 x552000 x552001 x552002)))) else (some x9)
def codewrightref05_PowMod.f (k : Nat) (a0_0 : Int) (a0_1 : Int) (l0_2 : List Int) (l1 : List Int) (a2 : Int) (l3 : List Int) : Option (List Int) := (codewrightref05_Rem.f k a0_0 a0_1 l0_2 (([1] : List Int)) l3).bind fun t555 => ((codewrightref05_Rem.f k a0_0 a0_1 l0_2 l1 l3).bind fun t558 => (codewrightref05_PowMod.l0 k t558 a2 l3 t555 a0_0 a0_1 l0_2))
def codewrightref05_PowMod.T5 : Bool × List (List Nat × List Nat) := (true, [([], []), ([], []), ([], []), ([], []), ([1, 2, 3], [1, 2, 3]), ([], []), ([0, 4, 5, 4], [0, 4, 5]), ([6, 6, 0, 1, 2, 3, 4, 5, 6], [2, 6])])
def codewrightref05_PowMod.B5 : List Nat := [0, 0, 0, 0, 14, 0, 63, 127]
theorem codewrightref05_PowMod.tab5 : rtab .any (opsOf Try.f15 5) = codewrightref05_PowMod.T5 := by kernel_rfl
theorem codewrightref05_PowMod.bits5 : waitsOk codewrightref05_PowMod.T5.2 codewrightref05_PowMod.B5 = true := by kernel_rfl
def codewrightref05_PowMod.T6 : Bool × List (List Nat × List Nat) := (true, [([], []), ([], []), ([], []), ([], []), ([1, 2, 3], [1, 2, 3]), ([], []), ([0, 4, 5, 4], [0, 4, 5]), ([6, 6, 0, 1, 2, 3, 4, 5, 6], [2, 3, 6])])
def codewrightref05_PowMod.B6 : List Nat := [0, 0, 0, 0, 14, 0, 63, 127]
theorem codewrightref05_PowMod.tab6 : rtab .any (opsOf Try.f15 6) = codewrightref05_PowMod.T6 := by kernel_rfl
theorem codewrightref05_PowMod.bits6 : waitsOk codewrightref05_PowMod.T6.2 codewrightref05_PowMod.B6 = true := by kernel_rfl
set_option maxHeartbeats 8000000 in
set_option maxRecDepth 100000 in
theorem codewrightref05_PowMod.calls (k : Nat) (a0_0 : Int) (a0_1 : Int) (A0_2 : Option Addr) (c0_2 : Nat) (l0_2 : List Int) (A1 : Option Addr) (c1 : Nat) (l1 : List Int) (a2 : Int) (A3 : Option Addr) (c3 : Nat) (l3 : List Int) (r : List Int) (w : World) (hr0_2 : Kd.C (Kd.int .i64) w A0_2 l0_2.length l0_2) (hc0_2 : l0_2.length ≤ c0_2) (hr1 : Kd.C (Kd.int .i64) w A1 l1.length l1) (hc1 : l1.length ≤ c1) (hr3 : Kd.C (Kd.int .i64) w A3 l3.length l3) (hc3 : l3.length ≤ c3) (h : codewrightref05_PowMod.f k a0_0 a0_1 l0_2 l1 a2 l3 = some r) :
  Calls Try.prog 15 #[.agg #[.int .i64 a0_0, .int .i64 a0_1, .slice A0_2 l0_2.length c0_2], .slice A1 l1.length c1, .int .i64 a2, .slice A3 l3.length c3] w fun e w' => ∃ v0_ : Value, e = .returned (v0_) ∧ Kd.R (Kd.int .i64) 3 w' w.heap.size (fun _ => True) v0_ r ∧ Below w.heap.size w w' := by
 have hu24 := Try.underlying24
 have HR0_2 := Aside0.mk hr0_2
 have HC0_2 := Aside0.mk hc0_2
 clear hr0_2 hc0_2
 have HR1 := Aside0.mk hr1
 have HC1 := Aside0.mk hc1
 clear hr1 hc1
 have HR3 := Aside0.mk hr3
 have HC3 := Aside0.mk hc3
 clear hr3 hc3
 have HB := Aside0.mk (Below.refl w.heap.size w)
 have H : ((codewrightref05_Rem.f k a0_0 a0_1 l0_2 (([1] : List Int)) l3).bind fun t555 => ((codewrightref05_Rem.f k a0_0 a0_1 l0_2 l1 l3).bind fun t558 => (codewrightref05_PowMod.l0 k t558 a2 l3 t555 a0_0 a0_1 l0_2))) = some r := h
 clear h
 obtain ⟨y552, hy552⟩ : ∃ y_ : List Int, y_ = (([1] : List Int)) := ⟨_, rfl⟩
 replace H : ((codewrightref05_Rem.f k a0_0 a0_1 l0_2 y552 l3).bind fun t555 => ((codewrightref05_Rem.f k a0_0 a0_1 l0_2 l1 l3).bind fun t558 => (codewrightref05_PowMod.l0 k t558 a2 l3 t555 a0_0 a0_1 l0_2))) = some r := by (rw [hy552]; with_reducible exact H)
 have Ny552 := Aside0.mk hy552
 clear hy552
 obtain ⟨t555, A50, H⟩ := Option.bind_eq_some_iff.mp H
 replace H : ((codewrightref05_Rem.f k a0_0 a0_1 l0_2 l1 l3).bind fun t558 => (codewrightref05_PowMod.l0 k t558 a2 l3 t555 a0_0 a0_1 l0_2)) = some r := H
 have A5 := Aside0.mk A50
 clear A50
 obtain ⟨t558, A60, H⟩ := Option.bind_eq_some_iff.mp H
 replace H : (codewrightref05_PowMod.l0 k t558 a2 l3 t555 a0_0 a0_1 l0_2) = some r := H
 have A6 := Aside0.mk A60
 clear A60
 have H' := Aside0.mk H
 clear H
 go_enter Try.func15, Try.ntmps15
 go_wp2_with (first | ((with_reducible refine gate_dst (N := 4) rfl ?_); refine box_event ?hg (N := 4) ?hd (cs := #[.int .i64 a0_0, .int .i64 a0_1, .slice A0_2 l0_2.length c0_2]) (t := 24) ?hr ?_; (case hd => rfl); (case hg => rfl); (case hr => (go_simp; done)); intro gb551 hg w7 hbox hb; have n0_ := Aside0.mk (below_step HB.out hb); have n1_ := Aside0.mk (hbox); have n2_ := Aside0.mk ((by rw [hg]; exact (below_size HB.out) : w.heap.size ≤ gb551)); have n3_ := Aside0.mk ((by rw [hg]; exact (below_size HB.out) : w.heap.size ≤ gb551)); clear HB; have HB := n0_; have BK551 := n1_; have GW551 := n2_; have GE551 := n3_; clear n0_ n1_ n2_ n3_; clear hb hbox hg; have hcz8_0 : w7.cell? ⟨gb551, 0, none⟩ = some (.int .i64 a0_0) := (blk_cell BK551.out 0).trans rfl; have hcz8_1 : w7.cell? ⟨gb551, 1, none⟩ = some (.int .i64 a0_1) := (blk_cell BK551.out 1).trans rfl; have hcz8_2 : w7.cell? ⟨gb551, 2, none⟩ = some (.slice A0_2 l0_2.length c0_2) := (blk_cell BK551.out 2).trans rfl; have hfz8_0 := blk_frozen BK551.out 0; have hfz8_1 := blk_frozen BK551.out 1; have hfz8_2 := blk_frozen BK551.out 2) | ((with_reducible refine gate_dst (N := 11) rfl ?_); refine Kd.R_lit (Kd.int .i64) _ 3 ?hg (N := 11) ?hd (xs := ([1] : List Int)) (inner := [.int .i64 1]) (ok := fun _ => True) (okp := fun _ => True) ?hr ?hp (fun _ hk => hk) trivial (Below.refl _ _) (Nat.le_refl _) (by simp) ?_; (case hd => rfl); (case hg => rfl); (case hr => (go_simp; done)); (case hp => exact (Reps.one (show Kd.M (Kd.int .i64) _ _ _ 1 [.int .i64 1] from rfl) (Reps.none _ _))); intro v553 w9 ho10 hb hg_ hnew_; clear hg_ hnew_; ((rw [← Ny552.out] at ho10)); have n0_ := Aside0.mk (Kd.R_lower ho10 (below_size HB.out)); have n1_ := Aside0.mk (blk_below (g := gb551) (o := .cells #[.int .i64 a0_0, .int .i64 a0_1, .slice A0_2 l0_2.length c0_2] 24 (0, 0)) BK551.out hb); have n2_ := Aside0.mk (below_step HB.out hb); clear BK551; clear HB; have HO554 := n0_; have BK551 := n1_; have HB := n2_; clear n0_ n1_ n2_; clear hb ho10; obtain ⟨Ao11, co11, eo11⟩ := Kd.R_slice HO554.out; subst eo11) | ((with_reducible refine gate_callee (f := 22) rfl ?_); refine goesL_ (some 13) rfl rfl Try.func22 (by kernel_rfl) rfl #[.agg #[.int .i64 a0_0, .int .i64 a0_1, .slice A0_2 l0_2.length c0_2], .slice Ao11 y552.length co11, .slice A3 l3.length c3] rfl (by ((simp only [List.map_toArray, List.map_cons, List.map_nil])); (rfl)) ?_; (with_reducible refine (codewrightref05_Rem.calls k a0_0 a0_1 _ _ l0_2 _ _ y552 _ _ l3 t555 _ ?side1 ?side2 ?side3 ?side4 ?side5 ?side6 A5.out).mono ?_); (case side1 => repeat ((exact (Kd.C_below HR0_2.out HB.out)))); (case side2 => exact HC0_2.out); (case side3 => repeat ((exact (Kd.R_reads' HO554.out).2.2))); (case side4 => exact (Kd.R_reads' HO554.out).2.1); (case side5 => repeat ((exact (Kd.C_below HR3.out HB.out)))); (case side6 => exact HC3.out); rintro e w12 ⟨v556, rfl, ho0, hb⟩; refine ⟨_, rfl, ?_⟩; have n0_ := Aside0.mk (Kd.R_elder' HO554.out (Kd.R_base ho0) hb); have n1_ := Aside0.mk (Kd.R_lower (Kd.R_new' ho0 (Kd.R_lt HO554.out)) (below_size HB.out)); have n2_ := Aside0.mk (blk_below (g := gb551) (o := .cells #[.int .i64 a0_0, .int .i64 a0_1, .slice A0_2 l0_2.length c0_2] 24 (0, 0)) BK551.out hb); have n3_ := Aside0.mk (below_step HB.out hb); clear HO554; clear BK551; clear HB; have HO554 := n0_; have HO557 := n1_; have BK551 := n2_; have HB := n3_; clear n0_ n1_ n2_ n3_; ((clear hb)); (skip); (skip); (skip); ((clear ho0)); have hcz13_0 : w12.cell? ⟨gb551, 0, none⟩ = some (.int .i64 a0_0) := (blk_cell BK551.out 0).trans rfl; have hcz13_1 : w12.cell? ⟨gb551, 1, none⟩ = some (.int .i64 a0_1) := (blk_cell BK551.out 1).trans rfl; have hcz13_2 : w12.cell? ⟨gb551, 2, none⟩ = some (.slice A0_2 l0_2.length c0_2) := (blk_cell BK551.out 2).trans rfl; have hfz13_0 := blk_frozen BK551.out 0; have hfz13_1 := blk_frozen BK551.out 1; have hfz13_2 := blk_frozen BK551.out 2) | ((with_reducible refine gate_callee (f := 22) rfl ?_); refine goesL_ (some 17) rfl rfl Try.func22 (by kernel_rfl) rfl #[.agg #[.int .i64 a0_0, .int .i64 a0_1, .slice A0_2 l0_2.length c0_2], .slice A1 l1.length c1, .slice A3 l3.length c3] rfl (by ((simp only [List.map_toArray, List.map_cons, List.map_nil])); (rfl)) ?_; (with_reducible refine (codewrightref05_Rem.calls k a0_0 a0_1 _ _ l0_2 _ _ l1 _ _ l3 t558 _ ?side1 ?side2 ?side3 ?side4 ?side5 ?side6 A6.out).mono ?_); (case side1 => repeat ((exact (Kd.C_below HR0_2.out HB.out)))); (case side2 => exact HC0_2.out); (case side3 => repeat ((exact (Kd.C_below HR1.out HB.out)))); (case side4 => exact HC1.out); (case side5 => repeat ((exact (Kd.C_below HR3.out HB.out)))); (case side6 => exact HC3.out); rintro e w14 ⟨v559, rfl, ho0, hb⟩; refine ⟨_, rfl, ?_⟩; have n0_ := Aside0.mk (Kd.R_elder' HO554.out (Kd.R_base ho0) hb); have n1_ := Aside0.mk (Kd.R_elder' HO557.out (Kd.R_base ho0) hb); have n2_ := Aside0.mk (Kd.R_lower (Kd.R_new' (Kd.R_new' ho0 (Kd.R_lt HO554.out)) (Kd.R_lt HO557.out)) (below_size HB.out)); have n3_ := Aside0.mk (blk_below (g := gb551) (o := .cells #[.int .i64 a0_0, .int .i64 a0_1, .slice A0_2 l0_2.length c0_2] 24 (0, 0)) BK551.out hb); have n4_ := Aside0.mk (below_step HB.out hb); clear HO554; clear HO557; clear BK551; clear HB; have HO554 := n0_; have HO557 := n1_; have HO560 := n2_; have BK551 := n3_; have HB := n4_; clear n0_ n1_ n2_ n3_ n4_; ((clear hb)); (skip); (skip); (skip); ((clear ho0))))
 go_loopg [1, 2, 9] k (fun kq v1 v2 v9 w' => ∃ (x1_1 : List Int) (x2_1 : Int) (x9_1 : List Int), v2 = .int .i64 x2_1 ∧ Aside0 (codewrightref05_PowMod.l0 kq x1_1 x2_1 l3 x9_1 a0_0 a0_1 l0_2 = some r) ∧ Aside0 (kq ≤ k) ∧ Aside0 (Kd.R (Kd.int .i64) 3 w' w.heap.size (fun k_ => some k_ ≠ (v9 : Value).ownBlock) v1 x1_1) ∧ Aside0 (Kd.R (Kd.int .i64) 3 w' w.heap.size (fun k_ => some k_ ≠ (v1 : Value).ownBlock) v9 x9_1) ∧ Aside0 (w'.heap[gb551]? = some (.cells #[.int .i64 a0_0, .int .i64 a0_1, (.slice A0_2 l0_2.length c0_2)] 24 (0, 0))) ∧ Aside0 (Below w.heap.size w w'))
 case atStart => exact ⟨(t558), (a2), (t555), (by rfl), H', ⟨Nat.le_refl _⟩, ⟨by exact Kd.R_mono HO560.out (fun _ hk => hk.2)⟩, ⟨by exact Kd.R_mono HO557.out (fun _ hk => hk.2)⟩, ⟨BK551.out⟩, ⟨by exact HB.out⟩⟩
 case round =>
  clear H' hcz13_0 hcz13_1 hcz13_2 hcz8_0 hcz8_1 hcz8_2 hfz13_0 hfz13_1 hfz13_2 hfz8_0 hfz8_1 hfz8_2
  obtain ⟨x1_1, x2_1, x9_1, rfl, HA, HK1, HO_1, HO_9, BK551, HB⟩ := hrel
  cases gk with
  | zero => exact absurd HA.out (by simp [codewrightref05_PowMod.l0])
  | succ k1 =>
   have H := HA.out
   clear HA
   simp only [codewrightref05_PowMod.l0] at H
   by_cases c15 : x2_1 > 0
   ·rw [if_pos c15] at H
    have c15b0 : decide (0 < x2_1) = true := decide_eq_true c15
    clear c15
    by_cases c16 : (Int.tmod x2_1 2) = 1
    ·rw [if_pos c16] at H
     have c16b0 : ((Int.tmod x2_1 2) == 1) = true := beq_iff_eq.mpr c16
     have c16b1 : ((Int.tmod x2_1 2) != 1) = false := bne_eq_false_iff_eq.mpr c16
     clear c16
     obtain ⟨t561, A170, H⟩ := Option.bind_eq_some_iff.mp H
     replace H : ((codewrightref05_Rem.f k1 a0_0 a0_1 l0_2 t561 l3).bind fun t564 => ((codewrightref05_Mul.f k1 a0_0 a0_1 l0_2 x1_1 x1_1).bind fun t567 => ((codewrightref05_Rem.f k1 a0_0 a0_1 l0_2 t567 l3).bind fun t570 => (codewrightref05_PowMod.l0 k1 t570 (wrap64 (Int.tdiv x2_1 2)) l3 t564 a0_0 a0_1 l0_2)))) = some r := H
     have A17 := Aside0.mk A170
     clear A170
     obtain ⟨t564, A180, H⟩ := Option.bind_eq_some_iff.mp H
     replace H : ((codewrightref05_Mul.f k1 a0_0 a0_1 l0_2 x1_1 x1_1).bind fun t567 => ((codewrightref05_Rem.f k1 a0_0 a0_1 l0_2 t567 l3).bind fun t570 => (codewrightref05_PowMod.l0 k1 t570 (wrap64 (Int.tdiv x2_1 2)) l3 t564 a0_0 a0_1 l0_2))) = some r := H
     have A18 := Aside0.mk A180
     clear A180
     obtain ⟨t567, A190, H⟩ := Option.bind_eq_some_iff.mp H
     replace H : ((codewrightref05_Rem.f k1 a0_0 a0_1 l0_2 t567 l3).bind fun t570 => (codewrightref05_PowMod.l0 k1 t570 (wrap64 (Int.tdiv x2_1 2)) l3 t564 a0_0 a0_1 l0_2)) = some r := H
     have A19 := Aside0.mk A190
     clear A190
     obtain ⟨t570, A200, H⟩ := Option.bind_eq_some_iff.mp H
     replace H : (codewrightref05_PowMod.l0 k1 t570 (wrap64 (Int.tdiv x2_1 2)) l3 t564 a0_0 a0_1 l0_2) = some r := H
     have A20 := Aside0.mk A200
     clear A200
     have H' := Aside0.mk H
     clear H
     (go_wp2)
     have n0_ := Aside0.mk (Kd.R_drew HO_1.out)
     have n1_ := Aside0.mk (Kd.R_drew HO_9.out)
     have n2_ := Aside0.mk (blk_drew BK551.out)
     have n3_ := Aside0.mk (below_drew1 HB.out)
     clear HO_1 HO_9 BK551 HB
     have HO_1 := n0_
     have HO_9 := n1_
     have BK551 := n2_
     have HB := n3_
     clear n0_ n1_ n2_ n3_
     obtain ⟨Ao22, co22, eo22⟩ := Kd.R_slice HO_9.out
     ((subst eo22))
     obtain ⟨Ao23, co23, eo23⟩ := Kd.R_slice HO_1.out
     ((subst eo23))
     refine start_ (n := 8) (S := fun w' => w'.cell? ⟨gb551, 0, none⟩ = some (.int .i64 a0_0) ∧ w'.cell? ⟨gb551, 1, none⟩ = some (.int .i64 a0_1) ∧ w'.cell? ⟨gb551, 2, none⟩ = some (.slice A0_2 l0_2.length c0_2)) (ds := []) (bm 8 0) (by kernel_rfl) rfl rfl ⟨(blk_cell BK551.out 0).trans rfl, (blk_cell BK551.out 1).trans rfl, (blk_cell BK551.out 2).trans rfl⟩ (fun hHeld => ?_); refine with_tabW codewrightref05_PowMod.tab5 codewrightref05_PowMod.bits5 (fun HT_ HW_ => ?_)
     generalize wr.drew = w21 at HO_1 HO_9 BK551 HB hHeld ⊢
     refine pure_ (i := 2) (N := some 25) (v := ?_) (a' := ?_) (bm 8 4) rfl rfl (any_of HT_.out (by kernel_rfl)) (fun _ _ _ h => h) (Or.inl ⟨by rfl, ?_⟩) ?_ ?_;rotate_left;(intro w';go_simp;with_reducible rfl);rotate_left;(simp only [ps_];rfl)
     refine pure_ (i := 3) (N := some 26) (v := ?_) (a' := ?_) (bm 8 12) rfl rfl (any_of HT_.out (by kernel_rfl)) (fun _ _ _ h => h) (Or.inl ⟨by rfl, ?_⟩) ?_ ?_;rotate_left;(intro w';go_simp;with_reducible rfl);rotate_left;(simp only [ps_];rfl)
     refine pure_ (i := 5) (N := some 28) (v := ?_) (a' := ?_) (bm 8 44) rfl rfl (any_of HT_.out (by kernel_rfl)) (fun _ _ _ h => h) (Or.inl ⟨by rfl, ?_⟩) ?_ ?_;rotate_left;(intro w';go_simp;with_reducible rfl);rotate_left;(simp only [ps_];rfl)
     refine take_ (i := 0) (N := some 23) (v := ?_) (a' := ?_) (bm 8 45) rfl rfl (take_ofW HT_.out HW_.out (by kernel_rfl)) (fun _ _ _ h => h) (Or.inl ⟨by rfl, ?_⟩) hHeld ?_ ?_;rotate_left;(rintro w' ⟨s0, s1, s2⟩;go_simp;with_reducible rfl);rotate_left;(simp only [ps_];rfl)
     refine take_ (i := 1) (N := some 24) (v := ?_) (a' := ?_) (bm 8 47) rfl rfl (take_ofW HT_.out HW_.out (by kernel_rfl)) (fun _ _ _ h => h) (Or.inl ⟨by rfl, ?_⟩) hHeld ?_ ?_;rotate_left;(rintro w' ⟨s0, s1, s2⟩;go_simp;with_reducible rfl);rotate_left;(simp only [ps_];rfl)
     refine one_ (i := 4) (N := some 27) (bm 8 63) rfl rfl (one_of HT_.out (by kernel_rfl)) (by decide) (fun K hK => ?_)
     refine goes_ Try.func36 (by kernel_rfl) rfl #[.agg #[.int .i64 a0_0, .int .i64 a0_1, .slice A0_2 l0_2.length c0_2], .slice Ao22 x9_1.length co22, .slice Ao23 x1_1.length co23] (by rfl) rfl rfl (by ((simp only [List.map_toArray, List.map_cons, List.map_nil])); (rfl)) ?_
     with_reducible refine (codewrightref05_Mul.calls k1 a0_0 a0_1 _ _ l0_2 _ _ x9_1 _ _ x1_1 t561 _ ?side1 ?side2 ?side3 ?side4 ?side5 ?side6 A17.out).mono ?_
     (case side1 => repeat ((exact (Kd.C_below HR0_2.out HB.out))))
     (case side2 => exact HC0_2.out)
     (case side3 => repeat ((exact (Kd.R_reads' HO_9.out).2.2)))
     (case side4 => exact (Kd.R_reads' HO_9.out).2.1)
     (case side5 => repeat ((exact (Kd.R_reads' HO_1.out).2.2)))
     (case side6 => exact (Kd.R_reads' HO_1.out).2.1)
     rintro e w24 ⟨v562, rfl, ho0, hb⟩
     refine ⟨_, rfl, ?_⟩
     have n0_ := Aside0.mk (Kd.R_elder' HO_1.out (Kd.R_base ho0) hb)
     have n1_ := Aside0.mk (Kd.R_elder' HO_9.out (Kd.R_base ho0) hb)
     have n2_ := Aside0.mk (Kd.R_lower (Kd.R_new' (Kd.R_new' ho0 (Kd.R_lt HO_1.out)) (Kd.R_lt HO_9.out)) (below_size HB.out))
     have n3_ := Aside0.mk (blk_below (g := gb551) (o := .cells #[.int .i64 a0_0, .int .i64 a0_1, .slice A0_2 l0_2.length c0_2] 24 (0, 0)) BK551.out hb)
     have n4_ := Aside0.mk (below_step HB.out hb)
     clear HO_1 HO_9 BK551 HB
     have HO_1 := n0_
     have HO_9 := n1_
     have HO563 := n2_
     have BK551 := n3_
     have HB := n4_
     clear n0_ n1_ n2_ n3_ n4_
     ((clear hb))
     ((clear ho0))
     obtain ⟨Ao25, co25, eo25⟩ := Kd.R_slice HO563.out
     ((subst eo25))
     refine hK.out _ _ ⟨(blk_cell BK551.out 0).trans rfl, (blk_cell BK551.out 1).trans rfl, (blk_cell BK551.out 2).trans rfl⟩ (fun hHeld => ?_)
     clear hK K
     refine norm_ (a' := ?_) ?_ ?_
     rotate_left
     ·show Act.put _ (some 27) _ = _
      simp only [Act.put, List.setIfInBounds_toArray, List.set_cons_zero, List.set_cons_succ, i64_w, i32_w]
      rfl
     refine one_ (i := 6) (N := some 29) (bm 8 127) rfl rfl (one_of HT_.out (by kernel_rfl)) (by decide) (fun K hK => ?_)
     refine goes_ Try.func22 (by kernel_rfl) rfl #[.agg #[.int .i64 a0_0, .int .i64 a0_1, .slice A0_2 l0_2.length c0_2], .slice Ao25 t561.length co25, .slice A3 l3.length c3] (by rfl) rfl rfl (by ((simp only [List.map_toArray, List.map_cons, List.map_nil])); (rfl)) ?_
     with_reducible refine (codewrightref05_Rem.calls k1 a0_0 a0_1 _ _ l0_2 _ _ t561 _ _ l3 t564 _ ?side1 ?side2 ?side3 ?side4 ?side5 ?side6 A18.out).mono ?_
     (case side1 => repeat ((exact (Kd.C_below HR0_2.out HB.out))))
     (case side2 => exact HC0_2.out)
     (case side3 => repeat ((exact (Kd.R_reads' HO563.out).2.2)))
     (case side4 => exact (Kd.R_reads' HO563.out).2.1)
     (case side5 => repeat ((exact (Kd.C_below HR3.out HB.out))))
     (case side6 => exact HC3.out)
     rintro e w26 ⟨v565, rfl, ho0, hb⟩
     refine ⟨_, rfl, ?_⟩
     have n0_ := Aside0.mk (Kd.R_elder' HO_1.out (Kd.R_base ho0) hb)
     have n1_ := Aside0.mk (Kd.R_elder' HO_9.out (Kd.R_base ho0) hb)
     have n2_ := Aside0.mk (Kd.R_elder' HO563.out (Kd.R_base ho0) hb)
     have n3_ := Aside0.mk (Kd.R_lower (Kd.R_new' (Kd.R_new' (Kd.R_new' ho0 (Kd.R_lt HO_1.out)) (Kd.R_lt HO_9.out)) (Kd.R_lt HO563.out)) (below_size HB.out))
     have n4_ := Aside0.mk (blk_below (g := gb551) (o := .cells #[.int .i64 a0_0, .int .i64 a0_1, .slice A0_2 l0_2.length c0_2] 24 (0, 0)) BK551.out hb)
     have n5_ := Aside0.mk (below_step HB.out hb)
     clear HO_1 HO_9 HO563 BK551 HB
     have HO_1 := n0_
     have HO_9 := n1_
     have HO563 := n2_
     have HO566 := n3_
     have BK551 := n4_
     have HB := n5_
     clear n0_ n1_ n2_ n3_ n4_ n5_
     ((clear hb))
     ((clear ho0))
     refine hK.out _ _ ⟨(blk_cell BK551.out 0).trans rfl, (blk_cell BK551.out 1).trans rfl, (blk_cell BK551.out 2).trans rfl⟩ (fun hHeld => ?_)
     clear hK K
     refine norm_ (a' := ?_) ?_ ?_
     rotate_left
     ·show Act.put _ (some 29) _ = _
      simp only [Act.put, List.setIfInBounds_toArray, List.set_cons_zero, List.set_cons_succ, i64_w, i32_w]
      rfl
     refine pure_ (i := 7) (N := some 9) (v := ?_) (a' := ?_) (bm 8 255) rfl rfl (any_of HT_.out (by kernel_rfl)) (fun _ _ _ h => h) (Or.inl ⟨by rfl, ?_⟩) ?_ ?_;rotate_left;(intro w';go_simp;with_reducible rfl);rotate_left;(simp only [ps_];rfl)
     refine done_ (done_of HT_.out (by kernel_rfl)) ?_
     (go_wp2)
     have n0_ := Aside0.mk (Kd.R_drew HO_1.out)
     have n1_ := Aside0.mk (Kd.R_drew HO_9.out)
     have n2_ := Aside0.mk (Kd.R_drew HO563.out)
     have n3_ := Aside0.mk (Kd.R_drew HO566.out)
     have n4_ := Aside0.mk (blk_drew BK551.out)
     have n5_ := Aside0.mk (below_drew1 HB.out)
     clear HO_1 HO_9 HO563 HO566 BK551 HB
     have HO_1 := n0_
     have HO_9 := n1_
     have HO563 := n2_
     have HO566 := n3_
     have BK551 := n4_
     have HB := n5_
     clear n0_ n1_ n2_ n3_ n4_ n5_
     refine start_ (n := 8) (S := fun w' => w'.cell? ⟨gb551, 0, none⟩ = some (.int .i64 a0_0) ∧ w'.cell? ⟨gb551, 1, none⟩ = some (.int .i64 a0_1) ∧ w'.cell? ⟨gb551, 2, none⟩ = some (.slice A0_2 l0_2.length c0_2)) (ds := []) (bm 8 0) (by kernel_rfl) rfl rfl ⟨(blk_cell BK551.out 0).trans rfl, (blk_cell BK551.out 1).trans rfl, (blk_cell BK551.out 2).trans rfl⟩ (fun hHeld => ?_); refine with_tabW codewrightref05_PowMod.tab6 codewrightref05_PowMod.bits6 (fun HT_ HW_ => ?_)
     generalize w26.drew = w27 at HO_1 HO_9 HO563 HO566 BK551 HB hHeld ⊢
     refine pure_ (i := 2) (N := some 32) (v := ?_) (a' := ?_) (bm 8 4) rfl rfl (any_of HT_.out (by kernel_rfl)) (fun _ _ _ h => h) (Or.inl ⟨by rfl, ?_⟩) ?_ ?_;rotate_left;(intro w';go_simp;with_reducible rfl);rotate_left;(simp only [ps_];rfl)
     refine pure_ (i := 3) (N := some 33) (v := ?_) (a' := ?_) (bm 8 12) rfl rfl (any_of HT_.out (by kernel_rfl)) (fun _ _ _ h => h) (Or.inl ⟨by rfl, ?_⟩) ?_ ?_;rotate_left;(intro w';go_simp;with_reducible rfl);rotate_left;(simp only [ps_];rfl)
     refine pure_ (i := 5) (N := some 35) (v := ?_) (a' := ?_) (bm 8 44) rfl rfl (any_of HT_.out (by kernel_rfl)) (fun _ _ _ h => h) (Or.inl ⟨by rfl, ?_⟩) ?_ ?_;rotate_left;(intro w';go_simp;with_reducible rfl);rotate_left;(simp only [ps_];rfl)
     refine take_ (i := 0) (N := some 30) (v := ?_) (a' := ?_) (bm 8 45) rfl rfl (take_ofW HT_.out HW_.out (by kernel_rfl)) (fun _ _ _ h => h) (Or.inl ⟨by rfl, ?_⟩) hHeld ?_ ?_;rotate_left;(rintro w' ⟨s0, s1, s2⟩;go_simp;with_reducible rfl);rotate_left;(simp only [ps_];rfl)
     refine take_ (i := 1) (N := some 31) (v := ?_) (a' := ?_) (bm 8 47) rfl rfl (take_ofW HT_.out HW_.out (by kernel_rfl)) (fun _ _ _ h => h) (Or.inl ⟨by rfl, ?_⟩) hHeld ?_ ?_;rotate_left;(rintro w' ⟨s0, s1, s2⟩;go_simp;with_reducible rfl);rotate_left;(simp only [ps_];rfl)
     refine one_ (i := 4) (N := some 34) (bm 8 63) rfl rfl (one_of HT_.out (by kernel_rfl)) (by decide) (fun K hK => ?_)
     refine goes_ Try.func36 (by kernel_rfl) rfl #[.agg #[.int .i64 a0_0, .int .i64 a0_1, .slice A0_2 l0_2.length c0_2], .slice Ao23 x1_1.length co23, .slice Ao23 x1_1.length co23] (by rfl) rfl rfl (by ((simp only [List.map_toArray, List.map_cons, List.map_nil])); (rfl)) ?_
     with_reducible refine (codewrightref05_Mul.calls k1 a0_0 a0_1 _ _ l0_2 _ _ x1_1 _ _ x1_1 t567 _ ?side1 ?side2 ?side3 ?side4 ?side5 ?side6 A19.out).mono ?_
     (case side1 => repeat ((exact (Kd.C_below HR0_2.out HB.out))))
     (case side2 => exact HC0_2.out)
     (case side3 => repeat ((exact (Kd.R_reads' HO_1.out).2.2)))
     (case side4 => exact (Kd.R_reads' HO_1.out).2.1)
     (case side5 => repeat ((exact (Kd.R_reads' HO_1.out).2.2)))
     (case side6 => exact (Kd.R_reads' HO_1.out).2.1)
     rintro e w28 ⟨v568, rfl, ho0, hb⟩
     refine ⟨_, rfl, ?_⟩
     have n0_ := Aside0.mk (Kd.R_elder' HO_1.out (Kd.R_base ho0) hb)
     have n1_ := Aside0.mk (Kd.R_elder' HO_9.out (Kd.R_base ho0) hb)
     have n2_ := Aside0.mk (Kd.R_elder' HO563.out (Kd.R_base ho0) hb)
     have n3_ := Aside0.mk (Kd.R_elder' HO566.out (Kd.R_base ho0) hb)
     have n4_ := Aside0.mk (Kd.R_lower (Kd.R_new' (Kd.R_new' (Kd.R_new' (Kd.R_new' ho0 (Kd.R_lt HO_1.out)) (Kd.R_lt HO_9.out)) (Kd.R_lt HO563.out)) (Kd.R_lt HO566.out)) (below_size HB.out))
     have n5_ := Aside0.mk (blk_below (g := gb551) (o := .cells #[.int .i64 a0_0, .int .i64 a0_1, .slice A0_2 l0_2.length c0_2] 24 (0, 0)) BK551.out hb)
     have n6_ := Aside0.mk (below_step HB.out hb)
     clear HO_1 HO_9 HO563 HO566 BK551 HB
     have HO_1 := n0_
     have HO_9 := n1_
     have HO563 := n2_
     have HO566 := n3_
     have HO569 := n4_
     have BK551 := n5_
     have HB := n6_
     clear n0_ n1_ n2_ n3_ n4_ n5_ n6_
     ((clear hb))
     ((clear ho0))
     obtain ⟨Ao29, co29, eo29⟩ := Kd.R_slice HO569.out
     ((subst eo29))
     refine hK.out _ _ ⟨(blk_cell BK551.out 0).trans rfl, (blk_cell BK551.out 1).trans rfl, (blk_cell BK551.out 2).trans rfl⟩ (fun hHeld => ?_)
     clear hK K
     refine norm_ (a' := ?_) ?_ ?_
     rotate_left
     ·show Act.put _ (some 34) _ = _
      simp only [Act.put, List.setIfInBounds_toArray, List.set_cons_zero, List.set_cons_succ, i64_w, i32_w]
      rfl
     refine one_ (i := 6) (N := some 36) (bm 8 127) rfl rfl (one_of HT_.out (by kernel_rfl)) (by decide) (fun K hK => ?_)
     refine goes_ Try.func22 (by kernel_rfl) rfl #[.agg #[.int .i64 a0_0, .int .i64 a0_1, .slice A0_2 l0_2.length c0_2], .slice Ao29 t567.length co29, .slice A3 l3.length c3] (by rfl) rfl rfl (by ((simp only [List.map_toArray, List.map_cons, List.map_nil])); (rfl)) ?_
     with_reducible refine (codewrightref05_Rem.calls k1 a0_0 a0_1 _ _ l0_2 _ _ t567 _ _ l3 t570 _ ?side1 ?side2 ?side3 ?side4 ?side5 ?side6 A20.out).mono ?_
     (case side1 => repeat ((exact (Kd.C_below HR0_2.out HB.out))))
     (case side2 => exact HC0_2.out)
     (case side3 => repeat ((exact (Kd.R_reads' HO569.out).2.2)))
     (case side4 => exact (Kd.R_reads' HO569.out).2.1)
     (case side5 => repeat ((exact (Kd.C_below HR3.out HB.out))))
     (case side6 => exact HC3.out)
     rintro e w30 ⟨v571, rfl, ho0, hb⟩
     refine ⟨_, rfl, ?_⟩
     have n0_ := Aside0.mk (Kd.R_elder' HO_1.out (Kd.R_base ho0) hb)
     have n1_ := Aside0.mk (Kd.R_elder' HO_9.out (Kd.R_base ho0) hb)
     have n2_ := Aside0.mk (Kd.R_elder' HO563.out (Kd.R_base ho0) hb)
     have n3_ := Aside0.mk (Kd.R_elder' HO566.out (Kd.R_base ho0) hb)
     have n4_ := Aside0.mk (Kd.R_elder' HO569.out (Kd.R_base ho0) hb)
     have n5_ := Aside0.mk (Kd.R_lower (Kd.R_new' (Kd.R_new' (Kd.R_new' (Kd.R_new' (Kd.R_new' ho0 (Kd.R_lt HO_1.out)) (Kd.R_lt HO_9.out)) (Kd.R_lt HO563.out)) (Kd.R_lt HO566.out)) (Kd.R_lt HO569.out)) (below_size HB.out))
     have n6_ := Aside0.mk (blk_below (g := gb551) (o := .cells #[.int .i64 a0_0, .int .i64 a0_1, .slice A0_2 l0_2.length c0_2] 24 (0, 0)) BK551.out hb)
     have n7_ := Aside0.mk (below_step HB.out hb)
     clear HO_1 HO_9 HO563 HO566 HO569 BK551 HB
     have HO_1 := n0_
     have HO_9 := n1_
     have HO563 := n2_
     have HO566 := n3_
     have HO569 := n4_
     have HO572 := n5_
     have BK551 := n6_
     have HB := n7_
     clear n0_ n1_ n2_ n3_ n4_ n5_ n6_ n7_
     ((clear hb))
     ((clear ho0))
     refine hK.out _ _ ⟨(blk_cell BK551.out 0).trans rfl, (blk_cell BK551.out 1).trans rfl, (blk_cell BK551.out 2).trans rfl⟩ (fun hHeld => ?_)
     clear hK K
     refine norm_ (a' := ?_) ?_ ?_
     rotate_left
     ·show Act.put _ (some 36) _ = _
      simp only [Act.put, List.setIfInBounds_toArray, List.set_cons_zero, List.set_cons_succ, i64_w, i32_w]
      rfl
     refine pure_ (i := 7) (N := some 1) (v := ?_) (a' := ?_) (bm 8 255) rfl rfl (any_of HT_.out (by kernel_rfl)) (fun _ _ _ h => h) (Or.inl ⟨by rfl, ?_⟩) ?_ ?_;rotate_left;(intro w';go_simp;with_reducible rfl);rotate_left;(simp only [ps_];rfl)
     refine done_ (done_of HT_.out (by kernel_rfl)) ?_
     (go_wp2)
     go_roundg k1
     case measure => have := HK1.out; omega
     case rel => exact ⟨(t570), (wrap64 (Int.tdiv x2_1 2)), (t564), (by rfl), H', ⟨by have := HK1.out; omega⟩, ⟨by exact Kd.R_mono HO572.out (fun _ hk => hk.1.2)⟩, ⟨by exact Kd.R_mono HO566.out (fun _ hk => hk.2)⟩, ⟨BK551.out⟩, ⟨by exact HB.out⟩⟩
    ·rw [if_neg c16] at H
     have c16b0 : ((Int.tmod x2_1 2) == 1) = false := beq_eq_false_iff_ne.mpr c16
     have c16b1 : ((Int.tmod x2_1 2) != 1) = true := bne_iff_ne.mpr c16
     obtain ⟨t573, A310, H⟩ := Option.bind_eq_some_iff.mp H
     replace H : ((codewrightref05_Rem.f k1 a0_0 a0_1 l0_2 t573 l3).bind fun t576 => (codewrightref05_PowMod.l0 k1 t576 (wrap64 (Int.tdiv x2_1 2)) l3 x9_1 a0_0 a0_1 l0_2)) = some r := H
     have A31 := Aside0.mk A310
     clear A310
     obtain ⟨t576, A320, H⟩ := Option.bind_eq_some_iff.mp H
     replace H : (codewrightref05_PowMod.l0 k1 t576 (wrap64 (Int.tdiv x2_1 2)) l3 x9_1 a0_0 a0_1 l0_2) = some r := H
     have A32 := Aside0.mk A320
     clear A320
     have H' := Aside0.mk H
     clear H
     (go_wp2)
     have n0_ := Aside0.mk (Kd.R_drew HO_1.out)
     have n1_ := Aside0.mk (Kd.R_drew HO_9.out)
     have n2_ := Aside0.mk (blk_drew BK551.out)
     have n3_ := Aside0.mk (below_drew1 HB.out)
     clear HO_1 HO_9 BK551 HB
     have HO_1 := n0_
     have HO_9 := n1_
     have BK551 := n2_
     have HB := n3_
     clear n0_ n1_ n2_ n3_
     obtain ⟨Ao34, co34, eo34⟩ := Kd.R_slice HO_1.out
     ((subst eo34))
     refine start_ (n := 8) (S := fun w' => w'.cell? ⟨gb551, 0, none⟩ = some (.int .i64 a0_0) ∧ w'.cell? ⟨gb551, 1, none⟩ = some (.int .i64 a0_1) ∧ w'.cell? ⟨gb551, 2, none⟩ = some (.slice A0_2 l0_2.length c0_2)) (ds := []) (bm 8 0) (by kernel_rfl) rfl rfl ⟨(blk_cell BK551.out 0).trans rfl, (blk_cell BK551.out 1).trans rfl, (blk_cell BK551.out 2).trans rfl⟩ (fun hHeld => ?_); refine with_tabW codewrightref05_PowMod.tab6 codewrightref05_PowMod.bits6 (fun HT_ HW_ => ?_)
     generalize wr.drew = w33 at HO_1 HO_9 BK551 HB hHeld ⊢
     refine pure_ (i := 2) (N := some 32) (v := ?_) (a' := ?_) (bm 8 4) rfl rfl (any_of HT_.out (by kernel_rfl)) (fun _ _ _ h => h) (Or.inl ⟨by rfl, ?_⟩) ?_ ?_;rotate_left;(intro w';go_simp;with_reducible rfl);rotate_left;(simp only [ps_];rfl)
     refine pure_ (i := 3) (N := some 33) (v := ?_) (a' := ?_) (bm 8 12) rfl rfl (any_of HT_.out (by kernel_rfl)) (fun _ _ _ h => h) (Or.inl ⟨by rfl, ?_⟩) ?_ ?_;rotate_left;(intro w';go_simp;with_reducible rfl);rotate_left;(simp only [ps_];rfl)
     refine pure_ (i := 5) (N := some 35) (v := ?_) (a' := ?_) (bm 8 44) rfl rfl (any_of HT_.out (by kernel_rfl)) (fun _ _ _ h => h) (Or.inl ⟨by rfl, ?_⟩) ?_ ?_;rotate_left;(intro w';go_simp;with_reducible rfl);rotate_left;(simp only [ps_];rfl)
     refine take_ (i := 0) (N := some 30) (v := ?_) (a' := ?_) (bm 8 45) rfl rfl (take_ofW HT_.out HW_.out (by kernel_rfl)) (fun _ _ _ h => h) (Or.inl ⟨by rfl, ?_⟩) hHeld ?_ ?_;rotate_left;(rintro w' ⟨s0, s1, s2⟩;go_simp;with_reducible rfl);rotate_left;(simp only [ps_];rfl)
     refine take_ (i := 1) (N := some 31) (v := ?_) (a' := ?_) (bm 8 47) rfl rfl (take_ofW HT_.out HW_.out (by kernel_rfl)) (fun _ _ _ h => h) (Or.inl ⟨by rfl, ?_⟩) hHeld ?_ ?_;rotate_left;(rintro w' ⟨s0, s1, s2⟩;go_simp;with_reducible rfl);rotate_left;(simp only [ps_];rfl)
     refine one_ (i := 4) (N := some 34) (bm 8 63) rfl rfl (one_of HT_.out (by kernel_rfl)) (by decide) (fun K hK => ?_)
     refine goes_ Try.func36 (by kernel_rfl) rfl #[.agg #[.int .i64 a0_0, .int .i64 a0_1, .slice A0_2 l0_2.length c0_2], .slice Ao34 x1_1.length co34, .slice Ao34 x1_1.length co34] (by rfl) rfl rfl (by ((simp only [List.map_toArray, List.map_cons, List.map_nil])); (rfl)) ?_
     with_reducible refine (codewrightref05_Mul.calls k1 a0_0 a0_1 _ _ l0_2 _ _ x1_1 _ _ x1_1 t573 _ ?side1 ?side2 ?side3 ?side4 ?side5 ?side6 A31.out).mono ?_
     (case side1 => repeat ((exact (Kd.C_below HR0_2.out HB.out))))
     (case side2 => exact HC0_2.out)
     (case side3 => repeat ((exact (Kd.R_reads' HO_1.out).2.2)))
     (case side4 => exact (Kd.R_reads' HO_1.out).2.1)
     (case side5 => repeat ((exact (Kd.R_reads' HO_1.out).2.2)))
     (case side6 => exact (Kd.R_reads' HO_1.out).2.1)
     rintro e w35 ⟨v574, rfl, ho0, hb⟩
     refine ⟨_, rfl, ?_⟩
     have n0_ := Aside0.mk (Kd.R_elder' HO_1.out (Kd.R_base ho0) hb)
     have n1_ := Aside0.mk (Kd.R_elder' HO_9.out (Kd.R_base ho0) hb)
     have n2_ := Aside0.mk (Kd.R_lower (Kd.R_new' (Kd.R_new' ho0 (Kd.R_lt HO_1.out)) (Kd.R_lt HO_9.out)) (below_size HB.out))
     have n3_ := Aside0.mk (blk_below (g := gb551) (o := .cells #[.int .i64 a0_0, .int .i64 a0_1, .slice A0_2 l0_2.length c0_2] 24 (0, 0)) BK551.out hb)
     have n4_ := Aside0.mk (below_step HB.out hb)
     clear HO_1 HO_9 BK551 HB
     have HO_1 := n0_
     have HO_9 := n1_
     have HO575 := n2_
     have BK551 := n3_
     have HB := n4_
     clear n0_ n1_ n2_ n3_ n4_
     ((clear hb))
     ((clear ho0))
     obtain ⟨Ao36, co36, eo36⟩ := Kd.R_slice HO575.out
     ((subst eo36))
     refine hK.out _ _ ⟨(blk_cell BK551.out 0).trans rfl, (blk_cell BK551.out 1).trans rfl, (blk_cell BK551.out 2).trans rfl⟩ (fun hHeld => ?_)
     clear hK K
     refine norm_ (a' := ?_) ?_ ?_
     rotate_left
     ·show Act.put _ (some 34) _ = _
      simp only [Act.put, List.setIfInBounds_toArray, List.set_cons_zero, List.set_cons_succ, i64_w, i32_w]
      rfl
     refine one_ (i := 6) (N := some 36) (bm 8 127) rfl rfl (one_of HT_.out (by kernel_rfl)) (by decide) (fun K hK => ?_)
     refine goes_ Try.func22 (by kernel_rfl) rfl #[.agg #[.int .i64 a0_0, .int .i64 a0_1, .slice A0_2 l0_2.length c0_2], .slice Ao36 t573.length co36, .slice A3 l3.length c3] (by rfl) rfl rfl (by ((simp only [List.map_toArray, List.map_cons, List.map_nil])); (rfl)) ?_
     with_reducible refine (codewrightref05_Rem.calls k1 a0_0 a0_1 _ _ l0_2 _ _ t573 _ _ l3 t576 _ ?side1 ?side2 ?side3 ?side4 ?side5 ?side6 A32.out).mono ?_
     (case side1 => repeat ((exact (Kd.C_below HR0_2.out HB.out))))
     (case side2 => exact HC0_2.out)
     (case side3 => repeat ((exact (Kd.R_reads' HO575.out).2.2)))
     (case side4 => exact (Kd.R_reads' HO575.out).2.1)
     (case side5 => repeat ((exact (Kd.C_below HR3.out HB.out))))
     (case side6 => exact HC3.out)
     rintro e w37 ⟨v577, rfl, ho0, hb⟩
     refine ⟨_, rfl, ?_⟩
     have n0_ := Aside0.mk (Kd.R_elder' HO_1.out (Kd.R_base ho0) hb)
     have n1_ := Aside0.mk (Kd.R_elder' HO_9.out (Kd.R_base ho0) hb)
     have n2_ := Aside0.mk (Kd.R_elder' HO575.out (Kd.R_base ho0) hb)
     have n3_ := Aside0.mk (Kd.R_lower (Kd.R_new' (Kd.R_new' (Kd.R_new' ho0 (Kd.R_lt HO_1.out)) (Kd.R_lt HO_9.out)) (Kd.R_lt HO575.out)) (below_size HB.out))
     have n4_ := Aside0.mk (blk_below (g := gb551) (o := .cells #[.int .i64 a0_0, .int .i64 a0_1, .slice A0_2 l0_2.length c0_2] 24 (0, 0)) BK551.out hb)
     have n5_ := Aside0.mk (below_step HB.out hb)
     clear HO_1 HO_9 HO575 BK551 HB
     have HO_1 := n0_
     have HO_9 := n1_
     have HO575 := n2_
     have HO578 := n3_
     have BK551 := n4_
     have HB := n5_
     clear n0_ n1_ n2_ n3_ n4_ n5_
     ((clear hb))
     ((clear ho0))
     refine hK.out _ _ ⟨(blk_cell BK551.out 0).trans rfl, (blk_cell BK551.out 1).trans rfl, (blk_cell BK551.out 2).trans rfl⟩ (fun hHeld => ?_)
     clear hK K
     refine norm_ (a' := ?_) ?_ ?_
     rotate_left
     ·show Act.put _ (some 36) _ = _
      simp only [Act.put, List.setIfInBounds_toArray, List.set_cons_zero, List.set_cons_succ, i64_w, i32_w]
      rfl
     refine pure_ (i := 7) (N := some 1) (v := ?_) (a' := ?_) (bm 8 255) rfl rfl (any_of HT_.out (by kernel_rfl)) (fun _ _ _ h => h) (Or.inl ⟨by rfl, ?_⟩) ?_ ?_;rotate_left;(intro w';go_simp;with_reducible rfl);rotate_left;(simp only [ps_];rfl)
     refine done_ (done_of HT_.out (by kernel_rfl)) ?_
     (go_wp2)
     go_roundg k1
     case measure => have := HK1.out; omega
     case rel => exact ⟨(t576), (wrap64 (Int.tdiv x2_1 2)), (x9_1), (by rfl), H', ⟨by have := HK1.out; omega⟩, ⟨by exact Kd.R_mono HO578.out (fun _ hk => hk.1.2)⟩, ⟨by exact Kd.R_mono HO_9.out (fun _ hk => hk.2)⟩, ⟨BK551.out⟩, ⟨by exact HB.out⟩⟩
   ·rw [if_neg c15] at H
    have c15b0 : decide (0 < x2_1) = false := decide_eq_false c15
    clear c15
    obtain rfl := Option.some.inj H
    go_wp2
    go_ret
    exact ⟨_, by rfl, by exact Kd.R_mono HO_9.out (fun _ hk => trivial), by exact HB.out⟩
end Go.Proofs.Ytiejggpmjapajaa.PA
end
section
namespace Go.Proofs.Ytiejggpmjapajaa.PA
open Go.RowKit Go.Proofs.YtiejggpmjapajaaW.PrintWords Go.Proofs.YtiejggpmjapajaaW.PrintLast Go.Proofs.YtiejggpmjapajaaW.PrintMore
attribute [local go_sem] max2_int min2_int max_two min_two max_three min_three max_four min_four
set_option linter.unusedVariables false
set_option linter.unusedSimpArgs false
end Go.Proofs.Ytiejggpmjapajaa.PA
end
section
namespace Go.Proofs.Ytiejggpmjapajaa.PA
open Go.RowKit Go.Proofs.YtiejggpmjapajaaW.PrintWords Go.Proofs.YtiejggpmjapajaaW.PrintLast Go.Proofs.YtiejggpmjapajaaW.PrintMore
attribute [local go_sem] max2_int min2_int max_two min_two max_three min_three max_four min_four
set_option linter.unusedVariables false
set_option linter.unusedSimpArgs false
end Go.Proofs.Ytiejggpmjapajaa.PA
end
section
namespace Go.Proofs.Ytiejggpmjapajaa.PA
open Go.RowKit Go.Proofs.YtiejggpmjapajaaW.PrintWords Go.Proofs.YtiejggpmjapajaaW.PrintLast Go.Proofs.YtiejggpmjapajaaW.PrintMore
set_option linter.unusedVariables false
theorem step_append_fresh {P : Program} {ops : Array Oper} {o : Oper} {a : Act} {w : World} {K : Act → World → Prop} {Q : Exit → Act → World → Prop}
    (hgd : o.guard = none) (s x : Operand) (t e : TypeId) (ho : o.op = Op.call { callee := Callee.builtin Builtin.append, args := #[s, x], argTypes := #[t, t] })
    (ht : P.underlying t = some (.slice e)) (hinfo : (P.info? e).map (fun i => (i.zero, i.size, i.bytes)) = some (some (.int .i64 0), 1, 8))
    (g : Nat) (A : Option Addr) (c : Nat) (md : List Int) (hs : a.eval s = .slice (some ⟨g, 0, none⟩) 0 0) (hx : a.eval x = .slice A md.length c)
    (hg : w.heap[g]? = some (.cells #[] e (0, 0))) (HC : Kd.C (Kd.int .i64) w A md.length md) (hl : md.length ≤ 8)
    (h : ∀ A1 c1 w1, Aside0 (Kd.C (Kd.int .i64) w1 A1 md.length md ∧ md.length ≤ c1 ∧ g < w.heap.size ∧ w.grownBy w1 (some g) ∧ ∀ ad, A1 = some ad → ad.block = g ∨ w.heap.size ≤ ad.block) → K (a.put o.dst (.slice A1 md.length c1)) w1) :
    if Region.wanted o (yielded ops a.tmps) = true then Oper.wp P o a w K Q else K (a.put o.dst undef) w := by
  have hw : Region.wanted o (yielded ops a.tmps) = true := by simp [Region.wanted, hgd]
  have hR : Kd.R (Kd.int .i64) e w 0 (fun _ => True) (.slice (some ⟨g, 0, none⟩) 0 0) [] := by
    refine Kd.R_of_own ⟨rfl, .inr ⟨g, 0, #[], rfl, Nat.zero_le _, hg, Nat.le_refl _, by decide, rfl, rfl⟩⟩ (fun _ _ => trivial)
  refine Kd.R_append_rows_step (Kd.int .i64) (w0 := w) 0 hw s x t e (.int .i64 0) 8 ho ht hinfo rfl (by decide) (by decide) (.slice (some ⟨g, 0, none⟩) 0 0) [] md A md.length c (fun _ => True) (fun _ => False) hs hx hR HC (fun x cs hk => hk) (fun _ hk => hk.elim) (fun _ _ => trivial) (Below.refl _ _) (Nat.zero_le _) ?_ ?_
  · simp only [List.length_nil]; omega
  · intro v1 w1 h1 _ hgr hat
    obtain ⟨A1, c1, rfl, hc, hC⟩ := Kd.R_reads h1
    refine h A1 c1 w1 ⟨hC, hc, blk_lt hg, hgr, ?_⟩
    rintro ad rfl
    rcases hat with hat | ⟨b, hb, hl⟩
    · exact .inl (by simpa [Value.ownBlock] using hat)
    · exact .inr (by have hb' : ad.block = b := (by simpa [Value.ownBlock] using hb); omega)
theorem grown_below {w0 W w1 : World} {g : Nat} (h : Below w0.heap.size w0 W) (hg : w0.heap.size ≤ g) (HG : g ≤ W.heap.size) (k : W.grownBy w1 (some g)) : Below w0.heap.size w0 w1 :=
  below_weaken h hg ⟨k.os, k.tape, k.output, k.size, fun j hj => k.block j (Nat.lt_of_lt_of_le hj HG) (fun e => by injection e with e; omega)⟩
theorem blk_new1 (w : World) (a b : Obj) : ((w.alloc a).alloc b).heap[w.heap.size + 1]? = some b := by
  have h := blk_new (w.alloc a) b
  have e : (w.alloc a).heap.size = w.heap.size + 1 := by unfold World.alloc; exact Array.size_push _
  rwa [e] at h
end Go.Proofs.Ytiejggpmjapajaa.PA
end
section
namespace Go.Proofs.Ytiejggpmjapajaa.PA
open Go.RowKit Go.Proofs.YtiejggpmjapajaaW.PrintWords Go.Proofs.YtiejggpmjapajaaW.PrintLast Go.Proofs.YtiejggpmjapajaaW.PrintMore
attribute [local go_sem] max2_int min2_int max_two min_two max_three min_three max_four min_four
set_option linter.unusedVariables false
set_option linter.unusedSimpArgs false
end Go.Proofs.Ytiejggpmjapajaa.PA
end
section
namespace Go.Proofs.Ytiejggpmjapajaa.PA
open Go.RowKit Go.Proofs.YtiejggpmjapajaaW.PrintWords Go.Proofs.YtiejggpmjapajaaW.PrintLast Go.Proofs.YtiejggpmjapajaaW.PrintMore
attribute [local go_sem] max2_int min2_int max_two min_two max_three min_three max_four min_four
set_option linter.unusedVariables false
set_option linter.unusedSimpArgs false
end Go.Proofs.Ytiejggpmjapajaa.PA
end
section
namespace Go.Proofs.Ytiejggpmjapajaa.PA
open Go.RowKit Go.Proofs.YtiejggpmjapajaaW.PrintWords Go.Proofs.YtiejggpmjapajaaW.PrintLast Go.Proofs.YtiejggpmjapajaaW.PrintMore
attribute [local go_sem] max2_int min2_int max_two min_two max_three min_three max_four min_four
set_option linter.unusedVariables false
set_option linter.unusedSimpArgs false
end Go.Proofs.Ytiejggpmjapajaa.PA
end
section
namespace Go.Proofs.Ytiejggpmjapajaa.PA
open Go.RowKit Go.Proofs.YtiejggpmjapajaaW.PrintWords Go.Proofs.YtiejggpmjapajaaW.PrintLast Go.Proofs.YtiejggpmjapajaaW.PrintMore
attribute [local go_sem] max2_int min2_int max_two min_two max_three min_three max_four min_four
set_option linter.unusedVariables false
set_option linter.unusedSimpArgs false
end Go.Proofs.Ytiejggpmjapajaa.PA
end
section
namespace Go.Proofs.Ytiejggpmjapajaa.PA
open Go.RowKit Go.Proofs.YtiejggpmjapajaaW.PrintWords Go.Proofs.YtiejggpmjapajaaW.PrintLast Go.Proofs.YtiejggpmjapajaaW.PrintMore
attribute [local go_sem] max2_int min2_int max_two min_two max_three min_three max_four min_four
set_option linter.unusedVariables false
set_option linter.unusedSimpArgs false
end Go.Proofs.Ytiejggpmjapajaa.PA
end
section
namespace Go.Proofs.Ytiejggpmjapajaa.PA
open Go.RowKit Go.Proofs.YtiejggpmjapajaaW.PrintWords Go.Proofs.YtiejggpmjapajaaW.PrintLast Go.Proofs.YtiejggpmjapajaaW.PrintMore
theorem Ev.succ {α : Type} {g : Nat → Option α} {r : α} (h : Ev (fun k => g (k + 1)) r) : Ev g r := Ev.step (fun _ => rfl) h
theorem Ev.ifp {α : Type} {c : Prop} [Decidable c] {f g : Nat → Option α} {r : α} (h : c) (e : Ev f r) : Ev (fun k => if c then f k else g k) r := by simp only [if_pos h]; exact e
theorem Ev.ifn {α : Type} {c : Prop} [Decidable c] {f g : Nat → Option α} {r : α} (h : ¬ c) (e : Ev g r) : Ev (fun k => if c then f k else g k) r := by simp only [if_neg h]; exact e
theorem Ev.val {α : Type} {a r : α} (h : a = r) : Ev (fun _ => some a) r := h ▸ Ev.now a
theorem Ev.some_bind {α β : Type} {a : α} {f : Nat → α → Option β} {r : β} (h : Ev (fun k => f k a) r) : Ev (fun k => (some a).bind (f k)) r := h
theorem Ev.opt_bind {α β : Type} {o : Option α} {a : α} {f : Nat → α → Option β} {r : β} (h0 : o = some a) (h : Ev (fun k => f k a) r) : Ev (fun k => o.bind (f k)) r := by subst h0; exact h
theorem w64 {n : Int} (h : -4000000000000000000 ≤ n ∧ n ≤ 4000000000000000000) : wrap64 n = n := by unfold wrap64; omega
theorem rd_nat (xs : List Int) (j : Nat) : rd xs (j : Int) = xs.getD j 0 := by unfold rd; rw [Int.toNat_natCast]
theorem rd_set (xs : List Int) (i j : Nat) (v : Int) (h : i < xs.length) : (xs.set i v).getD j 0 = if i = j then v else xs.getD j 0 := by
  rw [List.getD_eq_getElem?_getD, List.getElem?_set]
  split
  · rename_i e; subst e; simp [h]
  · rw [List.getD_eq_getElem?_getD]
theorem tdiv_pos {a b : Int} (h : 0 ≤ a) : Int.tdiv a b = a / b := Int.tdiv_eq_ediv_of_nonneg h
theorem tmod_pos {a b : Int} (h : 0 ≤ a) : Int.tmod a b = a % b := Int.tmod_eq_emod_of_nonneg h
theorem getD_nat_lt (xs : List Int) (j : Nat) (h : xs.length ≤ j) : xs.getD j 0 = 0 := by
  rw [List.getD_eq_getElem?_getD, List.getElem?_eq_none h]; rfl
theorem getD_zeros (n j : Nat) : (List.replicate n (0 : Int)).getD j 0 = 0 := by
  rw [List.getD_eq_getElem?_getD, List.getElem?_replicate]; split <;> rfl
end Go.Proofs.Ytiejggpmjapajaa.PA
end
