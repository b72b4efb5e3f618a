/- Proved: for every input the law PolyDerives returns true and leaves its arguments as they were; no conditions. Part 4 of 5 of the proof. -/
import Derived.Test.YtiejggpmjapajaaZPolyDerives2
import Derived.WalkSpells
import Derived.Deep.RegionLaw
import Derived.Deep.RegionHeldLaw
import Derived.Deep.DeepFit
set_option linter.unusedSectionVars false
set_option linter.unusedSimpArgs false
set_option linter.unusedVariables false
section
namespace Go.Proofs.Ytiejggpmjapajaa.PA
open Go.RowKit Go.Proofs.YtiejggpmjapajaaW.PrintWords Go.Proofs.YtiejggpmjapajaaW.PrintLast Go.Proofs.YtiejggpmjapajaaW.PrintMore
attribute [local go_sem] max2_int min2_int max_two min_two max_three min_three max_four min_four
set_option linter.unusedVariables false
set_option linter.unusedSimpArgs false
def codewrightref04_Digits.f (k : Nat) (a0_0 : Int) (a0_1 : Int) (l0_2 : List Int) (a1 : Int) : Option (List Int) := (codewrightref04_In.f k a0_0 a0_1 l0_2 a1).bind fun t409 => ((codewrightref04_digits.f k t409 a0_0 a0_1).bind fun t410 => (some t410))
def codewrightref04_Digits.T1 : Bool × List (List Nat × List Nat) := (true, [([], []), ([], []), ([0, 1], [0, 1]), ([], []), ([3], [3]), ([], []), ([5], [5]), ([2, 4, 6, 2], [2, 4, 6]), ([7, 7, 0, 1, 2, 3, 4, 5, 6, 7], [7])])
def codewrightref04_Digits.B1 : List Nat := [0, 0, 3, 0, 8, 0, 32, 127, 255]
theorem codewrightref04_Digits.tab1 : rtab .any (opsOf Try.f72 1) = codewrightref04_Digits.T1 := by kernel_rfl
theorem codewrightref04_Digits.bits1 : waitsOk codewrightref04_Digits.T1.2 codewrightref04_Digits.B1 = true := by kernel_rfl
set_option maxHeartbeats 8000000 in
set_option maxRecDepth 100000 in
theorem codewrightref04_Digits.calls (k : Nat) (a0_0 : Int) (a0_1 : Int) (A0_2 : Option Addr) (c0_2 : Nat) (l0_2 : List Int) (a1 : Int) (r : List Int) (w : World) (hr0_2 : Kd.C (Kd.int .i64) w A0_2 l0_2.length l0_2) (hc0_2 : l0_2.length ≤ c0_2) (h : codewrightref04_Digits.f k a0_0 a0_1 l0_2 a1 = some r) :
  Calls Try.prog 72 #[.agg #[.int .i64 a0_0, .int .i64 a0_1, .slice A0_2 l0_2.length c0_2], .int .i64 a1] w fun e w' => ∃ v0_ : Value, e = .returned (v0_) ∧ Kd.R (Kd.int .i64) 3 w' w.heap.size (fun _ => True) v0_ r ∧ Below w.heap.size w w' := by
 have hu24 := Try.underlying24
 have HR0_2 := Aside0.mk hr0_2
 have HC0_2 := Aside0.mk hc0_2
 clear hr0_2 hc0_2
 have HB := Aside0.mk (Below.refl w.heap.size w)
 have H : ((codewrightref04_In.f k a0_0 a0_1 l0_2 a1).bind fun t409 => ((codewrightref04_digits.f k t409 a0_0 a0_1).bind fun t410 => (some t410))) = some r := h
 clear h
 obtain ⟨t409, A30, H⟩ := Option.bind_eq_some_iff.mp H
 replace H : ((codewrightref04_digits.f k t409 a0_0 a0_1).bind fun t410 => (some t410)) = some r := H
 have A3 := Aside0.mk A30
 clear A30
 obtain ⟨t410, A40, H⟩ := Option.bind_eq_some_iff.mp H
 replace H : (some t410) = some r := H
 have A4 := Aside0.mk A40
 clear A40
 obtain rfl := Option.some.inj H
 go_enter Try.func72, Try.ntmps72
 (go_wp2_with (((with_reducible refine gate_dst (N := 2) rfl ?_); refine box_event ?hg (N := 2) ?hd (cs := #[.int .i64 a0_0, .int .i64 a0_1, .slice A0_2 l0_2.length c0_2]) (t := 24) ?hr ?_; (case hd => rfl); (case hg => rfl); (case hr => (go_simp; done)); intro gb408 hg w5 hbox hb; have n0_ := Aside0.mk (below_step HB.out hb); have n1_ := Aside0.mk (hbox); have n2_ := Aside0.mk ((by rw [hg]; exact (below_size HB.out) : w.heap.size ≤ gb408)); have n3_ := Aside0.mk ((by rw [hg]; exact (below_size HB.out) : w.heap.size ≤ gb408)); clear HB; have HB := n0_; have BK408 := n1_; have GW408 := n2_; have GE408 := n3_; clear n0_ n1_ n2_ n3_; clear hb hbox hg)))
 have n0_ := Aside0.mk (blk_drew BK408.out)
 have n1_ := Aside0.mk (below_drew1 HB.out)
 clear BK408 HB
 have BK408 := n0_
 have HB := n1_
 clear n0_ n1_
 refine start_ (n := 9) (S := fun w' => w'.cell? ⟨gb408, 0, none⟩ = some (.int .i64 a0_0) ∧ w'.cell? ⟨gb408, 1, none⟩ = some (.int .i64 a0_1) ∧ w'.cell? ⟨gb408, 2, none⟩ = some (.slice A0_2 l0_2.length c0_2)) (ds := []) (bm 9 0) (by kernel_rfl) rfl rfl ⟨(blk_cell BK408.out 0).trans rfl, (blk_cell BK408.out 1).trans rfl, (blk_cell BK408.out 2).trans rfl⟩ (fun hHeld => ?_); refine with_tabW codewrightref04_Digits.tab1 codewrightref04_Digits.bits1 (fun HT_ HW_ => ?_)
 generalize w5.drew = w6 at BK408 HB hHeld ⊢
 refine pure_ (i := 1) (N := some 6) (v := ?_) (a' := ?_) (bm 9 2) rfl rfl (any_of HT_.out (by kernel_rfl)) (fun _ _ _ h => h) (Or.inl ⟨by rfl, ?_⟩) ?_ ?_;rotate_left;(intro w';go_simp;with_reducible rfl);rotate_left;(simp only [ps_];rfl)
 refine pure_ (i := 3) (N := some 8) (v := ?_) (a' := ?_) (bm 9 10) rfl rfl (any_of HT_.out (by kernel_rfl)) (fun _ _ _ h => h) (Or.inl ⟨by rfl, ?_⟩) ?_ ?_;rotate_left;(intro w';go_simp;with_reducible rfl);rotate_left;(simp only [ps_];rfl)
 refine pure_ (i := 5) (N := some 10) (v := ?_) (a' := ?_) (bm 9 42) rfl rfl (any_of HT_.out (by kernel_rfl)) (fun _ _ _ h => h) (Or.inl ⟨by rfl, ?_⟩) ?_ ?_;rotate_left;(intro w';go_simp;with_reducible rfl);rotate_left;(simp only [ps_];rfl)
 refine take_ (i := 0) (N := some 5) (v := ?_) (a' := ?_) (bm 9 43) rfl rfl (take_ofW HT_.out HW_.out (by kernel_rfl)) (fun _ _ _ h => h) (Or.inl ⟨by rfl, ?_⟩) hHeld ?_ ?_;rotate_left;(rintro w' ⟨s0, s1, s2⟩;go_simp;with_reducible rfl);rotate_left;(simp only [ps_];rfl)
 refine take_ (i := 4) (N := some 9) (v := ?_) (a' := ?_) (bm 9 59) rfl rfl (take_ofW HT_.out HW_.out (by kernel_rfl)) (fun _ _ _ h => h) (Or.inl ⟨by rfl, ?_⟩) hHeld ?_ ?_;rotate_left;(rintro w' ⟨s0, s1, s2⟩;go_simp;with_reducible rfl);rotate_left;(simp only [ps_];rfl)
 refine take_ (i := 6) (N := some 11) (v := ?_) (a' := ?_) (bm 9 123) rfl rfl (take_ofW HT_.out HW_.out (by kernel_rfl)) (fun _ _ _ h => h) (Or.inl ⟨by rfl, ?_⟩) hHeld ?_ ?_;rotate_left;(rintro w' ⟨s0, s1, s2⟩;go_simp;with_reducible rfl);rotate_left;(simp only [ps_];rfl)
 refine one_ (i := 2) (N := some 7) (bm 9 127) rfl rfl (one_of HT_.out (by kernel_rfl)) (by decide) (fun K hK => ?_)
 refine goes_ Try.func31 (by kernel_rfl) rfl #[.agg #[.int .i64 a0_0, .int .i64 a0_1, .slice A0_2 l0_2.length c0_2], .int .i64 a1] (by rfl) rfl rfl (by ((simp only [List.map_toArray, List.map_cons, List.map_nil])); (rfl)) ?_
 with_reducible refine (codewrightref04_In.calls k a0_0 a0_1 _ _ l0_2 a1 t409 _ ?side1 ?side2 A3.out).mono ?_
 (case side1 => repeat ((exact (Kd.C_below HR0_2.out HB.out))))
 (case side2 => exact HC0_2.out)
 rintro e w7 ⟨rfl, hb⟩
 refine ⟨_, rfl, ?_⟩
 have n0_ := Aside0.mk (blk_below (g := gb408) (o := .cells #[.int .i64 a0_0, .int .i64 a0_1, .slice A0_2 l0_2.length c0_2] 24 (0, 0)) BK408.out hb)
 have n1_ := Aside0.mk (below_step HB.out hb)
 clear BK408 HB
 have BK408 := n0_
 have HB := n1_
 clear n0_ n1_
 ((clear hb))
 refine hK.out _ _ ⟨(blk_cell BK408.out 0).trans rfl, (blk_cell BK408.out 1).trans rfl, (blk_cell BK408.out 2).trans rfl⟩ (fun hHeld => ?_)
 clear hK K
 refine norm_ (a' := ?_) ?_ ?_
 rotate_left
 ·show Act.put _ (some 7) _ = _
  simp only [Act.put, List.setIfInBounds_toArray, List.set_cons_zero, List.set_cons_succ, i64_w, i32_w]
  rfl
 refine one_ (i := 7) (N := some 12) (bm 9 255) rfl rfl (one_of HT_.out (by kernel_rfl)) (by decide) (fun K hK => ?_)
 refine goes_ Try.func80 (by kernel_rfl) rfl #[.int .i64 t409, .int .i64 a0_0, .int .i64 a0_1] (by rfl) rfl rfl (by ((simp only [List.map_toArray, List.map_cons, List.map_nil])); (rfl)) ?_
 with_reducible refine (codewrightref04_digits.calls k t409 a0_0 a0_1 t410 _ A4.out).mono ?_
 rintro e w8 ⟨v411, rfl, ho0, hb⟩
 refine ⟨_, rfl, ?_⟩
 have n0_ := Aside0.mk (Kd.R_lower ho0 (below_size HB.out))
 have n1_ := Aside0.mk (blk_below (g := gb408) (o := .cells #[.int .i64 a0_0, .int .i64 a0_1, .slice A0_2 l0_2.length c0_2] 24 (0, 0)) BK408.out hb)
 have n2_ := Aside0.mk (below_step HB.out hb)
 clear BK408 HB
 have HO412 := n0_
 have BK408 := n1_
 have HB := n2_
 clear n0_ n1_ n2_
 ((clear hb))
 ((clear ho0))
 refine hK.out _ _ ⟨(blk_cell BK408.out 0).trans rfl, (blk_cell BK408.out 1).trans rfl, (blk_cell BK408.out 2).trans rfl⟩ (fun hHeld => ?_)
 clear hK K
 refine norm_ (a' := ?_) ?_ ?_
 rotate_left
 ·show Act.put _ (some 12) _ = _
  simp only [Act.put, List.setIfInBounds_toArray, List.set_cons_zero, List.set_cons_succ, i64_w, i32_w]
  rfl
 refine pure_ (i := 8) (N := some 4) (v := ?_) (a' := ?_) (bm 9 511) rfl rfl (any_of HT_.out (by kernel_rfl)) (fun _ _ _ h => h) (Or.inl ⟨by rfl, ?_⟩) ?_ ?_;rotate_left;(intro w';go_simp;with_reducible rfl);rotate_left;(simp only [ps_];rfl)
 refine done_ (done_of HT_.out (by kernel_rfl)) ?_
 (go_wp2)
 go_ret
 exact ⟨_, by rfl, by exact HO412.out, by exact HB.out⟩
def codewrightref04_Value.l0 : Nat → List Int → Int → Int → Int → Int → List Int → Option (Int)
 | 0, _, _, _, _, _, _ => none
 | k + 1, x1, x5, x6, x414000, x414001, x414002 => if x6 ≥ 0 then (if 0 ≤ x6 then (if x6 < (x1.length : Int) then (codewrightref04_Value.l0 k x1 (wrap64 ((wrap64 (x5 * x414000)) + (rd x1 x6))) (wrap64 (x6 - 1)) x414000 x414001 x414002) else (none)) else (none)) else (some x5)
def codewrightref04_Value.f (k : Nat) (a0_0 : Int) (a0_1 : Int) (l0_2 : List Int) (l1 : List Int) : Option (Int) := codewrightref04_Value.l0 k l1 0 (wrap64 ((l1.length : Int) - 1)) a0_0 a0_1 l0_2
set_option maxHeartbeats 8000000 in
set_option maxRecDepth 100000 in
theorem codewrightref04_Value.calls (k : Nat) (a0_0 : Int) (a0_1 : Int) (A0_2 : Option Addr) (c0_2 : Nat) (l0_2 : List Int) (A1 : Option Addr) (c1 : Nat) (l1 : List Int) (r : Int) (w : World) (hr0_2 : Kd.C (Kd.int .i64) w A0_2 l0_2.length l0_2) (hc0_2 : l0_2.length ≤ c0_2) (hr1 : Kd.C (Kd.int .i64) w A1 l1.length l1) (hc1 : l1.length ≤ c1) (h : codewrightref04_Value.f k a0_0 a0_1 l0_2 l1 = some r) :
  Calls Try.prog 73 #[.agg #[.int .i64 a0_0, .int .i64 a0_1, .slice A0_2 l0_2.length c0_2], .slice A1 l1.length c1] w fun e w' => e = .returned (.int .i64 r) ∧ Below w.heap.size w w' := by
 have hu24 := Try.underlying24
 have HR0_2 := Aside0.mk hr0_2
 have HC0_2 := Aside0.mk hc0_2
 clear hr0_2 hc0_2
 have HR1 := Aside0.mk hr1
 have HC1 := Aside0.mk hc1
 clear hr1 hc1
 have HB := Aside0.mk (Below.refl w.heap.size w)
 have H : (codewrightref04_Value.l0 k l1 0 (wrap64 ((l1.length : Int) - 1)) a0_0 a0_1 l0_2) = some r := h
 clear h
 have H' := Aside0.mk H
 clear H
 go_enter Try.func73, Try.ntmps73
 go_wp2_with (((with_reducible refine gate_dst (N := 2) rfl ?_); refine box_event ?hg (N := 2) ?hd (cs := #[.int .i64 a0_0, .int .i64 a0_1, .slice A0_2 l0_2.length c0_2]) (t := 24) ?hr ?_; (case hd => rfl); (case hg => rfl); (case hr => (go_simp; done)); intro gb413 hg w3 hbox hb; have n0_ := Aside0.mk (below_step HB.out hb); have n1_ := Aside0.mk (hbox); have n2_ := Aside0.mk ((by rw [hg]; exact (below_size HB.out) : w.heap.size ≤ gb413)); have n3_ := Aside0.mk ((by rw [hg]; exact (below_size HB.out) : w.heap.size ≤ gb413)); clear HB; have HB := n0_; have BK413 := n1_; have GW413 := n2_; have GE413 := n3_; clear n0_ n1_ n2_ n3_; clear hb hbox hg))
 repeat (go_quiet (first | ((with_reducible refine gate_dst (N := 2) rfl ?_); refine box_event ?hg (N := 2) ?hd (cs := #[.int .i64 a0_0, .int .i64 a0_1, .slice A0_2 l0_2.length c0_2]) (t := 24) ?hr ?_; (case hd => rfl); (case hg => rfl); (case hr => first | (go_simp; done) | (go_simp; rfl)); intro gb413 hg w3 hbox hb; have n0_ := Aside0.mk (below_step (by repeat (first | (with_reducible first | exact HB.out | apply below_alloc | apply pw_below_drewN | apply below_drew1) | exact HB.out)) hb); have n1_ := Aside0.mk (hbox); have n2_ := Aside0.mk ((by rw [hg]; exact (below_size (by repeat (first | (with_reducible first | exact HB.out | apply below_alloc | apply pw_below_drewN | apply below_drew1) | exact HB.out))) : w.heap.size ≤ gb413)); have n3_ := Aside0.mk ((by rw [hg]; exact (below_size (by repeat (first | (with_reducible first | exact HB.out | apply below_alloc | apply pw_below_drewN | apply below_drew1) | exact HB.out))) : w.heap.size ≤ gb413)); clear HB; have HB := n0_; have BK413 := n1_; have GW413 := n2_; have GE413 := n3_; clear n0_ n1_ n2_ n3_; clear hb hbox hg)); try go_wp2_with (first | ((with_reducible refine gate_dst (N := 2) rfl ?_); refine box_event ?hg (N := 2) ?hd (cs := #[.int .i64 a0_0, .int .i64 a0_1, .slice A0_2 l0_2.length c0_2]) (t := 24) ?hr ?_; (case hd => rfl); (case hg => rfl); (case hr => first | (go_simp; done) | (go_simp; rfl)); intro gb413 hg w3 hbox hb; have n0_ := Aside0.mk (below_step (by repeat (first | (with_reducible first | exact HB.out | apply below_alloc | apply pw_below_drewN | apply below_drew1) | exact HB.out)) hb); have n1_ := Aside0.mk (hbox); have n2_ := Aside0.mk ((by rw [hg]; exact (below_size (by repeat (first | (with_reducible first | exact HB.out | apply below_alloc | apply pw_below_drewN | apply below_drew1) | exact HB.out))) : w.heap.size ≤ gb413)); have n3_ := Aside0.mk ((by rw [hg]; exact (below_size (by repeat (first | (with_reducible first | exact HB.out | apply below_alloc | apply pw_below_drewN | apply below_drew1) | exact HB.out))) : w.heap.size ≤ gb413)); clear HB; have HB := n0_; have BK413 := n1_; have GW413 := n2_; have GE413 := n3_; clear n0_ n1_ n2_ n3_; clear hb hbox hg)))
 go_loopg [5, 6] k (fun kq v5 v6 w' => ∃ (x5_1 : Int) (x6_1 : Int), v5 = .int .i64 x5_1 ∧ v6 = .int .i64 x6_1 ∧ Aside0 (codewrightref04_Value.l0 kq l1 x5_1 x6_1 a0_0 a0_1 l0_2 = some r) ∧ Aside0 (kq ≤ k) ∧ Aside0 (w'.heap[gb413]? = some (.cells #[.int .i64 a0_0, .int .i64 a0_1, (.slice A0_2 l0_2.length c0_2)] 24 (0, 0))) ∧ Aside0 (Below w.heap.size w w'))
 case atStart => exact ⟨(0), (wrap64 ((l1.length : Int) - 1)), (by rfl), (by rfl), H', ⟨Nat.le_refl _⟩, ⟨BK413.out⟩, ⟨by exact HB.out⟩⟩
 case round =>
  clear H'
  obtain ⟨x5_1, x6_1, rfl, rfl, HA, HK1, BK413, HB⟩ := hrel
  cases gk with
  | zero => exact absurd HA.out (by simp [codewrightref04_Value.l0])
  | succ k1 =>
   have H := HA.out
   clear HA
   simp only [codewrightref04_Value.l0] at H
   by_cases c4 : x6_1 ≥ 0
   ·rw [if_pos c4] at H
    have c4b0 : decide (0 ≤ x6_1) = true := decide_eq_true c4
    clear c4
    by_cases c5 : 0 ≤ x6_1
    ·rw [if_pos c5] at H
     have c5b0 : decide (0 ≤ x6_1) = true := decide_eq_true c5
     clear c5
     by_cases c6 : x6_1 < (l1.length : Int)
     ·rw [if_pos c6] at H
      have c6b0 : decide (x6_1 < (l1.length : Int)) = true := decide_eq_true c6
      clear c6
      have H' := Aside0.mk H
      clear H
      have hcz7_0 : wr.cell? ⟨gb413, 0, none⟩ = some (.int .i64 a0_0) := (blk_cell BK413.out 0).trans rfl
      have hcz7_1 : wr.cell? ⟨gb413, 1, none⟩ = some (.int .i64 a0_1) := (blk_cell BK413.out 1).trans rfl
      have hcz7_2 : wr.cell? ⟨gb413, 2, none⟩ = some (.slice A0_2 l0_2.length c0_2) := (blk_cell BK413.out 2).trans rfl
      have hfz7_0 := blk_frozen BK413.out 0
      have hfz7_1 := blk_frozen BK413.out 1
      have hfz7_2 := blk_frozen BK413.out 2
      have p414 : 0 ≤ (x6_1 : Int) := of_decide_eq_true (by (with_reducible assumption))
      have q414 : x6_1 < (l1.length : Int) := of_decide_eq_true (by (with_reducible assumption))
      obtain ⟨ad414, e414, hx414_0⟩ := Kd.at_int HR1.out x6_1 p414 q414
      cases e414
      replace hx414_0 := (HB.out.cell (World.block_lt_of_cell? w _ hx414_0)).trans hx414_0
      replace p414 := eq_true p414
      replace q414 := eq_true q414
      go_wp2
      repeat (go_quiet (fail); (go_wp2))
      go_roundg k1
      case measure => have := HK1.out; omega
      case rel => exact ⟨(wrap64 ((wrap64 (x5_1 * a0_0)) + (rd l1 x6_1))), (wrap64 (x6_1 - 1)), (by rfl), (by rfl), H', ⟨by have := HK1.out; omega⟩, ⟨by (with_reducible repeat ((refine blk_drewN ?_ _))); exact BK413.out⟩, ⟨by repeat ((with_reducible first | (exact HB.out) | (apply pw_below_drewN)))⟩⟩
     ·rw [if_neg c6] at H
      exact absurd H (by simp)
    ·rw [if_neg c5] at H
     exact absurd H (by simp)
   ·rw [if_neg c4] at H
    have c4b0 : decide (0 ≤ x6_1) = false := decide_eq_false c4
    clear c4
    obtain rfl := Option.some.inj H
    go_wp2
    repeat (go_quiet (fail); try go_wp2)
    go_ret
    exact ⟨by rfl, by exact HB.out⟩
def codewrightref04_Add.l0 : Nat → List Int → List Int → Int → Int → Int → List Int → Option (Int)
 | 0, _, _, _, _, _, _ => none
 | k + 1, x7, x8, x9, x416000, x416001, x416002 => if x9 < (x7.length : Int) then (if 0 ≤ x9 then (if x9 < (x8.length : Int) then (if x416000 = 0 then (none) else (codewrightref04_Add.l0 k (x7.set (x9 : Int).toNat (Int.tmod (wrap64 ((rd x7 x9) + (rd x8 x9))) x416000)) x8 (wrap64 (x9 + 1)) x416000 x416001 x416002)) else (none)) else (none)) else ((codewrightref04_Value.f k x416000 x416001 x416002 x7).bind fun t425 => (some t425))
def codewrightref04_Add.f (k : Nat) (a0_0 : Int) (a0_1 : Int) (l0_2 : List Int) (a1 : Int) (a2 : Int) : Option (Int) := (codewrightref04_Digits.f k a0_0 a0_1 l0_2 a1).bind fun t416 => ((codewrightref04_Digits.f k a0_0 a0_1 l0_2 a2).bind fun t419 => (codewrightref04_Add.l0 k t416 t419 0 a0_0 a0_1 l0_2))
def codewrightref04_Add.T6 : Bool × List (List Nat × List Nat) := (true, [([], []), ([], []), ([], []), ([], []), ([2, 3], [2, 3]), ([4], [4]), ([], []), ([], []), ([6, 7], [6, 7]), ([8], [8]), ([5, 9], [5, 9]), ([], []), ([11], [11]), ([10, 12], [10, 12]), ([0, 1, 0, 1, 2, 3, 4, 5, 6, 7, 8, 9, 10, 11, 12, 13], [0, 1]), ([14, 13, 0, 1, 2, 3, 4, 5, 6, 7, 8, 9, 10, 11, 12, 13], [13, 14])])
def codewrightref04_Add.B6 : List Nat := [0, 0, 0, 0, 12, 28, 0, 0, 192, 448, 1020, 0, 2048, 8188, 16383, 32767]
theorem codewrightref04_Add.tab6 : rtab .any (opsOf Try.f43 6) = codewrightref04_Add.T6 := by kernel_rfl
theorem codewrightref04_Add.bits6 : waitsOk codewrightref04_Add.T6.2 codewrightref04_Add.B6 = true := by kernel_rfl
set_option maxHeartbeats 8000000 in
set_option maxRecDepth 100000 in
theorem codewrightref04_Add.calls (k : Nat) (a0_0 : Int) (a0_1 : Int) (A0_2 : Option Addr) (c0_2 : Nat) (l0_2 : List Int) (a1 : Int) (a2 : Int) (r : Int) (w : World) (hr0_2 : Kd.C (Kd.int .i64) w A0_2 l0_2.length l0_2) (hc0_2 : l0_2.length ≤ c0_2) (h : codewrightref04_Add.f k a0_0 a0_1 l0_2 a1 a2 = some r) :
  Calls Try.prog 43 #[.agg #[.int .i64 a0_0, .int .i64 a0_1, .slice A0_2 l0_2.length c0_2], .int .i64 a1, .int .i64 a2] w fun e w' => e = .returned (.int .i64 r) ∧ Below w.heap.size w w' := by
 have hu24 := Try.underlying24
 have HR0_2 := Aside0.mk hr0_2
 have HC0_2 := Aside0.mk hc0_2
 clear hr0_2 hc0_2
 have HB := Aside0.mk (Below.refl w.heap.size w)
 have H : ((codewrightref04_Digits.f k a0_0 a0_1 l0_2 a1).bind fun t416 => ((codewrightref04_Digits.f k a0_0 a0_1 l0_2 a2).bind fun t419 => (codewrightref04_Add.l0 k t416 t419 0 a0_0 a0_1 l0_2))) = some r := h
 clear h
 obtain ⟨t416, A40, H⟩ := Option.bind_eq_some_iff.mp H
 replace H : ((codewrightref04_Digits.f k a0_0 a0_1 l0_2 a2).bind fun t419 => (codewrightref04_Add.l0 k t416 t419 0 a0_0 a0_1 l0_2)) = some r := H
 have A4 := Aside0.mk A40
 clear A40
 obtain ⟨t419, A50, H⟩ := Option.bind_eq_some_iff.mp H
 replace H : (codewrightref04_Add.l0 k t416 t419 0 a0_0 a0_1 l0_2) = some r := H
 have A5 := Aside0.mk A50
 clear A50
 have H' := Aside0.mk H
 clear H
 go_enter Try.func43, Try.ntmps43
 go_wp2_with (first | ((with_reducible refine gate_dst (N := 3) rfl ?_); refine box_event ?hg (N := 3) ?hd (cs := #[.int .i64 a0_0, .int .i64 a0_1, .slice A0_2 l0_2.length c0_2]) (t := 24) ?hr ?_; (case hd => rfl); (case hg => rfl); (case hr => (go_simp; done)); intro gb415 hg w6 hbox hb; have n0_ := Aside0.mk (below_step HB.out hb); have n1_ := Aside0.mk (hbox); have n2_ := Aside0.mk ((by rw [hg]; exact (below_size HB.out) : w.heap.size ≤ gb415)); have n3_ := Aside0.mk ((by rw [hg]; exact (below_size HB.out) : w.heap.size ≤ gb415)); clear HB; have HB := n0_; have BK415 := n1_; have GW415 := n2_; have GE415 := n3_; clear n0_ n1_ n2_ n3_; clear hb hbox hg; have hcz7_0 : w6.cell? ⟨gb415, 0, none⟩ = some (.int .i64 a0_0) := (blk_cell BK415.out 0).trans rfl; have hcz7_1 : w6.cell? ⟨gb415, 1, none⟩ = some (.int .i64 a0_1) := (blk_cell BK415.out 1).trans rfl; have hcz7_2 : w6.cell? ⟨gb415, 2, none⟩ = some (.slice A0_2 l0_2.length c0_2) := (blk_cell BK415.out 2).trans rfl; have hfz7_0 := blk_frozen BK415.out 0; have hfz7_1 := blk_frozen BK415.out 1; have hfz7_2 := blk_frozen BK415.out 2) | ((with_reducible refine gate_callee (f := 72) rfl ?_); refine goesL_ (some 12) rfl rfl Try.func72 (by kernel_rfl) rfl #[.agg #[.int .i64 a0_0, .int .i64 a0_1, .slice A0_2 l0_2.length c0_2], .int .i64 a1] rfl (by ((simp only [List.map_toArray, List.map_cons, List.map_nil])); (rfl)) ?_; (with_reducible refine (codewrightref04_Digits.calls k a0_0 a0_1 _ _ l0_2 a1 t416 _ ?side1 ?side2 A4.out).mono ?_); (case side1 => repeat ((exact (Kd.C_below HR0_2.out HB.out)))); (case side2 => exact HC0_2.out); rintro e w8 ⟨v417, rfl, ho0, hb⟩; refine ⟨_, rfl, ?_⟩; have n0_ := Aside0.mk (Kd.R_lower ho0 (below_size HB.out)); have n1_ := Aside0.mk (blk_below (g := gb415) (o := .cells #[.int .i64 a0_0, .int .i64 a0_1, .slice A0_2 l0_2.length c0_2] 24 (0, 0)) BK415.out hb); have n2_ := Aside0.mk (below_step HB.out hb); clear BK415; clear HB; have HO418 := n0_; have BK415 := n1_; have HB := n2_; clear n0_ n1_ n2_; ((clear hb)); (skip); (skip); (skip); ((clear ho0)); have hcz9_0 : w8.cell? ⟨gb415, 0, none⟩ = some (.int .i64 a0_0) := (blk_cell BK415.out 0).trans rfl; have hcz9_1 : w8.cell? ⟨gb415, 1, none⟩ = some (.int .i64 a0_1) := (blk_cell BK415.out 1).trans rfl; have hcz9_2 : w8.cell? ⟨gb415, 2, none⟩ = some (.slice A0_2 l0_2.length c0_2) := (blk_cell BK415.out 2).trans rfl; have hfz9_0 := blk_frozen BK415.out 0; have hfz9_1 := blk_frozen BK415.out 1; have hfz9_2 := blk_frozen BK415.out 2) | ((with_reducible refine gate_callee (f := 72) rfl ?_); refine goesL_ (some 15) rfl rfl Try.func72 (by kernel_rfl) rfl #[.agg #[.int .i64 a0_0, .int .i64 a0_1, .slice A0_2 l0_2.length c0_2], .int .i64 a2] rfl (by ((simp only [List.map_toArray, List.map_cons, List.map_nil])); (rfl)) ?_; (with_reducible refine (codewrightref04_Digits.calls k a0_0 a0_1 _ _ l0_2 a2 t419 _ ?side1 ?side2 A5.out).mono ?_); (case side1 => repeat ((exact (Kd.C_below HR0_2.out HB.out)))); (case side2 => exact HC0_2.out); rintro e w10 ⟨v420, rfl, ho0, hb⟩; refine ⟨_, rfl, ?_⟩; have n0_ := Aside0.mk (Kd.R_elder' HO418.out (Kd.R_base ho0) hb); have n1_ := Aside0.mk (Kd.R_lower (Kd.R_new' ho0 (Kd.R_lt HO418.out)) (below_size HB.out)); have n2_ := Aside0.mk (blk_below (g := gb415) (o := .cells #[.int .i64 a0_0, .int .i64 a0_1, .slice A0_2 l0_2.length c0_2] 24 (0, 0)) BK415.out hb); have n3_ := Aside0.mk (below_step HB.out hb); clear HO418; clear BK415; clear HB; have HO418 := n0_; have HO421 := n1_; have BK415 := n2_; have HB := n3_; clear n0_ n1_ n2_ n3_; ((clear hb)); (skip); (skip); (skip); ((clear ho0))))
 go_loopg [9] k (fun kq v9 w' => ∃ (x7_1 : List Int) (x9_1 : Int), v9 = .int .i64 x9_1 ∧ Aside0 (codewrightref04_Add.l0 kq x7_1 t419 x9_1 a0_0 a0_1 l0_2 = some r) ∧ Aside0 (kq ≤ k) ∧ Aside0 (Kd.R (Kd.int .i64) 3 w' w.heap.size (fun k_ => some k_ ≠ (v420 : Value).ownBlock) v417 x7_1) ∧ Aside0 (Kd.R (Kd.int .i64) 3 w' w.heap.size (fun k_ => some k_ ≠ (v417 : Value).ownBlock) v420 t419) ∧ Aside0 (w'.heap[gb415]? = some (.cells #[.int .i64 a0_0, .int .i64 a0_1, (.slice A0_2 l0_2.length c0_2)] 24 (0, 0))) ∧ Aside0 (Below w.heap.size w w'))
 case atStart => exact ⟨(t416), (0), (by rfl), H', ⟨Nat.le_refl _⟩, ⟨by exact Kd.R_mono HO418.out (fun _ hk => hk.2)⟩, ⟨by exact Kd.R_mono HO421.out (fun _ hk => hk.2)⟩, ⟨BK415.out⟩, ⟨by exact HB.out⟩⟩
 case round =>
  clear H' hcz7_0 hcz7_1 hcz7_2 hcz9_0 hcz9_1 hcz9_2 hfz7_0 hfz7_1 hfz7_2 hfz9_0 hfz9_1 hfz9_2
  obtain ⟨x7_1, x9_1, rfl, HA, HK1, HO_7, HO_8, BK415, HB⟩ := hrel
  cases gk with
  | zero => exact absurd HA.out (by simp [codewrightref04_Add.l0])
  | succ k1 =>
   have H := HA.out
   clear HA
   simp only [codewrightref04_Add.l0] at H
   by_cases c11 : x9_1 < (x7_1.length : Int)
   ·rw [if_pos c11] at H
    have c11b0 : decide (x9_1 < (x7_1.length : Int)) = true := decide_eq_true c11
    clear c11
    by_cases c12 : 0 ≤ x9_1
    ·rw [if_pos c12] at H
     have c12b0 : decide (0 ≤ x9_1) = true := decide_eq_true c12
     clear c12
     by_cases c13 : x9_1 < (t419.length : Int)
     ·rw [if_pos c13] at H
      have c13b0 : decide (x9_1 < (t419.length : Int)) = true := decide_eq_true c13
      clear c13
      by_cases c14 : a0_0 = 0
      ·rw [if_pos c14] at H
       exact absurd H (by simp)
      ·rw [if_neg c14] at H
       have c14b0 : (a0_0 == 0) = false := beq_eq_false_iff_ne.mpr c14
       have c14b1 : (a0_0 != 0) = true := bne_iff_ne.mpr c14
       obtain ⟨y424, hy424⟩ : ∃ y_ : List Int, y_ = (x7_1.set (x9_1 : Int).toNat (Int.tmod (wrap64 ((rd x7_1 x9_1) + (rd t419 x9_1))) a0_0)) := ⟨_, rfl⟩
       replace H : (codewrightref04_Add.l0 k1 y424 t419 (wrap64 (x9_1 + 1)) a0_0 a0_1 l0_2) = some r := by (rw [hy424]; with_reducible exact H)
       have Ny424 := Aside0.mk hy424
       clear hy424
       have H' := Aside0.mk H
       clear H
       obtain ⟨Ao16, co16, eo16⟩ := Kd.R_slice HO_7.out
       subst eo16
       (go_wp2)
       have n0_ := Aside0.mk (Kd.R_drew HO_7.out)
       have n1_ := Aside0.mk (Kd.R_drew HO_8.out)
       have n2_ := Aside0.mk (blk_drew BK415.out)
       have n3_ := Aside0.mk (below_drew1 HB.out)
       clear HO_7 HO_8 BK415 HB
       have HO_7 := n0_
       have HO_8 := n1_
       have BK415 := n2_
       have HB := n3_
       clear n0_ n1_ n2_ n3_
       have p422 : 0 ≤ (x9_1 : Int) := of_decide_eq_true (by (with_reducible assumption))
       have q422 : x9_1 < (x7_1.length : Int) := of_decide_eq_true (by (with_reducible assumption))
       obtain ⟨ad422, e422, hx422_0⟩ := Kd.at_int (Kd.R_reads' HO_7.out).2.2 x9_1 p422 q422
       cases e422
       replace p422 := eq_true p422
       replace q422 := eq_true q422
       obtain ⟨Ao18, co18, eo18⟩ := Kd.R_slice HO_8.out
       ((subst eo18))
       have p423 : 0 ≤ (x9_1 : Int) := of_decide_eq_true (by (with_reducible assumption))
       have q423 : x9_1 < (t419.length : Int) := of_decide_eq_true (by (with_reducible assumption))
       obtain ⟨ad423, e423, hx423_0⟩ := Kd.at_int (Kd.R_reads' HO_8.out).2.2 x9_1 p423 q423
       cases e423
       replace p423 := eq_true p423
       replace q423 := eq_true q423
       have p15 : 0 ≤ (x9_1 : Int) := of_decide_eq_true (by (with_reducible assumption))
       have q15 : (x9_1 : Int) < ((x7_1.length : Int) : Int) := of_decide_eq_true (by (with_reducible assumption))
       obtain ⟨go15, co15, eo15, gb15, gl15, cl15, HG15⟩ := Kd.R_form HO_7.out (by omega)
       ((cases eo15))
       have GB15 := Aside0.mk gb15
       have GG15 := Aside0.mk HG15
       clear gb15 gl15 HG15
       ((simp only [add_plain] at hx422_0))
       obtain ⟨hx15_0, hf15_0⟩ := Kd.R_celln 0 HO_7.out (x9_1 : Int) p15 q15
       replace p15 := eq_true p15
       replace q15 := eq_true q15
       have HP19 := Kd.R_putn HO_7.out (x9_1 : Int) (Int.tmod (wrap64 ((rd x7_1 x9_1) + (rd t419 x9_1))) a0_0)
       rw [← Ny424.out] at HP19
       have HQ19 := Aside0.mk HP19
       clear HP19
       refine start_ (n := 16) (S := fun w' => w'.cell? ⟨gb415, 0, none⟩ = some (.int .i64 a0_0) ∧ w'.cell? ⟨gb415, 1, none⟩ = some (.int .i64 a0_1) ∧ w'.cell? ⟨gb415, 2, none⟩ = some (.slice A0_2 l0_2.length c0_2) ∧ w'.cell? ⟨go15, (x9_1).toNat, none⟩ = some (.int .i64 (rd x7_1 x9_1)) ∧ w'.cell? (ad423.add (x9_1).toNat) = some (.int .i64 (rd t419 x9_1))) (ds := [15]) (bm 16 0) (by kernel_rfl) rfl rfl ⟨(blk_cell BK415.out 0).trans rfl, (blk_cell BK415.out 1).trans rfl, (blk_cell BK415.out 2).trans rfl, hx422_0, hx423_0⟩ (fun hHeld => ?_); refine with_tabW codewrightref04_Add.tab6 codewrightref04_Add.bits6 (fun HT_ HW_ => ?_)
       generalize wr.drew = w17 at HO_7 HO_8 BK415 HB GG15 HQ19 hf15_0 hx15_0 hx422_0 hx423_0 hHeld ⊢
       refine pure_ (i := 0) (N := some 22) (v := ?_) (a' := ?_) (bm 16 1) rfl rfl (any_of HT_.out (by kernel_rfl)) (fun _ _ _ h => h) (Or.inl ⟨by rfl, ?_⟩) ?_ ?_;rotate_left;(intro w';go_simp;with_reducible rfl);rotate_left;(simp only [ps_];rfl)
       refine pure_ (i := 1) (N := some 23) (v := ?_) (a' := ?_) (bm 16 3) rfl rfl (any_of HT_.out (by kernel_rfl)) (fun _ _ _ h => h) (Or.inl ⟨by rfl, ?_⟩) ?_ ?_;rotate_left;(intro w';go_simp;with_reducible rfl);rotate_left;(simp only [ps_];rfl)
       refine pure_ (i := 2) (N := some 24) (v := ?_) (a' := ?_) (bm 16 7) rfl rfl (any_of HT_.out (by kernel_rfl)) (fun _ _ _ h => h) (Or.inl ⟨by rfl, ?_⟩) ?_ ?_;rotate_left;(intro w';go_simp;with_reducible rfl);rotate_left;(simp only [ps_];rfl)
       refine pure_ (i := 3) (N := some 25) (v := ?_) (a' := ?_) (bm 16 15) rfl rfl (any_of HT_.out (by kernel_rfl)) (fun _ _ _ h => h) (Or.inl ⟨by rfl, ?_⟩) ?_ ?_;rotate_left;(intro w';go_simp;with_reducible rfl);rotate_left;(simp only [ps_];rfl)
       refine pure_ (i := 4) (N := some 26) (v := ?_) (a' := ?_) (bm 16 31) rfl rfl (any_of HT_.out (by kernel_rfl)) (fun _ _ _ h => h) (Or.inl ⟨by rfl, ?_⟩) ?_ ?_;rotate_left;(intro w';go_simp;with_reducible rfl);rotate_left;(simp only [ps_];rfl)
       refine pure_ (i := 6) (N := some 28) (v := ?_) (a' := ?_) (bm 16 95) rfl rfl (any_of HT_.out (by kernel_rfl)) (fun _ _ _ h => h) (Or.inl ⟨by rfl, ?_⟩) ?_ ?_;rotate_left;(intro w';go_simp;with_reducible rfl);rotate_left;(simp only [ps_];rfl)
       refine pure_ (i := 7) (N := some 29) (v := ?_) (a' := ?_) (bm 16 223) rfl rfl (any_of HT_.out (by kernel_rfl)) (fun _ _ _ h => h) (Or.inl ⟨by rfl, ?_⟩) ?_ ?_;rotate_left;(intro w';go_simp;with_reducible rfl);rotate_left;(simp only [ps_];rfl)
       refine pure_ (i := 8) (N := some 30) (v := ?_) (a' := ?_) (bm 16 479) rfl rfl (any_of HT_.out (by kernel_rfl)) (fun _ _ _ h => h) (Or.inl ⟨by rfl, ?_⟩) ?_ ?_;rotate_left;(intro w';go_simp;with_reducible rfl);rotate_left;(simp only [ps_];rfl)
       refine pure_ (i := 11) (N := some 33) (v := ?_) (a' := ?_) (bm 16 2527) rfl rfl (any_of HT_.out (by kernel_rfl)) (fun _ _ _ h => h) (Or.inl ⟨by rfl, ?_⟩) ?_ ?_;rotate_left;(intro w';go_simp;with_reducible rfl);rotate_left;(simp only [ps_];rfl)
       refine take_ (i := 5) (N := some 27) (v := ?_) (a' := ?_) (bm 16 2559) rfl rfl (take_ofW HT_.out HW_.out (by kernel_rfl)) (fun _ _ _ h => h) (Or.inl ⟨by rfl, ?_⟩) hHeld ?_ ?_;rotate_left;(rintro w' ⟨s0, s1, s2, s3, s4⟩;go_simp;with_reducible rfl);rotate_left;(simp only [ps_];rfl)
       refine take_ (i := 9) (N := some 31) (v := ?_) (a' := ?_) (bm 16 3071) rfl rfl (take_ofW HT_.out HW_.out (by kernel_rfl)) (fun _ _ _ h => h) (Or.inl ⟨by rfl, ?_⟩) hHeld ?_ ?_;rotate_left;(rintro w' ⟨s0, s1, s2, s3, s4⟩;go_simp;with_reducible rfl);rotate_left;(simp only [ps_];rfl)
       refine pure_ (i := 10) (N := some 32) (v := ?_) (a' := ?_) (bm 16 4095) rfl rfl (any_of HT_.out (by kernel_rfl)) (fun _ _ _ h => h) (Or.inl ⟨by rfl, ?_⟩) ?_ ?_;rotate_left;(intro w';go_simp;with_reducible rfl);rotate_left;(simp only [ps_];rfl)
       refine take_ (i := 12) (N := some 34) (v := ?_) (a' := ?_) (bm 16 8191) rfl rfl (take_ofW HT_.out HW_.out (by kernel_rfl)) (fun _ _ _ h => h) (Or.inl ⟨by rfl, ?_⟩) hHeld ?_ ?_;rotate_left;(rintro w' ⟨s0, s1, s2, s3, s4⟩;go_simp;with_reducible rfl);rotate_left;(simp only [ps_];rfl)
       refine pure_ (i := 13) (N := some 35) (v := ?_) (a' := ?_) (bm 16 16383) rfl rfl (any_of HT_.out (by kernel_rfl)) (fun _ _ _ h => h) (Or.inl ⟨by rfl, ?_⟩) ?_ ?_;rotate_left;(intro w';go_simp;with_reducible rfl);rotate_left;(simp only [ps_];rfl)
       refine pure_ (i := 14) (N := some 36) (v := ?_) (a' := ?_) (bm 16 32767) rfl rfl (any_of HT_.out (by kernel_rfl)) (fun _ _ _ h => h) (Or.inl ⟨by rfl, ?_⟩) ?_ ?_;rotate_left;(intro w';go_simp;with_reducible rfl);rotate_left;(simp only [ps_];rfl)
       refine last_ (i := 15) (N := none) (bm 16 65535) rfl rfl (one_of HT_.out (by kernel_rfl)) (by decide) (fun K hK => ?_)
       refine skip_ (w1 := ?_) (by rfl) rfl ?_ ?_
       rotate_left
       ·go_simp
        rfl
       refine hK.out _ _ ?_
       clear hK K
       refine done_ (done_of HT_.out (by kernel_rfl)) ?_
       (go_wp2)
       go_roundg k1
       case measure => have := HK1.out; omega
       case rel => exact ⟨(y424), (wrap64 (x9_1 + 1)), (by rfl), H', ⟨by have := HK1.out; omega⟩, ⟨HQ19.out⟩, ⟨by exact Kd.R_mono (Kd.R_far (p := ⟨go15, (x9_1 : Int).toNat, none⟩) (Kd.R_mono HO_8.out (fun k_ hk => (⟨hk, fun e_ => hk (by rw [e_]; rfl)⟩ : _ ∧ k_ ≠ go15))) (fun _ hk => hk.2) (.int .i64 (Int.tmod (wrap64 ((rd x7_1 x9_1) + (rd t419 x9_1))) a0_0))) (fun _ hk => hk.1)⟩, ⟨by (with_reducible repeat (fail)); refine blk_far ?_ (by have h_ := Kd.R_ne HO_7.out BK415.out (by decide); intro e_; exact h_ (by rw [e_]; rfl)) _; (with_reducible repeat (fail)); exact BK415.out⟩, ⟨by repeat ((with_reducible first | (exact HB.out) | (refine below_set ?_ GB15.out)))⟩⟩
     ·rw [if_neg c13] at H
      exact absurd H (by simp)
    ·rw [if_neg c12] at H
     exact absurd H (by simp)
   ·rw [if_neg c11] at H
    have c11b0 : decide (x9_1 < (x7_1.length : Int)) = false := decide_eq_false c11
    clear c11
    obtain ⟨t425, A200, H⟩ := Option.bind_eq_some_iff.mp H
    replace H : (some t425) = some r := H
    have A20 := Aside0.mk A200
    clear A200
    obtain rfl := Option.some.inj H
    obtain ⟨Ao21, co21, eo21⟩ := Kd.R_slice HO_7.out
    subst eo21
    have hcz22_0 : wr.cell? ⟨gb415, 0, none⟩ = some (.int .i64 a0_0) := (blk_cell BK415.out 0).trans rfl
    have hcz22_1 : wr.cell? ⟨gb415, 1, none⟩ = some (.int .i64 a0_1) := (blk_cell BK415.out 1).trans rfl
    have hcz22_2 : wr.cell? ⟨gb415, 2, none⟩ = some (.slice A0_2 l0_2.length c0_2) := (blk_cell BK415.out 2).trans rfl
    have hfz22_0 := blk_frozen BK415.out 0
    have hfz22_1 := blk_frozen BK415.out 1
    have hfz22_2 := blk_frozen BK415.out 2
    go_wp2_with (((with_reducible refine gate_callee (f := 73) rfl ?_); refine goesL_ (some 39) rfl rfl Try.func73 (by kernel_rfl) rfl #[.agg #[.int .i64 a0_0, .int .i64 a0_1, .slice A0_2 l0_2.length c0_2], .slice Ao21 x7_1.length co21] rfl (by ((simp only [List.map_toArray, List.map_cons, List.map_nil])); (rfl)) ?_; (with_reducible refine (codewrightref04_Value.calls k1 a0_0 a0_1 _ _ l0_2 _ _ x7_1 t425 _ ?side1 ?side2 ?side3 ?side4 A20.out).mono ?_); (case side1 => repeat ((exact (Kd.C_below HR0_2.out HB.out)))); (case side2 => exact HC0_2.out); (case side3 => repeat ((exact (Kd.R_reads' HO_7.out).2.2))); (case side4 => exact (Kd.R_reads' HO_7.out).2.1); rintro e w23 ⟨rfl, hb⟩; refine ⟨_, rfl, ?_⟩; have n0_ := Aside0.mk (Kd.R_below HO_7.out hb); have n1_ := Aside0.mk (Kd.R_below HO_8.out hb); have n2_ := Aside0.mk (blk_below (g := gb415) (o := .cells #[.int .i64 a0_0, .int .i64 a0_1, .slice A0_2 l0_2.length c0_2] 24 (0, 0)) BK415.out hb); have n3_ := Aside0.mk (below_step HB.out hb); clear HO_7; clear HO_8; clear BK415; clear HB; have HO_7 := n0_; have HO_8 := n1_; have BK415 := n2_; have HB := n3_; clear n0_ n1_ n2_ n3_; ((clear hb)); (skip); (skip); (skip)))
    go_ret
    exact ⟨by rfl, by exact HB.out⟩
end Go.Proofs.Ytiejggpmjapajaa.PA
end
section
namespace Go.Proofs.Ytiejggpmjapajaa.PA
open Go.RowKit Go.Proofs.YtiejggpmjapajaaW.PrintWords Go.Proofs.YtiejggpmjapajaaW.PrintLast Go.Proofs.YtiejggpmjapajaaW.PrintMore
attribute [local go_sem] max2_int min2_int max_two min_two max_three min_three max_four min_four
set_option linter.unusedVariables false
set_option linter.unusedSimpArgs false
mutual
def codewrightref04_Mul.l0 : Nat → List Int → List Int → List Int → Int → Int → Int → List Int → Option (Int)
 | 0, _, _, _, _, _, _, _ => none
 | k + 1, x7, x8, x9, x10, x427000, x427001, x427002 => if x10 < x427001 then (codewrightref04_Mul.l1 k x7 x8 x9 x10 0 x427000 x427001 x427002) else (codewrightref04_Mul.l2 k x9 (wrap64 ((wrap64 (2 * x427001)) - 2)) x427000 x427001 x427002)
def codewrightref04_Mul.l1 : Nat → List Int → List Int → List Int → Int → Int → Int → Int → List Int → Option (Int)
 | 0, _, _, _, _, _, _, _, _ => none
 | k + 1, x7, x8, x9, x10, x11, x427000, x427001, x427002 => if x11 < x427001 then (if 0 ≤ (wrap64 (x10 + x11)) then (if (wrap64 (x10 + x11)) < (x9.length : Int) then (if 0 ≤ x10 then (if x10 < (x7.length : Int) then (if 0 ≤ x11 then (if x11 < (x8.length : Int) then (if x427000 = 0 then (none) else (codewrightref04_Mul.l1 k x7 x8 (x9.set ((wrap64 (x10 + x11)) : Int).toNat (Int.tmod (wrap64 ((rd x9 (wrap64 (x10 + x11))) + (wrap64 ((rd x7 x10) * (rd x8 x11))))) x427000)) x10 (wrap64 (x11 + 1)) x427000 x427001 x427002)) else (none)) else (none)) else (none)) else (none)) else (none)) else (none)) else (codewrightref04_Mul.l0 k x7 x8 x9 (wrap64 (x10 + 1)) x427000 x427001 x427002)
def codewrightref04_Mul.l2 : Nat → List Int → Int → Int → Int → List Int → Option (Int)
 | 0, _, _, _, _, _ => none
 | k + 1, x9, x12, x427000, x427001, x427002 => if x12 ≥ x427001 then (codewrightref04_Mul.l3 k x9 x12 0 x427000 x427001 x427002) else (if 0 ≤ x427001 then (if x427001 ≤ (x9.length : Int) then ((codewrightref04_Value.f k x427000 x427001 x427002 (x9.take (x427001 : Int).toNat)).bind fun t444 => (some t444)) else (none)) else (none))
def codewrightref04_Mul.l3 : Nat → List Int → Int → Int → Int → Int → List Int → Option (Int)
 | 0, _, _, _, _, _, _ => none
 | k + 1, x9, x12, x13, x427000, x427001, x427002 => if x13 < x427001 then (if 0 ≤ (wrap64 ((wrap64 (x12 - x427001)) + x13)) then (if (wrap64 ((wrap64 (x12 - x427001)) + x13)) < (x9.length : Int) then (if 0 ≤ x12 then (if x12 < (x9.length : Int) then (if 0 ≤ x13 then (if x13 < (x427002.length : Int) then (if x427000 = 0 then (none) else (codewrightref04_Mul.l3 k (x9.set ((wrap64 ((wrap64 (x12 - x427001)) + x13)) : Int).toNat (Int.tmod (wrap64 ((rd x9 (wrap64 ((wrap64 (x12 - x427001)) + x13))) + (wrap64 ((wrap64 (x427000 - (rd x9 x12))) * (rd x427002 x13))))) x427000)) x12 (wrap64 (x13 + 1)) x427000 x427001 x427002)) else (none)) else (none)) else (none)) else (none)) else (none)) else (none)) else (codewrightref04_Mul.l2 k x9 (wrap64 (x12 - 1)) x427000 x427001 x427002)
end
def codewrightref04_Mul.f (k : Nat) (a0_0 : Int) (a0_1 : Int) (l0_2 : List Int) (a1 : Int) (a2 : Int) : Option (Int) := (codewrightref04_Digits.f k a0_0 a0_1 l0_2 a1).bind fun t427 => ((codewrightref04_Digits.f k a0_0 a0_1 l0_2 a2).bind fun t430 => (if 0 ≤ (wrap64 ((wrap64 (2 * a0_1)) - 1)) then (if (wrap64 ((wrap64 (2 * a0_1)) - 1) : Int).toNat ≤ 35184372088832 then (codewrightref04_Mul.l0 k t427 t430 (List.replicate (wrap64 ((wrap64 (2 * a0_1)) - 1) : Int).toNat 0) 0 a0_0 a0_1 l0_2) else (none)) else (none)))
end Go.Proofs.Ytiejggpmjapajaa.PA
end
section
namespace Go.Proofs.Ytiejggpmjapajaa.PA
open Go.RowKit Go.Proofs.YtiejggpmjapajaaW.PrintWords Go.Proofs.YtiejggpmjapajaaW.PrintLast Go.Proofs.YtiejggpmjapajaaW.PrintMore
attribute [local go_sem] max2_int min2_int max_two min_two max_three min_three max_four min_four
set_option linter.unusedVariables false
set_option linter.unusedSimpArgs false
end Go.Proofs.Ytiejggpmjapajaa.PA
end
section
namespace Go.Proofs.Ytiejggpmjapajaa.PA
open Go.RowKit Go.Proofs.YtiejggpmjapajaaW.PrintWords Go.Proofs.YtiejggpmjapajaaW.PrintLast Go.Proofs.YtiejggpmjapajaaW.PrintMore
attribute [local go_sem] max2_int min2_int max_two min_two max_three min_three max_four min_four
set_option linter.unusedVariables false
set_option linter.unusedSimpArgs false
end Go.Proofs.Ytiejggpmjapajaa.PA
end
section
namespace Go.Proofs.Ytiejggpmjapajaa.PA
open Go.RowKit Go.Proofs.YtiejggpmjapajaaW.PrintWords Go.Proofs.YtiejggpmjapajaaW.PrintLast Go.Proofs.YtiejggpmjapajaaW.PrintMore
attribute [local go_sem] max2_int min2_int max_two min_two max_three min_three max_four min_four
set_option linter.unusedVariables false
set_option linter.unusedSimpArgs false
def codewrightref04_Neg.l0 : Nat → List Int → Int → Int → Int → List Int → Option (Int)
 | 0, _, _, _, _, _ => none
 | k + 1, x5, x6, x496000, x496001, x496002 => if x6 < (x5.length : Int) then (if 0 ≤ x6 then (if x496000 = 0 then (none) else (codewrightref04_Neg.l0 k (x5.set (x6 : Int).toNat (Int.tmod (wrap64 (x496000 - (rd x5 x6))) x496000)) (wrap64 (x6 + 1)) x496000 x496001 x496002)) else (none)) else ((codewrightref04_Value.f k x496000 x496001 x496002 x5).bind fun t501 => (some t501))
def codewrightref04_Neg.f (k : Nat) (a0_0 : Int) (a0_1 : Int) (l0_2 : List Int) (a1 : Int) : Option (Int) := (codewrightref04_Digits.f k a0_0 a0_1 l0_2 a1).bind fun t496 => (codewrightref04_Neg.l0 k t496 0 a0_0 a0_1 l0_2)
end Go.Proofs.Ytiejggpmjapajaa.PA
end
section
namespace Go.Proofs.Ytiejggpmjapajaa.PA
open Go.RowKit Go.Proofs.YtiejggpmjapajaaW.PrintWords Go.Proofs.YtiejggpmjapajaaW.PrintLast Go.Proofs.YtiejggpmjapajaaW.PrintMore
attribute [local go_sem] max2_int min2_int max_two min_two max_three min_three max_four min_four
set_option linter.unusedVariables false
set_option linter.unusedSimpArgs false
end Go.Proofs.Ytiejggpmjapajaa.PA
end
section
namespace Go.Proofs.Ytiejggpmjapajaa.PA
open Go.RowKit Go.Proofs.YtiejggpmjapajaaW.PrintWords Go.Proofs.YtiejggpmjapajaaW.PrintLast Go.Proofs.YtiejggpmjapajaaW.PrintMore
attribute [local go_sem] max2_int min2_int max_two min_two max_three min_three max_four min_four
set_option linter.unusedVariables false
set_option linter.unusedSimpArgs false
def codewrightlaw05_short.l0 : Nat → List (List Int) → Int → Int → Option (Bool)
 | 0, _, _, _ => none
 | k + 1, x5, x6, x7 => if x7 < x6 then (if 0 ≤ x7 then (if x7 < (x5.length : Int) then (if ((rd_L2 x5 x7).length : Int) > 24 then (some false) else (codewrightlaw05_short.l0 k x5 x6 (wrap64 (x7 + 1)))) else (none)) else (none)) else (some true)
def codewrightlaw05_short.f (k : Nat) (l0 : List (List Int)) : Option (Bool) := codewrightlaw05_short.l0 k l0 (l0.length : Int) 0
set_option maxHeartbeats 8000000 in
set_option maxRecDepth 100000 in
theorem codewrightlaw05_short.calls (k : Nat) (A0 : Option Addr) (c0 : Nat) (l0 : List (List Int)) (r : Bool) (w : World) (hr0 : Kd.C (Kd.slice 3 (Kd.int .i64)) w A0 l0.length l0) (hc0 : l0.length ≤ c0) (h : codewrightlaw05_short.f k l0 = some r) :
  Calls Try.prog 16 #[.slice A0 l0.length c0] w fun e w' => e = .returned (.bool r) ∧ Drawn0 w w' := by
 have HR0 := Aside0.mk hr0
 have HC0 := Aside0.mk hc0
 clear hr0 hc0
 have H : (codewrightlaw05_short.l0 k l0 (l0.length : Int) 0) = some r := h
 clear h
 have H' := Aside0.mk H
 clear H
 go_enter Try.func16, Try.ntmps16
 go_wp2
 go_loopg [7] k (fun kq v7 w' => ∃ (x7_1 : Int), v7 = .int .i64 x7_1 ∧ Aside0 (codewrightlaw05_short.l0 kq l0 (l0.length : Int) x7_1 = some r) ∧ Aside0 (kq ≤ k) ∧ Drawn0 w w')
 case atStart => exact ⟨(0), (by rfl), H', ⟨Nat.le_refl _⟩, by repeat ((exact Drawn0.refl _))⟩
 case round =>
  clear H'
  obtain ⟨x7_1, rfl, HA, HK1, ⟨m1, rfl⟩⟩ := hrel
  cases gk with
  | zero => exact absurd HA.out (by simp [codewrightlaw05_short.l0])
  | succ k1 =>
   have H := HA.out
   clear HA
   simp only [codewrightlaw05_short.l0] at H
   by_cases c2 : x7_1 < (l0.length : Int)
   ·rw [if_pos c2] at H
    have c2b0 : decide (x7_1 < (l0.length : Int)) = true := decide_eq_true c2
    clear c2
    by_cases c3 : 0 ≤ x7_1
    ·rw [if_pos c3] at H
     have c3b0 : decide (0 ≤ x7_1) = true := decide_eq_true c3
     clear c3
     by_cases c4 : x7_1 < (l0.length : Int)
     ·rw [if_pos c4] at H
      have c4b0 : decide (x7_1 < (l0.length : Int)) = true := decide_eq_true c4
      clear c4
      by_cases c5 : ((rd_L2 l0 x7_1).length : Int) > 24
      ·rw [if_pos c5] at H
       have c5b0 : decide (24 < ((rd_L2 l0 x7_1).length : Int)) = true := decide_eq_true c5
       have c5b1 : decide (24 < (rd_L2 l0 x7_1).length) = true := decide_eq_true (by omega)
       clear c5
       obtain rfl := Option.some.inj H
       have p579 : 0 ≤ (x7_1 : Int) := of_decide_eq_true (by (with_reducible assumption))
       have q579 : x7_1 < (l0.length : Int) := of_decide_eq_true (by (with_reducible assumption))
       obtain ⟨ad579, A579_0, c579_0, e579, hx579_0, hl579_0, hi579_0⟩ := at_L2 HR0.out x7_1 p579 q579
       cases e579
       have HR579_0 := Aside0.mk hi579_0
       have HC579_0 := Aside0.mk hl579_0
       clear hi579_0 hl579_0
       replace p579 := eq_true p579
       replace q579 := eq_true q579
       go_wp2
       go_ret
       exact ⟨by rfl, by repeat (first | (exact Drawn0.refl _) | (apply Drawn0.step))⟩
      ·rw [if_neg c5] at H
       have c5b0 : decide (24 < ((rd_L2 l0 x7_1).length : Int)) = false := decide_eq_false c5
       have c5b1 : decide (24 < (rd_L2 l0 x7_1).length) = false := decide_eq_false (by omega)
       clear c5
       have H' := Aside0.mk H
       clear H
       have p579 : 0 ≤ (x7_1 : Int) := of_decide_eq_true (by (with_reducible assumption))
       have q579 : x7_1 < (l0.length : Int) := of_decide_eq_true (by (with_reducible assumption))
       obtain ⟨ad579, A579_0, c579_0, e579, hx579_0, hl579_0, hi579_0⟩ := at_L2 HR0.out x7_1 p579 q579
       cases e579
       have HR579_0 := Aside0.mk hi579_0
       have HC579_0 := Aside0.mk hl579_0
       clear hi579_0 hl579_0
       replace p579 := eq_true p579
       replace q579 := eq_true q579
       go_wp2
       go_roundg k1
       case measure => have := HK1.out; omega
       case rel => exact ⟨(wrap64 (x7_1 + 1)), (by rfl), H', ⟨by have := HK1.out; omega⟩, by repeat (first | (exact Drawn0.refl _) | (apply Drawn0.step))⟩
     ·rw [if_neg c4] at H
      exact absurd H (by simp)
    ·rw [if_neg c3] at H
     exact absurd H (by simp)
   ·rw [if_neg c2] at H
    have c2b0 : decide (x7_1 < (l0.length : Int)) = false := decide_eq_false c2
    clear c2
    obtain rfl := Option.some.inj H
    go_wp2
    go_ret
    exact ⟨by rfl, by repeat (first | (exact Drawn0.refl _) | (apply Drawn0.step))⟩
end Go.Proofs.Ytiejggpmjapajaa.PA
end
section
namespace Go.Proofs.Ytiejggpmjapajaa.PA
open Go.RowKit Go.Proofs.YtiejggpmjapajaaW.PrintWords Go.Proofs.YtiejggpmjapajaaW.PrintLast Go.Proofs.YtiejggpmjapajaaW.PrintMore
attribute [local go_sem] max2_int min2_int max_two min_two max_three min_three max_four min_four
set_option linter.unusedVariables false
set_option linter.unusedSimpArgs false
mutual
def poly_combine.l0 : Nat → Int → List Int → List Int → List Int → Int → Int → Int → Int → List Int → Int → List Int → List Int → Option (List Int × Int × Int × Int)
 | 0, _, _, _, _, _, _, _, _, _, _, _, _ => none
 | k + 1, x2, x3, x9, x20, x21, x22, x1000, x1001, x1002, x1003, x1004, x1005 => if x22 < x21 then (if 0 ≤ x22 then (if x22 < (x20.length : Int) then ((field_GF_Add.f k x1000 x1001 x1002 x1003 x1004 x1005 (rd x20 x22) 0).bind fun bt584 => (if x22 < (x9.length : Int) then (poly_combine.l0 k x2 x3 (x9.set (x22 : Int).toNat bt584.1) x20 x21 (wrap64 (x22 + 1)) bt584.2.1 bt584.2.2.1 x1002 bt584.2.2.2 x1004 x1005) else (none))) else (none)) else (none)) else (poly_combine.l1 k x2 x9 x3 (x3.length : Int) 0 x1000 x1001 x1002 x1003 x1004 x1005)
def poly_combine.l1 : Nat → Int → List Int → List Int → Int → Int → Int → Int → List Int → Int → List Int → List Int → Option (List Int × Int × Int × Int)
 | 0, _, _, _, _, _, _, _, _, _, _, _ => none
 | k + 1, x2, x9, x34, x35, x36, x1000, x1001, x1002, x1003, x1004, x1005 => if x36 < x35 then (if 0 ≤ x36 then (if x36 < (x34.length : Int) then (if x36 < (x9.length : Int) then ((field_GF_Mul.f x1000 x1001 x1002 x1003 x1004 x1005 x2 (rd x34 x36)).bind fun bt591 => ((field_GF_Add.f k bt591.2.1 bt591.2.2.1 x1002 bt591.2.2.2 x1004 x1005 (rd x9 x36) bt591.1).bind fun bt595 => (poly_combine.l1 k x2 (x9.set (x36 : Int).toNat bt595.1) x34 x35 (wrap64 (x36 + 1)) bt595.2.1 bt595.2.2.1 x1002 bt595.2.2.2 x1004 x1005))) else (none)) else (none)) else (none)) else ((poly_trim.f k x9).bind fun t600 => (some (t600, x1000, x1001, x1003)))
end
def poly_combine.f (k : Nat) (s0_0 : Int) (s0_1 : Int) (s0_2 : List Int) (s0_3 : Int) (s0_4 : List Int) (s0_5 : List Int) (l1 : List Int) (a2 : Int) (l3 : List Int) : Option (List Int × Int × Int × Int) := if 0 ≤ (mx (l1.length : Int) (l3.length : Int)) then (if (mx (l1.length : Int) (l3.length : Int) : Int).toNat ≤ 35184372088832 then (poly_combine.l0 k a2 l3 (List.replicate (mx (l1.length : Int) (l3.length : Int) : Int).toNat 0) l1 (l1.length : Int) 0 s0_0 s0_1 s0_2 s0_3 s0_4 s0_5) else (none)) else (none)
def poly_combine.T10 : Bool × List (List Nat × List Nat) := (true, [([], []), ([], []), ([], []), ([], []), ([], []), ([3, 4], [3, 4]), ([5], [5]), ([], []), ([], []), ([], []), ([7, 8, 9], [7, 8, 9]), ([2, 6, 10, 10], [2, 6, 10]), ([0, 1, 0, 1, 2, 3, 4, 5, 6, 7, 8, 9, 10, 11], [0, 1]), ([12, 11, 11, 0, 1, 2, 3, 4, 5, 6, 7, 8, 9, 10, 11], [11, 12])])
def poly_combine.B10 : List Nat := [0, 0, 0, 0, 0, 24, 56, 0, 0, 0, 896, 2044, 4095, 8191]
theorem poly_combine.tab10 : rtab .any (opsOf Try.f52 10) = poly_combine.T10 := by kernel_rfl
theorem poly_combine.bits10 : waitsOk poly_combine.T10.2 poly_combine.B10 = true := by kernel_rfl
set_option maxHeartbeats 8000000 in
set_option maxRecDepth 100000 in
theorem poly_combine.calls (k : Nat) (g : Nat) (s0_0 : Int) (s0_1 : Int) (s0_2 : List Int) (s0_3 : Int) (s0_4 : List Int) (s0_5 : List Int) (A1 : Option Addr) (c1 : Nat) (l1 : List Int) (a2 : Int) (A3 : Option Addr) (c3 : Nat) (l3 : List Int) (r1 : List Int) (r2 : Int) (r3 : Int) (r4 : Int) (w0 w : World) (hI : IsS85 w0 w g s0_0 s0_1 s0_2 s0_3 s0_4 s0_5) (hB : Below w0.heap.size w0 w) (hr1 : Kd.C (Kd.int .i64) w A1 l1.length l1) (hc1 : l1.length ≤ c1) (hf1 : ∀ ad, A1 = some ad → 0 < l1.length → ad.block ≠ g) (hr3 : Kd.C (Kd.int .i64) w A3 l3.length l3) (hc3 : l3.length ≤ c3) (hf3 : ∀ ad, A3 = some ad → 0 < l3.length → ad.block ≠ g) (h : poly_combine.f k s0_0 s0_1 s0_2 s0_3 s0_4 s0_5 l1 a2 l3 = some (r1, r2, r3, r4)) :
  Calls Try.prog 52 #[.pointer (some ⟨g, 0, none⟩), .slice A1 l1.length c1, .int .i64 a2, .slice A3 l3.length c3] w fun e w' => ∃ v0_ : Value, e = .returned (v0_) ∧ Kd.R (Kd.int .i64) 3 w' w.heap.size (fun _ => True) v0_ r1 ∧ IsS85 w0 w' g r2 r3 s0_2 r4 s0_4 s0_5 ∧ Below w0.heap.size w0 w' ∧ KeepBut w w' g none := by
 have HR1 := Aside0.mk hr1
 have HC1 := Aside0.mk hc1
 clear hr1 hc1
 have HR3 := Aside0.mk hr3
 have HC3 := Aside0.mk hc3
 clear hr3 hc3
 have HI0 := Aside0.mk hI
 have HK := Aside0.mk (KeepBut.refl w g none)
 have HL := Aside0.mk hB.size
 clear hI
 have HW0 := Aside0.mk hB.size
 have HB := Aside0.mk hB
 clear hB
 have H : (if 0 ≤ (mx (l1.length : Int) (l3.length : Int)) then (if (mx (l1.length : Int) (l3.length : Int) : Int).toNat ≤ 35184372088832 then (poly_combine.l0 k a2 l3 (List.replicate (mx (l1.length : Int) (l3.length : Int) : Int).toNat 0) l1 (l1.length : Int) 0 s0_0 s0_1 s0_2 s0_3 s0_4 s0_5) else (none)) else (none)) = some (r1, r2, r3, r4) := h
 clear h
 obtain ⟨ji5, hji5⟩ : ∃ j_ : Int, (mx (l1.length : Int) (l3.length : Int)) = j_ := ⟨_, rfl⟩
 replace H : (if 0 ≤ (ji5) then (if (ji5 : Int).toNat ≤ 35184372088832 then (poly_combine.l0 k a2 l3 (List.replicate (ji5 : Int).toNat 0) l1 (l1.length : Int) 0 s0_0 s0_1 s0_2 s0_3 s0_4 s0_5) else (none)) else (none)) = some (r1, r2, r3, r4) := by (rw [hji5] at H; exact H)
 ((have hji5l : 0 ≤ ji5 := by (rw [← hji5]; unfold mx; (repeat' split) <;> omega)))
 ((have hji5m : 0 ≤ ji5 := by omega))
 have hji5_ : (if (l1.length : Int) < (l3.length : Int) then (l3.length : Int) else (l1.length : Int)) = ji5 := hji5
 have hji5n : (if l1.length < l3.length then (l3.length : Int) else (l1.length : Int)) = ji5 := by rw [← hji5_]; simp only [Int.ofNat_lt]
 by_cases c6 : 0 ≤ (ji5)
 ·rw [if_pos c6] at H
  have c6b0 := eq_true c6
  have c6b1 : decide (0 ≤ (ji5)) = true := decide_eq_true c6
  clear c6
  by_cases c7 : (ji5 : Int).toNat ≤ 35184372088832
  ·rw [if_pos c7] at H
   have c7b0 := eq_true c7
   have c7b1 : decide ((ji5 : Int).toNat ≤ 35184372088832) = true := decide_eq_true c7
   clear c7
   obtain ⟨y580, hy580⟩ : ∃ y_ : List Int, y_ = (List.replicate (ji5 : Int).toNat 0) := ⟨_, rfl⟩
   replace H : (poly_combine.l0 k a2 l3 y580 l1 (l1.length : Int) 0 s0_0 s0_1 s0_2 s0_3 s0_4 s0_5) = some (r1, r2, r3, r4) := by (rw [hy580]; with_reducible exact H)
   have Ny580 := Aside0.mk hy580
   clear hy580
   have H' := Aside0.mk H
   clear H
   go_enter Try.func52, Try.ntmps52
   go_wp2_with (((with_reducible refine gate_dst (N := 19) rfl ?_); refine Kd.R_make (Kd.int .i64) _ 3 rfl (N := 19) rfl 22 _ _ rfl ji5 rfl rfl Try.underlying22 (.int .i64 0) 8 info3 rfl (by decide) (by omega) 0 (ok := fun _ => True) (okp := fun _ => True) rfl (fun _ hk => hk) trivial (of_decide_eq_true (by (with_reducible assumption))) (Nat.le_trans (Nat.mul_le_mul_right _ (of_decide_eq_true (by (with_reducible assumption)) : ji5.toNat ≤ 35184372088832)) (by omega)) (Below.refl _ _) (Nat.le_refl _) ?_; intro v581 w8 ho9 hb hg_ hnew_; clear hg_ hnew_; ((rw [← Ny580.out] at ho9)); have n0_ := Aside0.mk (Kd.R_lower ho9 (keep_size (w := w) (g := g) (row := none) HK.out)); have n1_ := Aside0.mk (IsS85.below HI0.out hb); have n2_ := Aside0.mk (KeepBut.trans HK.out (KeepBut.of_below hb g none) (.inl rfl)); have n3_ := Aside0.mk (below_step HB.out hb); clear HI0; clear HK; clear HB; have HO582 := n0_; have HI0 := n1_; have HK := n2_; have HB := n3_; clear n0_ n1_ n2_ n3_; clear hb ho9))
   go_loopg [22] k (fun kq v22 w' => ∃ (x9_1 : List Int) (x22_1 : Int) (x1000_1 : Int) (x1001_1 : Int) (x1003_1 : Int), v22 = .int .i64 x22_1 ∧ Aside0 (poly_combine.l0 kq a2 l3 x9_1 l1 (l1.length : Int) x22_1 x1000_1 x1001_1 s0_2 x1003_1 s0_4 s0_5 = some (r1, r2, r3, r4)) ∧ Aside0 (kq ≤ k) ∧ Aside0 (Kd.R (Kd.int .i64) 3 w' w.heap.size (fun _ => True) v581 x9_1) ∧ Aside0 (IsS85 w0 w' g x1000_1 x1001_1 s0_2 x1003_1 s0_4 s0_5) ∧ Aside0 (KeepBut w w' g none) ∧ Aside0 (Below w0.heap.size w0 w'))
   case atStart => exact ⟨(y580), (0), (s0_0), (s0_1), (s0_3), (by rfl), H', ⟨Nat.le_refl _⟩, ⟨HO582.out⟩, ⟨by exact HI0.out⟩, ⟨by exact HK.out⟩, ⟨by exact HB.out⟩⟩
   case round =>
    clear H' c6b0 c6b1 c7b0 c7b1
    obtain ⟨x9_1, x22_1, x1000_1, x1001_1, x1003_1, rfl, HA, HK1, HO_9, HI0, HK, HB⟩ := hrel
    cases gk with
    | zero => exact absurd HA.out (by simp [poly_combine.l0])
    | succ k1 =>
     have H := HA.out
     clear HA
     simp only [poly_combine.l0] at H
     by_cases c10 : x22_1 < (l1.length : Int)
     ·rw [if_pos c10] at H
      have c10b0 : decide (x22_1 < (l1.length : Int)) = true := decide_eq_true c10
      clear c10
      by_cases c11 : 0 ≤ x22_1
      ·rw [if_pos c11] at H
       have c11b0 : decide (0 ≤ x22_1) = true := decide_eq_true c11
       clear c11
       by_cases c12 : x22_1 < (l1.length : Int)
       ·rw [if_pos c12] at H
        have c12b0 : decide (x22_1 < (l1.length : Int)) = true := decide_eq_true c12
        clear c12
        replace H := Option.bind_eq_some_iff.mp H
        obtain ⟨⟨t584, t585, t586, t587⟩, A130, H⟩ := H
        replace H : (if x22_1 < (x9_1.length : Int) then (poly_combine.l0 k1 a2 l3 (x9_1.set (x22_1 : Int).toNat t584) l1 (l1.length : Int) (wrap64 (x22_1 + 1)) t585 t586 s0_2 t587 s0_4 s0_5) else (none)) = some (r1, r2, r3, r4) := H
        have A13 := Aside0.mk A130
        clear A130
        by_cases c14 : x22_1 < (x9_1.length : Int)
        ·rw [if_pos c14] at H
         have c14b0 : decide (x22_1 < (x9_1.length : Int)) = true := decide_eq_true c14
         clear c14
         obtain ⟨y588, hy588⟩ : ∃ y_ : List Int, y_ = (x9_1.set (x22_1 : Int).toNat t584) := ⟨_, rfl⟩
         replace H : (poly_combine.l0 k1 a2 l3 y588 l1 (l1.length : Int) (wrap64 (x22_1 + 1)) t585 t586 s0_2 t587 s0_4 s0_5) = some (r1, r2, r3, r4) := by (rw [hy588]; with_reducible exact H)
         have Ny588 := Aside0.mk hy588
         clear hy588
         have H' := Aside0.mk H
         clear H
         have p583 : 0 ≤ (x22_1 : Int) := of_decide_eq_true (by (with_reducible assumption))
         have q583 : x22_1 < (l1.length : Int) := of_decide_eq_true (by (with_reducible assumption))
         obtain ⟨ad583, e583, hx583_0⟩ := Kd.at_int HR1.out x22_1 p583 q583
         cases e583
         replace hx583_0 := keep_cell HK.out hx583_0 (by (rw [add_block]; exact hf1 _ rfl (by omega)))
         replace p583 := eq_true p583
         replace q583 := eq_true q583
         go_wp2_with (first | ((with_reducible refine gate_callee (f := 58) rfl ?_); refine goesL_ (some 31) rfl rfl Try.func58 (by kernel_rfl) rfl #[.pointer (some ⟨g, 0, none⟩), .int .i64 (rd l1 x22_1), .int .i64 0] rfl (by ((simp only [List.map_toArray, List.map_cons, List.map_nil])); (rfl)) ?_; (with_reducible refine (field_GF_Add.calls k1 g x1000_1 x1001_1 s0_2 x1003_1 s0_4 s0_5 (rd l1 x22_1) 0 t584 t585 t586 t587 w0 _ ?side1 ?side2 A13.out).mono ?_); (case side1 => repeat ((with_reducible (exact HI0.out)))); (case side2 => repeat ((with_reducible (exact HB.out)))); rintro e w16 ⟨rfl, hi, hb, hk⟩; refine ⟨_, rfl, ?_⟩; have n0_ := Aside0.mk (Kd.R_mono (Kd.R_keep (IsS85.apart (show IsS85 w0 _ g x1000_1 x1001_1 s0_2 x1003_1 s0_4 s0_5 from by exact HI0.out) HO_9.out (by decide)) hk (fun _ h => h.2)) (fun _ h => h.1)); have n1_ := Aside0.mk (KeepBut.trans HK.out hk (.inl rfl)); have n2_ := Aside0.mk (hb); have n3_ := Aside0.mk (hi); clear HO_9; clear HK; clear HB; clear HI0; have HO_9 := n0_; have HK := n1_; have HB := n2_; have HI0 := n3_; clear n0_ n1_ n2_ n3_; ((clear hb)); (skip); ((clear hk)); ((clear hi)); have p15 : 0 ≤ (x22_1 : Int) := of_decide_eq_true (by (with_reducible assumption)); have q15 : (x22_1 : Int) < ((x9_1.length : Int) : Int) := of_decide_eq_true (by (with_reducible assumption)); obtain ⟨go15, co15, eo15, gb15, gl15, cl15, HG15⟩ := Kd.R_form HO_9.out (by omega); ((cases eo15)); have GB15 := Aside0.mk gb15; have GG15 := Aside0.mk HG15; clear gb15 gl15 HG15; obtain ⟨hx15_0, hf15_0⟩ := Kd.R_celln 0 HO_9.out (x22_1 : Int) p15 q15; replace p15 := eq_true p15; replace q15 := eq_true q15; obtain ⟨hy17_, hz17_⟩ := Kd.R_celln 0 HO_9.out (x22_1 : Int) (of_decide_eq_true (by (with_reducible assumption))) (of_decide_eq_true (by (with_reducible assumption))); have HP17 := Kd.R_putg HO_9.out (x22_1 : Int) t584) | ((with_reducible refine gate_store (t := 3) (p := 32) rfl ?_); refine store_event (t := 3) (p := 32) (v := ?vo_w18) (w1 := (w16.setCell ⟨go15, (x22_1 : Int).toNat, none⟩ (.int .i64 t584))) ?hg ?ho ?hn ?hr ?_; (case ho => rfl); (case hg => rfl); (case hn => rfl); (case hr => (go_simp; done)); intro w18 hw; have hg : w16.grownBy w18 (some go15) := (by rw [hw]; exact HP17.2); have hp_ : Kd.R (Kd.int .i64) 3 w18 w.heap.size (fun _ => True) (.slice (some ⟨go15, 0, none⟩) x9_1.length co15) y588 := (by rw [hw, Ny588.out]; exact HP17.1); clear HP17; have n0_ := Aside0.mk (hp_); have n1_ := Aside0.mk (IsS85.grown HI0.out hg (IsS85.own_ne HI0.out HO_9.out (by decide))); have n2_ := Aside0.mk ((by rw [hw]; exact below_set (HB.out) (Nat.le_trans HL.out GB15.out) : Below w0.heap.size w0 w18)); have n3_ := Aside0.mk (KeepBut.trans HK.out (KeepBut.of_grown hg g) (Kd.R_base2 HO_9.out)); clear HO_9; clear HI0; clear HB; clear HK; have HO_9 := n0_; have HI0 := n1_; have HB := n2_; have HK := n3_; clear n0_ n1_ n2_ n3_; clear hg hw hp_))
         go_roundg k1
         case measure => have := HK1.out; omega
         case rel => exact ⟨(y588), (wrap64 (x22_1 + 1)), (t585), (t586), (t587), (by rfl), H', ⟨by have := HK1.out; omega⟩, ⟨HO_9.out⟩, ⟨by exact HI0.out⟩, ⟨by exact HK.out⟩, ⟨by exact HB.out⟩⟩
        ·rw [if_neg c14] at H
         exact absurd H (by simp)
       ·rw [if_neg c12] at H
        exact absurd H (by simp)
      ·rw [if_neg c11] at H
       exact absurd H (by simp)
     ·rw [if_neg c10] at H
      have c10b0 : decide (x22_1 < (l1.length : Int)) = false := decide_eq_false c10
      clear c10
      have H' := Aside0.mk H
      clear H
      go_wp2
      go_loopg [36] k1 (fun kq v36 w' => ∃ (x9_2 : List Int) (x36_2 : Int) (x1000_2 : Int) (x1001_2 : Int) (x1003_2 : Int), v36 = .int .i64 x36_2 ∧ Aside0 (poly_combine.l1 kq a2 x9_2 l3 (l3.length : Int) x36_2 x1000_2 x1001_2 s0_2 x1003_2 s0_4 s0_5 = some (r1, r2, r3, r4)) ∧ Aside0 (kq ≤ k1) ∧ Aside0 (Kd.R (Kd.int .i64) 3 w' w.heap.size (fun _ => True) v581 x9_2) ∧ Aside0 (IsS85 w0 w' g x1000_2 x1001_2 s0_2 x1003_2 s0_4 s0_5) ∧ Aside0 (KeepBut w w' g none) ∧ Aside0 (Below w0.heap.size w0 w'))
      case atStart => exact ⟨(x9_1), (0), (x1000_1), (x1001_1), (x1003_1), (by rfl), H', ⟨Nat.le_refl _⟩, ⟨HO_9.out⟩, ⟨by exact HI0.out⟩, ⟨by exact HK.out⟩, ⟨by exact HB.out⟩⟩
      case round =>
       clear H' c10b0
       obtain ⟨x9_2, x36_2, x1000_2, x1001_2, x1003_2, rfl, HA, HK2, HO_9, HI0, HK, HB⟩ := hrel
       cases gk with
       | zero => exact absurd HA.out (by simp [poly_combine.l1])
       | succ k2 =>
        have H := HA.out
        clear HA
        simp only [poly_combine.l1] at H
        by_cases c19 : x36_2 < (l3.length : Int)
        ·rw [if_pos c19] at H
         have c19b0 : decide (x36_2 < (l3.length : Int)) = true := decide_eq_true c19
         clear c19
         by_cases c20 : 0 ≤ x36_2
         ·rw [if_pos c20] at H
          have c20b0 : decide (0 ≤ x36_2) = true := decide_eq_true c20
          clear c20
          by_cases c21 : x36_2 < (l3.length : Int)
          ·rw [if_pos c21] at H
           have c21b0 : decide (x36_2 < (l3.length : Int)) = true := decide_eq_true c21
           clear c21
           by_cases c22 : x36_2 < (x9_2.length : Int)
           ·rw [if_pos c22] at H
            have c22b0 : decide (x36_2 < (x9_2.length : Int)) = true := decide_eq_true c22
            clear c22
            replace H := Option.bind_eq_some_iff.mp H
            obtain ⟨⟨t591, t592, t593, t594⟩, A230, H⟩ := H
            replace H : ((field_GF_Add.f k2 t592 t593 s0_2 t594 s0_4 s0_5 (rd x9_2 x36_2) t591).bind fun bt595 => (poly_combine.l1 k2 a2 (x9_2.set (x36_2 : Int).toNat bt595.1) l3 (l3.length : Int) (wrap64 (x36_2 + 1)) bt595.2.1 bt595.2.2.1 s0_2 bt595.2.2.2 s0_4 s0_5)) = some (r1, r2, r3, r4) := H
            have A23 := Aside0.mk A230
            clear A230
            replace H := Option.bind_eq_some_iff.mp H
            obtain ⟨⟨t595, t596, t597, t598⟩, A240, H⟩ := H
            replace H : (poly_combine.l1 k2 a2 (x9_2.set (x36_2 : Int).toNat t595) l3 (l3.length : Int) (wrap64 (x36_2 + 1)) t596 t597 s0_2 t598 s0_4 s0_5) = some (r1, r2, r3, r4) := H
            have A24 := Aside0.mk A240
            clear A240
            obtain ⟨y599, hy599⟩ : ∃ y_ : List Int, y_ = (x9_2.set (x36_2 : Int).toNat t595) := ⟨_, rfl⟩
            replace H : (poly_combine.l1 k2 a2 y599 l3 (l3.length : Int) (wrap64 (x36_2 + 1)) t596 t597 s0_2 t598 s0_4 s0_5) = some (r1, r2, r3, r4) := by (rw [hy599]; with_reducible exact H)
            have Ny599 := Aside0.mk hy599
            clear hy599
            have H' := Aside0.mk H
            clear H
            have p589 : 0 ≤ (x36_2 : Int) := of_decide_eq_true (by (with_reducible assumption))
            have q589 : x36_2 < (l3.length : Int) := of_decide_eq_true (by (with_reducible assumption))
            obtain ⟨ad589, e589, hx589_0⟩ := Kd.at_int HR3.out x36_2 p589 q589
            cases e589
            replace hx589_0 := keep_cell HK.out hx589_0 (by (rw [add_block]; exact hf3 _ rfl (by omega)))
            replace p589 := eq_true p589
            replace q589 := eq_true q589
            (go_wp2)
            have n0_ := Aside0.mk (Kd.R_drew HO_9.out)
            have n1_ := Aside0.mk (IsS85.drew HI0.out)
            have n2_ := Aside0.mk (keep_drew HK.out)
            have n3_ := Aside0.mk (below_drew1 HB.out)
            clear HO_9 HI0 HK HB
            have HO_9 := n0_
            have HI0 := n1_
            have HK := n2_
            have HB := n3_
            clear n0_ n1_ n2_ n3_
            obtain ⟨Ao27, co27, eo27⟩ := Kd.R_slice HO_9.out
            ((subst eo27))
            have p590 : 0 ≤ (x36_2 : Int) := of_decide_eq_true (by (with_reducible assumption))
            have q590 : x36_2 < (x9_2.length : Int) := of_decide_eq_true (by (with_reducible assumption))
            obtain ⟨ad590, e590, hx590_0⟩ := Kd.at_int (Kd.R_reads' HO_9.out).2.2 x36_2 p590 q590
            cases e590
            replace p590 := eq_true p590
            replace q590 := eq_true q590
            refine start_ (n := 14) (S := fun w' => w'.cell? (ad590.add (x36_2).toNat) = some (.int .i64 (rd x9_2 x36_2))) (ds := [13]) (bm 14 0) (by kernel_rfl) rfl rfl (hx590_0) (fun hHeld => ?_); refine with_tabW poly_combine.tab10 poly_combine.bits10 (fun HT_ HW_ => ?_)
            generalize wr.drew = w26 at HO_9 HI0 HK HB hx590_0 hHeld ⊢
            refine pure_ (i := 0) (N := some 41) (v := ?_) (a' := ?_) (bm 14 1) rfl rfl (any_of HT_.out (by kernel_rfl)) (fun _ _ _ h => h) (Or.inl ⟨by rfl, ?_⟩) ?_ ?_;rotate_left;(intro w';go_simp;with_reducible rfl);rotate_left;(simp only [ps_];rfl)
            refine pure_ (i := 1) (N := some 42) (v := ?_) (a' := ?_) (bm 14 3) rfl rfl (any_of HT_.out (by kernel_rfl)) (fun _ _ _ h => h) (Or.inl ⟨by rfl, ?_⟩) ?_ ?_;rotate_left;(intro w';go_simp;with_reducible rfl);rotate_left;(simp only [ps_];rfl)
            refine pure_ (i := 2) (N := some 43) (v := ?_) (a' := ?_) (bm 14 7) rfl rfl (any_of HT_.out (by kernel_rfl)) (fun _ _ _ h => h) (Or.inl ⟨by rfl, ?_⟩) ?_ ?_;rotate_left;(intro w';go_simp;with_reducible rfl);rotate_left;(simp only [ps_];rfl)
            refine pure_ (i := 3) (N := some 44) (v := ?_) (a' := ?_) (bm 14 15) rfl rfl (any_of HT_.out (by kernel_rfl)) (fun _ _ _ h => h) (Or.inl ⟨by rfl, ?_⟩) ?_ ?_;rotate_left;(intro w';go_simp;with_reducible rfl);rotate_left;(simp only [ps_];rfl)
            refine pure_ (i := 4) (N := some 45) (v := ?_) (a' := ?_) (bm 14 31) rfl rfl (any_of HT_.out (by kernel_rfl)) (fun _ _ _ h => h) (Or.inl ⟨by rfl, ?_⟩) ?_ ?_;rotate_left;(intro w';go_simp;with_reducible rfl);rotate_left;(simp only [ps_];rfl)
            refine pure_ (i := 5) (N := some 46) (v := ?_) (a' := ?_) (bm 14 63) rfl rfl (any_of HT_.out (by kernel_rfl)) (fun _ _ _ h => h) (Or.inl ⟨by rfl, ?_⟩) ?_ ?_;rotate_left;(intro w';go_simp;with_reducible rfl);rotate_left;(simp only [ps_];rfl)
            refine pure_ (i := 7) (N := some 48) (v := ?_) (a' := ?_) (bm 14 191) rfl rfl (any_of HT_.out (by kernel_rfl)) (fun _ _ _ h => h) (Or.inl ⟨by rfl, ?_⟩) ?_ ?_;rotate_left;(intro w';go_simp;with_reducible rfl);rotate_left;(simp only [ps_];rfl)
            refine pure_ (i := 8) (N := some 49) (v := ?_) (a' := ?_) (bm 14 447) rfl rfl (any_of HT_.out (by kernel_rfl)) (fun _ _ _ h => h) (Or.inl ⟨by rfl, ?_⟩) ?_ ?_;rotate_left;(intro w';go_simp;with_reducible rfl);rotate_left;(simp only [ps_];rfl)
            refine pure_ (i := 9) (N := some 50) (v := ?_) (a' := ?_) (bm 14 959) rfl rfl (any_of HT_.out (by kernel_rfl)) (fun _ _ _ h => h) (Or.inl ⟨by rfl, ?_⟩) ?_ ?_;rotate_left;(intro w';go_simp;with_reducible rfl);rotate_left;(simp only [ps_];rfl)
            refine take_ (i := 6) (N := some 47) (v := ?_) (a' := ?_) (bm 14 1023) rfl rfl (take_ofW HT_.out HW_.out (by kernel_rfl)) (fun _ _ _ h => h) (Or.inl ⟨by rfl, ?_⟩) hHeld ?_ ?_
            rotate_left
            ·intro w' s0
             go_simp
             with_reducible rfl
            rotate_left
            ·simp only [Act.put, List.setIfInBounds_toArray, List.set_cons_zero, List.set_cons_succ, i64_w, i32_w]
             rfl
            refine one_ (i := 10) (N := some 51) (bm 14 2047) rfl rfl (one_of HT_.out (by kernel_rfl)) (by decide) (fun K hK => ?_)
            refine goes_ Try.func49 (by kernel_rfl) rfl #[.pointer (some ⟨g, 0, none⟩), .int .i64 a2, .int .i64 (rd l3 x36_2)] (by rfl) rfl rfl (by ((simp only [List.map_toArray, List.map_cons, List.map_nil])); (rfl)) ?_
            with_reducible refine (field_GF_Mul.calls g x1000_2 x1001_2 s0_2 x1003_2 s0_4 s0_5 a2 (rd l3 x36_2) t591 t592 t593 t594 w0 _ ?side1 ?side2 A23.out).mono ?_
            (case side1 => repeat ((with_reducible (exact HI0.out))))
            (case side2 => repeat ((with_reducible (exact HB.out))))
            rintro e w28 ⟨rfl, hi, hb, hk⟩
            have HS0_ := keep_cell hk (hHeld) (by (rw [add_block]; exact Kd.own_blk (IsS85.own_ne HI0.out HO_9.out (by decide))))
            refine ⟨_, rfl, ?_⟩
            have n0_ := Aside0.mk (Kd.R_mono (Kd.R_keep (IsS85.apart (show IsS85 w0 _ g x1000_2 x1001_2 s0_2 x1003_2 s0_4 s0_5 from by exact HI0.out) HO_9.out (by decide)) hk (fun _ h => h.2)) (fun _ h => h.1))
            have n1_ := Aside0.mk (KeepBut.trans HK.out hk (.inl rfl))
            have n2_ := Aside0.mk (hb)
            have n3_ := Aside0.mk (hi)
            clear HO_9 HK HB HI0
            have HO_9 := n0_
            have HK := n1_
            have HB := n2_
            have HI0 := n3_
            clear n0_ n1_ n2_ n3_
            ((clear hb))
            ((clear hk))
            ((clear hi))
            refine hK.out _ _ (HS0_) (fun hHeld => ?_)
            clear hK K
            refine norm_ (a' := ?_) ?_ ?_
            rotate_left
            ·show Act.put _ (some 51) _ = _
             simp only [Act.put, List.setIfInBounds_toArray, List.set_cons_zero, List.set_cons_succ, i64_w, i32_w]
             rfl
            refine one_ (i := 11) (N := some 52) (bm 14 4095) rfl rfl (one_of HT_.out (by kernel_rfl)) (by decide) (fun K hK => ?_)
            refine goes_ Try.func58 (by kernel_rfl) rfl #[.pointer (some ⟨g, 0, none⟩), .int .i64 (rd x9_2 x36_2), .int .i64 t591] (by rfl) rfl rfl (by ((simp only [List.map_toArray, List.map_cons, List.map_nil])); (rfl)) ?_
            with_reducible refine (field_GF_Add.calls k2 g t592 t593 s0_2 t594 s0_4 s0_5 (rd x9_2 x36_2) t591 t595 t596 t597 t598 w0 _ ?side1 ?side2 A24.out).mono ?_
            (case side1 => repeat ((with_reducible (exact HI0.out))))
            (case side2 => repeat ((with_reducible (exact HB.out))))
            rintro e w29 ⟨rfl, hi, hb, hk⟩
            have HS0_ := keep_cell hk (hHeld) (by (rw [add_block]; exact Kd.own_blk (IsS85.own_ne HI0.out HO_9.out (by decide))))
            refine ⟨_, rfl, ?_⟩
            have n0_ := Aside0.mk (Kd.R_mono (Kd.R_keep (IsS85.apart (show IsS85 w0 _ g t592 t593 s0_2 t594 s0_4 s0_5 from by exact HI0.out) HO_9.out (by decide)) hk (fun _ h => h.2)) (fun _ h => h.1))
            have n1_ := Aside0.mk (KeepBut.trans HK.out hk (.inl rfl))
            have n2_ := Aside0.mk (hb)
            have n3_ := Aside0.mk (hi)
            clear HO_9 HK HB HI0
            have HO_9 := n0_
            have HK := n1_
            have HB := n2_
            have HI0 := n3_
            clear n0_ n1_ n2_ n3_
            ((clear hb))
            ((clear hk))
            ((clear hi))
            have p25 : 0 ≤ (x36_2 : Int) := of_decide_eq_true (by (with_reducible assumption))
            have q25 : (x36_2 : Int) < ((x9_2.length : Int) : Int) := of_decide_eq_true (by (with_reducible assumption))
            obtain ⟨go25, co25, eo25, gb25, gl25, cl25, HG25⟩ := Kd.R_form HO_9.out (by omega)
            ((cases eo25))
            have GB25 := Aside0.mk gb25
            have GG25 := Aside0.mk HG25
            clear gb25 gl25 HG25
            ((simp only [add_plain] at hx590_0))
            obtain ⟨hx25_0, hf25_0⟩ := Kd.R_celln 0 HO_9.out (x36_2 : Int) p25 q25
            replace p25 := eq_true p25
            replace q25 := eq_true q25
            have HN0_go25 := Aside0.mk (show g ≠ go25 from by have h_ := IsS85.own_ne HI0.out HO_9.out (by decide); intro e_; exact h_ (by rw [e_]; rfl))
            have HP30 := Kd.R_putn HO_9.out (x36_2 : Int) t595
            rw [← Ny599.out] at HP30
            have HQ30 := Aside0.mk HP30
            clear HP30
            refine hK.out _ _ (HS0_) (fun hHeld => ?_)
            clear hK K
            refine norm_ (a' := ?_) ?_ ?_
            rotate_left
            ·show Act.put _ (some 52) _ = _
             simp only [Act.put, List.setIfInBounds_toArray, List.set_cons_zero, List.set_cons_succ, i64_w, i32_w]
             rfl
            refine pure_ (i := 12) (N := some 53) (v := ?_) (a' := ?_) (bm 14 8191) rfl rfl (any_of HT_.out (by kernel_rfl)) (fun _ _ _ h => h) (Or.inl ⟨by rfl, ?_⟩) ?_ ?_;rotate_left;(intro w';go_simp;with_reducible rfl);rotate_left;(simp only [ps_];rfl)
            refine last_ (i := 13) (N := none) (bm 14 16383) rfl rfl (one_of HT_.out (by kernel_rfl)) (by decide) (fun K hK => ?_)
            refine skip_ (w1 := ?_) (by rfl) rfl ?_ ?_
            rotate_left
            ·go_simp
             rfl
            refine hK.out _ _ ?_
            clear hK K
            refine done_ (done_of HT_.out (by kernel_rfl)) ?_
            (go_wp2)
            go_roundg k2
            case measure => have := HK1.out; have := HK2.out; omega
            case rel => exact ⟨(y599), (wrap64 (x36_2 + 1)), (t596), (t597), (t598), (by rfl), H', ⟨by have := HK1.out; have := HK2.out; omega⟩, ⟨HQ30.out⟩, ⟨by repeat ((with_reducible first | (exact HI0.out) | (refine IsS85.far ?_ HN0_go25.out _)))⟩, ⟨by repeat ((with_reducible first | (exact HK.out) | (refine keep_far ?_ GB25.out _)))⟩, ⟨by repeat ((with_reducible first | (exact HB.out) | (refine below_set ?_ (Nat.le_trans HL.out GB25.out))))⟩⟩
           ·rw [if_neg c22] at H
            exact absurd H (by simp)
          ·rw [if_neg c21] at H
           exact absurd H (by simp)
         ·rw [if_neg c20] at H
          exact absurd H (by simp)
        ·rw [if_neg c19] at H
         have c19b0 : decide (x36_2 < (l3.length : Int)) = false := decide_eq_false c19
         clear c19
         obtain ⟨t600, A310, H⟩ := Option.bind_eq_some_iff.mp H
         replace H : (some (t600, x1000_2, x1001_2, x1003_2)) = some (r1, r2, r3, r4) := H
         have A31 := Aside0.mk A310
         clear A310
         simp only [Option.some.injEq, Prod.mk.injEq] at H
         obtain ⟨rfl, rfl, rfl, rfl⟩ := H
         obtain ⟨Ao32, co32, eo32⟩ := Kd.R_slice HO_9.out
         subst eo32
         go_wp2_with (((with_reducible refine gate_callee (f := 50) rfl ?_); refine goesL_ (some 56) rfl rfl Try.func50 (by kernel_rfl) rfl #[.slice Ao32 x9_2.length co32] rfl (by ((simp only [List.map_toArray, List.map_cons, List.map_nil])); (rfl)) ?_; (with_reducible refine (poly_trim.calls k2 (fun k_ => some k_ = (.slice Ao32 x9_2.length co32 : Value).ownBlock) (.slice Ao32 x9_2.length co32) x9_2 t600 w0 _ ?side1 ?side2 A31.out).mono ?_); (case side1 => repeat ((with_reducible (exact HB.out)))); (case side2 => exact Kd.R_lower (Kd.R_tight rfl HO_9.out) HL.out); rintro e w33 ⟨v601, rfl, ho0, hb, hkp⟩; refine ⟨_, rfl, ?_⟩; have n0_ := Aside0.mk (IsS85.kept HI0.out hkp (fun hs_ => (fun e_ => (IsS85.own_ne HI0.out HO_9.out (by decide)) e_) hs_)); have n1_ := Aside0.mk (Kd.R_mono (ok' := fun k_ => True) (Kd.R_raise (d := (Kd.int .i64)) (b := w0.heap.size) (b' := w.heap.size) (fun _ _ _ _ h_ => h_) ho0 (fun k_ e_ => Or.elim (ho0.1 k_ e_) (fun hs_ => (fun e_ => Kd.R_base HO_9.out k_ e_.symm) hs_) (fun hn_ => Nat.le_trans (keep_size (w := w) (g := g) (row := none) HK.out) hn_))) (fun k_ hk_ => trivial)); have n2_ := Aside0.mk (Kept.keepG HK.out hkp (fun k_ hs_ => (fun e_ => .inr (Kd.R_base HO_9.out k_ e_.symm)) hs_)); have n3_ := Aside0.mk (hb); clear HI0; clear HK; clear HB; clear HO_9; have HI0 := n0_; have HO602 := n1_; have HK := n2_; have HB := n3_; clear n0_ n1_ n2_ n3_; ((clear hb)); ((clear hkp)); ((clear ho0))))
         go_ret
         exact ⟨_, by rfl, by exact HO602.out, by exact HI0.out, by exact HB.out, by exact HK.out⟩
  ·rw [if_neg c7] at H
   exact absurd H (by simp)
 ·rw [if_neg c6] at H
  exact absurd H (by simp)
def poly_Add.f (k : Nat) (s0_0 : Int) (s0_1 : Int) (s0_2 : List Int) (s0_3 : Int) (s0_4 : List Int) (s0_5 : List Int) (l1 : List Int) (l2 : List Int) : Option (List Int × Int × Int × Int) := (poly_combine.f k s0_0 s0_1 s0_2 s0_3 s0_4 s0_5 l1 1 l2).bind fun bt603 => (some (bt603.1, bt603.2.1, bt603.2.2.1, bt603.2.2.2))
set_option maxHeartbeats 8000000 in
set_option maxRecDepth 100000 in
theorem poly_Add.calls (k : Nat) (g : Nat) (s0_0 : Int) (s0_1 : Int) (s0_2 : List Int) (s0_3 : Int) (s0_4 : List Int) (s0_5 : List Int) (A1 : Option Addr) (c1 : Nat) (l1 : List Int) (A2 : Option Addr) (c2 : Nat) (l2 : List Int) (r1 : List Int) (r2 : Int) (r3 : Int) (r4 : Int) (w0 w : World) (hI : IsS85 w0 w g s0_0 s0_1 s0_2 s0_3 s0_4 s0_5) (hB : Below w0.heap.size w0 w) (hr1 : Kd.C (Kd.int .i64) w A1 l1.length l1) (hc1 : l1.length ≤ c1) (hf1 : ∀ ad, A1 = some ad → 0 < l1.length → ad.block ≠ g) (hr2 : Kd.C (Kd.int .i64) w A2 l2.length l2) (hc2 : l2.length ≤ c2) (hf2 : ∀ ad, A2 = some ad → 0 < l2.length → ad.block ≠ g) (h : poly_Add.f k s0_0 s0_1 s0_2 s0_3 s0_4 s0_5 l1 l2 = some (r1, r2, r3, r4)) :
  Calls Try.prog 26 #[.pointer (some ⟨g, 0, none⟩), .slice A1 l1.length c1, .slice A2 l2.length c2] w fun e w' => ∃ v0_ : Value, e = .returned (v0_) ∧ Kd.R (Kd.int .i64) 3 w' w.heap.size (fun _ => True) v0_ r1 ∧ IsS85 w0 w' g r2 r3 s0_2 r4 s0_4 s0_5 ∧ Below w0.heap.size w0 w' ∧ KeepBut w w' g none := by
 have HR1 := Aside0.mk hr1
 have HC1 := Aside0.mk hc1
 clear hr1 hc1
 have HR2 := Aside0.mk hr2
 have HC2 := Aside0.mk hc2
 clear hr2 hc2
 have HI0 := Aside0.mk hI
 have HK := Aside0.mk (KeepBut.refl w g none)
 have HL := Aside0.mk hB.size
 clear hI
 have HW0 := Aside0.mk hB.size
 have HB := Aside0.mk hB
 clear hB
 have H : ((poly_combine.f k s0_0 s0_1 s0_2 s0_3 s0_4 s0_5 l1 1 l2).bind fun bt603 => (some (bt603.1, bt603.2.1, bt603.2.2.1, bt603.2.2.2))) = some (r1, r2, r3, r4) := h
 clear h
 replace H := Option.bind_eq_some_iff.mp H
 obtain ⟨⟨t603, t606, t607, t608⟩, A40, H⟩ := H
 replace H : (some (t603, t606, t607, t608)) = some (r1, r2, r3, r4) := H
 have A4 := Aside0.mk A40
 clear A40
 simp only [Option.some.injEq, Prod.mk.injEq] at H
 obtain ⟨rfl, rfl, rfl, rfl⟩ := H
 go_enter Try.func26, Try.ntmps26
 go_wp2_with (((with_reducible refine gate_callee (f := 52) rfl ?_); refine goesL_ (some 10) rfl rfl Try.func52 (by kernel_rfl) rfl #[.pointer (some ⟨g, 0, none⟩), .slice A1 l1.length c1, .int .i64 1, .slice A2 l2.length c2] rfl (by ((simp only [List.map_toArray, List.map_cons, List.map_nil])); (rfl)) ?_; (with_reducible refine (poly_combine.calls k g s0_0 s0_1 s0_2 s0_3 s0_4 s0_5 _ _ l1 1 _ _ l2 t603 t606 t607 t608 w0 _ ?side1 ?side2 ?side3 ?side4 ?side5 ?side6 ?side7 ?side8 A4.out).mono ?_); (case side1 => repeat ((with_reducible (exact HI0.out)))); (case side2 => repeat ((with_reducible (exact HB.out)))); (case side3 => exact Kd.C_keep 0 HR1.out HK.out hf1); (case side4 => exact HC1.out); (case side5 => exact hf1); (case side6 => exact Kd.C_keep 0 HR2.out HK.out hf2); (case side7 => exact HC2.out); (case side8 => exact hf2); rintro e w5 ⟨v604, rfl, ho0, hi, hb, hk⟩; refine ⟨_, rfl, ?_⟩; have n0_ := Aside0.mk (Kd.R_lower ho0 (keep_size (w := w) (g := g) (row := none) HK.out)); have n1_ := Aside0.mk (KeepBut.trans HK.out hk (.inl rfl)); have n2_ := Aside0.mk (hb); have n3_ := Aside0.mk (hi); clear HK; clear HB; clear HI0; have HO605 := n0_; have HK := n1_; have HB := n2_; have HI0 := n3_; clear n0_ n1_ n2_ n3_; ((clear hb)); (skip); ((clear hk)); ((clear hi)); ((clear ho0))))
 go_ret
 exact ⟨_, by rfl, by exact HO605.out, by exact HI0.out, by exact HB.out, by exact HK.out⟩
end Go.Proofs.Ytiejggpmjapajaa.PA
end
section
namespace Go.Proofs.Ytiejggpmjapajaa.PA
open Go.RowKit Go.Proofs.YtiejggpmjapajaaW.PrintWords Go.Proofs.YtiejggpmjapajaaW.PrintLast Go.Proofs.YtiejggpmjapajaaW.PrintMore
attribute [local go_sem] max2_int min2_int max_two min_two max_three min_three max_four min_four
set_option linter.unusedVariables false
set_option linter.unusedSimpArgs false
end Go.Proofs.Ytiejggpmjapajaa.PA
end
section
namespace Go.Proofs.Ytiejggpmjapajaa.PA
open Go.RowKit Go.Proofs.YtiejggpmjapajaaW.PrintWords Go.Proofs.YtiejggpmjapajaaW.PrintLast Go.Proofs.YtiejggpmjapajaaW.PrintMore
set_option linter.unusedVariables false
theorem step_append_fresh {P : Program} {ops : Array Oper} {o : Oper} {a : Act} {w : World} {K : Act → World → Prop} {Q : Exit → Act → World → Prop}
    (hgd : o.guard = none) (s x : Operand) (t e : TypeId) (ho : o.op = Op.call { callee := Callee.builtin Builtin.append, args := #[s, x], argTypes := #[t, t] })
    (ht : P.underlying t = some (.slice e)) (hinfo : (P.info? e).map (fun i => (i.zero, i.size, i.bytes)) = some (some (.int .i64 0), 1, 8))
    (g : Nat) (A : Option Addr) (c : Nat) (md : List Int) (hs : a.eval s = .slice (some ⟨g, 0, none⟩) 0 0) (hx : a.eval x = .slice A md.length c)
    (hg : w.heap[g]? = some (.cells #[] e (0, 0))) (HC : Kd.C (Kd.int .i64) w A md.length md) (hl : md.length ≤ 8)
    (h : ∀ A1 c1 w1, Aside0 (Kd.C (Kd.int .i64) w1 A1 md.length md ∧ md.length ≤ c1 ∧ g < w.heap.size ∧ w.grownBy w1 (some g) ∧ ∀ ad, A1 = some ad → ad.block = g ∨ w.heap.size ≤ ad.block) → K (a.put o.dst (.slice A1 md.length c1)) w1) :
    if Region.wanted o (yielded ops a.tmps) = true then Oper.wp P o a w K Q else K (a.put o.dst undef) w := by
  have hw : Region.wanted o (yielded ops a.tmps) = true := by simp [Region.wanted, hgd]
  have hR : Kd.R (Kd.int .i64) e w 0 (fun _ => True) (.slice (some ⟨g, 0, none⟩) 0 0) [] := by
    refine Kd.R_of_own ⟨rfl, .inr ⟨g, 0, #[], rfl, Nat.zero_le _, hg, Nat.le_refl _, by decide, rfl, rfl⟩⟩ (fun _ _ => trivial)
  refine Kd.R_append_rows_step (Kd.int .i64) (w0 := w) 0 hw s x t e (.int .i64 0) 8 ho ht hinfo rfl (by decide) (by decide) (.slice (some ⟨g, 0, none⟩) 0 0) [] md A md.length c (fun _ => True) (fun _ => False) hs hx hR HC (fun x cs hk => hk) (fun _ hk => hk.elim) (fun _ _ => trivial) (Below.refl _ _) (Nat.zero_le _) ?_ ?_
  · simp only [List.length_nil]; omega
  · intro v1 w1 h1 _ hgr hat
    obtain ⟨A1, c1, rfl, hc, hC⟩ := Kd.R_reads h1
    refine h A1 c1 w1 ⟨hC, hc, blk_lt hg, hgr, ?_⟩
    rintro ad rfl
    rcases hat with hat | ⟨b, hb, hl⟩
    · exact .inl (by simpa [Value.ownBlock] using hat)
    · exact .inr (by have hb' : ad.block = b := (by simpa [Value.ownBlock] using hb); omega)
theorem grown_below {w0 W w1 : World} {g : Nat} (h : Below w0.heap.size w0 W) (hg : w0.heap.size ≤ g) (HG : g ≤ W.heap.size) (k : W.grownBy w1 (some g)) : Below w0.heap.size w0 w1 :=
  below_weaken h hg ⟨k.os, k.tape, k.output, k.size, fun j hj => k.block j (Nat.lt_of_lt_of_le hj HG) (fun e => by injection e with e; omega)⟩
theorem blk_new1 (w : World) (a b : Obj) : ((w.alloc a).alloc b).heap[w.heap.size + 1]? = some b := by
  have h := blk_new (w.alloc a) b
  have e : (w.alloc a).heap.size = w.heap.size + 1 := by unfold World.alloc; exact Array.size_push _
  rwa [e] at h
end Go.Proofs.Ytiejggpmjapajaa.PA
end
section
namespace Go.Proofs.Ytiejggpmjapajaa.PA
open Go.RowKit Go.Proofs.YtiejggpmjapajaaW.PrintWords Go.Proofs.YtiejggpmjapajaaW.PrintLast Go.Proofs.YtiejggpmjapajaaW.PrintMore
attribute [local go_sem] max2_int min2_int max_two min_two max_three min_three max_four min_four
set_option linter.unusedVariables false
set_option linter.unusedSimpArgs false
def field_GF_Field.f (s0_0 : Int) (s0_1 : Int) (s0_2 : List Int) (s0_3 : Int) (s0_4 : List Int) (s0_5 : List Int) : Option (Int × Int × List Int × Int × Int × Int) := if s0_2.length ≤ 8 then some (s0_0, s0_1, s0_2, s0_0, s0_1, s0_3) else none
theorem keep7_of {B T C T2 : Nat} {x0 x1 x2 x3 x4 x5 : Value} {w0 W : World} (bk : w0.heap[B]? = some (.cells #[x0, x1, x2, x3, x4, x5] T (0, 0))) (h : Below w0.heap.size w0 W) (hx : ∃ y0 y1 y2, W.heap[C]? = some (.cells #[y0, y1, y2] T2 (0, 0))) :
  W.cell? ⟨B, 0, none⟩ = some x0 ∧ W.cell? ⟨B, 1, none⟩ = some x1 ∧ W.cell? ⟨B, 2, none⟩ = some x2 ∧ Aside0 (Below w0.heap.size w0 W) ∧ Aside0 (∃ y0 y1 y2, W.heap[C]? = some (.cells #[y0, y1, y2] T2 (0, 0))) :=
 ⟨(blk_cell (blk_below bk h) 0).trans rfl, (blk_cell (blk_below bk h) 1).trans rfl, (blk_cell (blk_below bk h) 2).trans rfl, ⟨h⟩, ⟨hx⟩⟩
theorem keep7_alloc {B T C T2 : Nat} {x0 x1 x2 x3 x4 x5 : Value} {w0 W : World} (bk : w0.heap[B]? = some (.cells #[x0, x1, x2, x3, x4, x5] T (0, 0)))
  (h : W.cell? ⟨B, 0, none⟩ = some x0 ∧ W.cell? ⟨B, 1, none⟩ = some x1 ∧ W.cell? ⟨B, 2, none⟩ = some x2 ∧ Aside0 (Below w0.heap.size w0 W) ∧ Aside0 (∃ y0 y1 y2, W.heap[C]? = some (.cells #[y0, y1, y2] T2 (0, 0)))) (o : Obj) :
  (W.alloc o).cell? ⟨B, 0, none⟩ = some x0 ∧ (W.alloc o).cell? ⟨B, 1, none⟩ = some x1 ∧ (W.alloc o).cell? ⟨B, 2, none⟩ = some x2 ∧ Aside0 (Below w0.heap.size w0 (W.alloc o)) ∧ Aside0 (∃ y0 y1 y2, (W.alloc o).heap[C]? = some (.cells #[y0, y1, y2] T2 (0, 0))) :=
 keep7_of bk (below_alloc h.2.2.2.1.out o) (by obtain ⟨y0, y1, y2, e⟩ := h.2.2.2.2.out; exact ⟨y0, y1, y2, blk_alloc e o⟩)
theorem keep7_grown {B T C T2 : Nat} {x0 x1 x2 x3 x4 x5 : Value} {w0 W w1 : World} {g : Nat} (bk : w0.heap[B]? = some (.cells #[x0, x1, x2, x3, x4, x5] T (0, 0)))
  (h : W.cell? ⟨B, 0, none⟩ = some x0 ∧ W.cell? ⟨B, 1, none⟩ = some x1 ∧ W.cell? ⟨B, 2, none⟩ = some x2 ∧ Aside0 (Below w0.heap.size w0 W) ∧ Aside0 (∃ y0 y1 y2, W.heap[C]? = some (.cells #[y0, y1, y2] T2 (0, 0)))) {p : Prop} (k : Aside0 (p ∧ g < W.heap.size ∧ g ≠ C ∧ W.grownBy w1 (some g))) (hg : w0.heap.size ≤ g) :
  w1.cell? ⟨B, 0, none⟩ = some x0 ∧ w1.cell? ⟨B, 1, none⟩ = some x1 ∧ w1.cell? ⟨B, 2, none⟩ = some x2 ∧ Aside0 (Below w0.heap.size w0 w1) ∧ Aside0 (∃ y0 y1 y2, w1.heap[C]? = some (.cells #[y0, y1, y2] T2 (0, 0))) :=
 keep7_of bk (grown_below h.2.2.2.1.out hg (Nat.le_of_lt k.out.2.1) k.out.2.2.2) (by obtain ⟨y0, y1, y2, e⟩ := h.2.2.2.2.out; exact ⟨y0, y1, y2, (k.out.2.2.2.block C (blk_lt e) (fun e1 => by injection e1 with e1; exact k.out.2.2.1 e1.symm)).trans e⟩)
theorem keep7_set {B T C T2 : Nat} {x0 x1 x2 x3 x4 x5 : Value} {w0 W : World} (bk : w0.heap[B]? = some (.cells #[x0, x1, x2, x3, x4, x5] T (0, 0)))
  (h : W.cell? ⟨B, 0, none⟩ = some x0 ∧ W.cell? ⟨B, 1, none⟩ = some x1 ∧ W.cell? ⟨B, 2, none⟩ = some x2 ∧ Aside0 (Below w0.heap.size w0 W) ∧ Aside0 (∃ y0 y1 y2, W.heap[C]? = some (.cells #[y0, y1, y2] T2 (0, 0)))) (hg : w0.heap.size ≤ C) (v0 v1 v2 : Value) :
  (((W.setCell ⟨C, 0, none⟩ v0).setCell ⟨C, 1, none⟩ v1).setCell ⟨C, 2, none⟩ v2).cell? ⟨B, 0, none⟩ = some x0 ∧ (((W.setCell ⟨C, 0, none⟩ v0).setCell ⟨C, 1, none⟩ v1).setCell ⟨C, 2, none⟩ v2).cell? ⟨B, 1, none⟩ = some x1 ∧ (((W.setCell ⟨C, 0, none⟩ v0).setCell ⟨C, 1, none⟩ v1).setCell ⟨C, 2, none⟩ v2).cell? ⟨B, 2, none⟩ = some x2 ∧
   Aside0 (Below w0.heap.size w0 (((W.setCell ⟨C, 0, none⟩ v0).setCell ⟨C, 1, none⟩ v1).setCell ⟨C, 2, none⟩ v2)) ∧ Aside0 (∃ y0 y1 y2, (((W.setCell ⟨C, 0, none⟩ v0).setCell ⟨C, 1, none⟩ v1).setCell ⟨C, 2, none⟩ v2).heap[C]? = some (.cells #[y0, y1, y2] T2 (0, 0))) :=
 keep7_of bk (((h.2.2.2.1.out.setCell hg _).setCell hg _).setCell hg _) (by
  obtain ⟨y0, y1, y2, e⟩ := h.2.2.2.2.out
  exact ⟨v0, v1, v2, blk_set (blk_set (blk_set e 0 v0) 1 v1) 2 v2⟩)
theorem keep7_below {a b c d : Prop} {w0 W : World} (h : a ∧ b ∧ c ∧ Aside0 (Below w0.heap.size w0 W) ∧ d) : Below w0.heap.size w0 W := h.2.2.2.1.out
theorem keep7_box {a b c d : Prop} {C T2 : Nat} {W : World} (h : a ∧ b ∧ c ∧ d ∧ Aside0 (∃ y0 y1 y2, W.heap[C]? = some (.cells #[y0, y1, y2] T2 (0, 0)))) : ∃ y0 y1 y2, W.heap[C]? = some (.cells #[y0, y1, y2] T2 (0, 0)) := h.2.2.2.2.out
theorem keep7_lt {a b c d : Prop} {C T2 : Nat} {W : World} (h : a ∧ b ∧ c ∧ d ∧ Aside0 (∃ y0 y1 y2, W.heap[C]? = some (.cells #[y0, y1, y2] T2 (0, 0)))) : C < W.heap.size := by
 obtain ⟨y0, y1, y2, e⟩ := h.2.2.2.2.out
 exact blk_lt e
theorem step_append_own {P : Program} {ops : Array Oper} {o : Oper} {a : Act} {w : World} {K : Act → World → Prop} {Q : Exit → Act → World → Prop}
  (hgd : o.guard = none) (s x : Operand) (t e : TypeId) (ho : o.op = Op.call { callee := Callee.builtin Builtin.append, args := #[s, x], argTypes := #[t, t] })
  (ht : P.underlying t = some (.slice e)) (hinfo : (P.info? e).map (fun i => (i.zero, i.size, i.bytes)) = some (some (.int .i64 0), 1, 8))
  (g base B : Nat) (A : Option Addr) (c : Nat) (md : List Int) (hs : a.eval s = .slice (some ⟨g, 0, none⟩) 0 0) (hx : a.eval x = .slice A md.length c)
  (hg : w.heap[g]? = some (.cells #[] e (0, 0))) (hgB : base ≤ g ∧ g ≠ B ∧ B < w.heap.size) (HC : Kd.C (Kd.int .i64) w A md.length md) (hl : md.length ≤ 8)
  (h : ∀ A1 c1 w1, Aside0 (Kd.R (Kd.int .i64) e w1 base (fun k => k ≠ B) (.slice A1 md.length c1) md ∧ g < w.heap.size ∧ g ≠ B ∧ w.grownBy w1 (some g)) → K (a.put o.dst (.slice A1 md.length c1)) w1) :
  if Region.wanted o (yielded ops a.tmps) = true then Oper.wp P o a w K Q else K (a.put o.dst undef) w := by
 have hw : Region.wanted o (yielded ops a.tmps) = true := by simp [Region.wanted, hgd]
 have hR : Kd.R (Kd.int .i64) e w base (fun k => k ≠ B) (.slice (some ⟨g, 0, none⟩) 0 0) [] := by
  refine Kd.R_of_own ⟨rfl, .inr ⟨g, 0, #[], rfl, hgB.1, hg, Nat.le_refl _, by decide, rfl, rfl⟩⟩ (fun k hk => ?_)
  have : g = k := by simpa [Value.ownBlock] using hk
  rw [← this]
  exact hgB.2.1
 refine Kd.R_append_rows_step (Kd.int .i64) (w0 := w) base hw s x t e (.int .i64 0) 8 ho ht hinfo rfl (by decide) (by decide) (.slice (some ⟨g, 0, none⟩) 0 0) [] md A md.length c (fun k => k ≠ B) (fun _ => False) hs hx hR HC (fun x cs hk => hk) (fun _ hk => hk.elim) (fun k hk => by have := hgB.2.2; omega) (Below.refl _ _) (by have := blk_lt hg; omega) ?_ ?_
 ·simp only [List.length_nil]; omega
 ·intro v1 w1 h1 _ hgr hat
  obtain ⟨A1, c1, rfl, hc, hC⟩ := Kd.R_reads h1
  exact h A1 c1 w1 ⟨h1, blk_lt hg, hgB.2.1, hgr⟩
set_option maxHeartbeats 8000000 in
set_option maxRecDepth 100000 in
theorem field_GF_Field.calls (g : Nat) (s0_0 : Int) (s0_1 : Int) (s0_2 : List Int) (s0_3 : Int) (s0_4 : List Int) (s0_5 : List Int) (r1 : Int) (r2 : Int) (r3 : List Int) (r4 : Int) (r5 : Int) (r6 : Int) (w0 w : World) (hI : IsS85 w0 w g s0_0 s0_1 s0_2 s0_3 s0_4 s0_5) (hB : Below w0.heap.size w0 w) (h : field_GF_Field.f s0_0 s0_1 s0_2 s0_3 s0_4 s0_5 = some (r1, r2, r3, r4, r5, r6)) :
  Calls Try.prog 48 #[.pointer (some ⟨g, 0, none⟩)] w fun e w' => ∃ v0_ : Value, e = .returned (.agg #[.int .i64 r1, .int .i64 r2, v0_]) ∧ Kd.R (Kd.int .i64) 3 w' w.heap.size (fun _ => True) v0_ r3 ∧ IsS85 w0 w' g r4 r5 s0_2 r6 s0_4 s0_5 ∧ Below w0.heap.size w0 w' ∧ KeepBut w w' g none := by
 unfold field_GF_Field.f at h
 by_cases hl : s0_2.length ≤ 8
 rotate_left
 ·rw [if_neg hl] at h
  exact absurd h (by simp)
 rw [if_pos hl] at h
 injection h with h
 injection h with e1 h
 injection h with e2 h
 injection h with e3 h
 injection h with e4 h
 injection h with e5 e6
 subst e1 e2 e3 e4 e5 e6
 have HI := Aside0.mk hI
 obtain ⟨A2, c2, A4, c4, A5, c5, hg, hge, hr2, hr4, hr5, hrest⟩ := hI
 have HG := Aside0.mk hg
 have HC := Aside0.mk (Kd.C_below hr2 hB)
 have HB := Aside0.mk hB
 have HL := Aside0.mk hl
 clear hg hge hr2 hr4 hr5 hrest hB hl
 go_enter Try.func48, Try.ntmps48
 go_wp2
 go_region_held_law (fun W => W.cell? ⟨g, 0, none⟩ = some (.int .i64 s0_0) ∧ W.cell? ⟨g, 1, none⟩ = some (.int .i64 s0_1) ∧ W.cell? ⟨g, 2, none⟩ = some (.slice A2 s0_2.length c2) ∧ Aside0 (Below w.heap.size w W) ∧ Aside0 (∃ y0 y1 y2, W.heap[w.heap.size]? = some (.cells #[y0, y1, y2] 24 (0, 0))))
  (first | (exact keep7_of HG.out (below_drew (below_alloc (Below.refl _ _) _)) ⟨_, _, _, blk_drew (blk_new _ _)⟩) | (exact keep7_alloc HG.out (by assumption) _) | (exact keep7_set HG.out (by assumption) (Nat.le_refl _) _ _ _) | (exact keep7_grown HG.out (by assumption) (by assumption) (Nat.le_succ _)))
  ((refine step_append_own rfl (.tmp 13) (.tmp 18) 22 3 rfl Try.underlying22 rfl _ w.heap.size w.heap.size A2 c2 s0_2 rfl rfl (by (exact blk_new1 _ _ _)) ⟨Nat.le_succ _, Nat.succ_ne_self _, keep7_lt (by assumption)⟩ (Kd.C_below HC.out (keep7_below (by assumption))) HL.out ?_; (intro A1 c1 w5 HA); (have HX := keep7_grown HG.out (by assumption) HA (Nat.le_succ _)); (obtain ⟨y0, y1, y2, hbox⟩ := keep7_box HX); (have d0 := (blk_cell hbox 0).trans rfl); (have d1 := (blk_cell hbox 1).trans rfl); (have d2 := (blk_cell hbox 2).trans rfl); (have f0 := blk_frozen hbox 0); (have f1 := blk_frozen hbox 1); (have f2 := blk_frozen hbox 2); (have HBX := Aside0.mk hbox); (clear hbox HX)))
 rename_i hHeld
 have HQ := Aside0.mk (keep7_below hHeld)
 have U : Aside0 (Kd.R (Kd.int .i64) 3 (((w5.setCell ⟨w.heap.size, 0, none⟩ (.int .i64 s0_0)).setCell ⟨w.heap.size, 1, none⟩ (.int .i64 s0_1)).setCell ⟨w.heap.size, 2, none⟩ (.slice A1 s0_2.length c1)) w.heap.size (fun _ => True) (.slice A1 s0_2.length c1) s0_2) :=
  ⟨Kd.R_mono (Kd.R_move HA.out.1 (fun k hk => ((Below.heap_setCell _ _ _ k hk).trans (Below.heap_setCell _ _ _ k hk)).trans (Below.heap_setCell _ _ _ k hk))) (fun _ _ => trivial)⟩
 have X := blk_set (blk_set (blk_set HBX.out 0 (.int .i64 s0_0)) 1 (.int .i64 s0_1)) 2 (.slice A1 s0_2.length c1)
 clear hHeld HA HBX d0 d1 d2 f0 f1 f2 HG HC HL
 generalize (((w5.setCell ⟨w.heap.size, 0, none⟩ (.int .i64 s0_0)).setCell ⟨w.heap.size, 1, none⟩ (.int .i64 s0_1)).setCell ⟨w.heap.size, 2, none⟩ (.slice A1 s0_2.length c1)) = W6 at HQ U X ⊢
 have d0 : W6.cell? ⟨w.heap.size, 0, none⟩ = some (.int .i64 s0_0) := (blk_cell X 0).trans rfl
 have d1 : W6.cell? ⟨w.heap.size, 1, none⟩ = some (.int .i64 s0_1) := (blk_cell X 1).trans rfl
 have d2 : W6.cell? ⟨w.heap.size, 2, none⟩ = some (.slice A1 s0_2.length c1) := (blk_cell X 2).trans rfl
 clear X
 go_wp2
 exact bodyPost_ret (v := .agg #[.int .i64 s0_0, .int .i64 s0_1, .slice A1 s0_2.length c1]) (by simp [results, Try.results48, go_sem, d0, d1, d2]) rfl ⟨_, rfl, U.out, HI.out.below HQ.out, below_step HB.out HQ.out, KeepBut.of_below HQ.out g none⟩
end Go.Proofs.Ytiejggpmjapajaa.PA
end
section
namespace Go.Proofs.Ytiejggpmjapajaa.PA
open Go.RowKit Go.Proofs.YtiejggpmjapajaaW.PrintWords Go.Proofs.YtiejggpmjapajaaW.PrintLast Go.Proofs.YtiejggpmjapajaaW.PrintMore
attribute [local go_sem] max2_int min2_int max_two min_two max_three min_three max_four min_four
set_option linter.unusedVariables false
set_option linter.unusedSimpArgs false
def poly_Derivative.l0 : Nat → List Int → List Int → Int → Int → Int → Int → Int → List Int → Int → List Int → List Int → Option (List Int × Int × Int × Int)
 | 0, _, _, _, _, _, _, _, _, _, _, _ => none
 | k + 1, x1, x5, x6, x19, x20, x1000, x1001, x1002, x1003, x1004, x1005 => if x20 < x19 then (if x6 = 0 then (none) else (if 0 ≤ (wrap64 (x20 + 1)) then (if (wrap64 (x20 + 1)) < (x1.length : Int) then ((field_GF_Mul.f x1000 x1001 x1002 x1003 x1004 x1005 (Int.tmod (wrap64 (x20 + 1)) x6) (rd x1 (wrap64 (x20 + 1)))).bind fun bt709 => (if 0 ≤ x20 then (if x20 < (x5.length : Int) then (poly_Derivative.l0 k x1 (x5.set (x20 : Int).toNat bt709.1) x6 x19 (wrap64 (x20 + 1)) bt709.2.1 bt709.2.2.1 x1002 bt709.2.2.2 x1004 x1005) else (none)) else (none))) else (none)) else (none))) else ((poly_trim.f k x5).bind fun t714 => (some (t714, x1000, x1001, x1003)))
def poly_Derivative.f (k : Nat) (s0_0 : Int) (s0_1 : Int) (s0_2 : List Int) (s0_3 : Int) (s0_4 : List Int) (s0_5 : List Int) (l1 : List Int) : Option (List Int × Int × Int × Int) := if (l1.length : Int) = 0 then (some (([] : List Int), s0_0, s0_1, s0_3)) else (if 0 ≤ (wrap64 ((l1.length : Int) - 1)) then (if (wrap64 ((l1.length : Int) - 1) : Int).toNat ≤ 35184372088832 then ((some (List.replicate (wrap64 ((l1.length : Int) - 1) : Int).toNat 0 : List Int)).bind fun y697 => ((field_GF_Field.f s0_0 s0_1 s0_2 s0_3 s0_4 s0_5).bind fun bt700 => (poly_Derivative.l0 k l1 y697 bt700.1 (y697.length : Int) 0 bt700.2.2.2.1 bt700.2.2.2.2.1 s0_2 bt700.2.2.2.2.2 s0_4 s0_5))) else (none)) else (none))
def poly_Derivative.T8 : Bool × List (List Nat × List Nat) := (true, [([], []), ([], []), ([], []), ([], []), ([3], [3]), ([], []), ([4, 5], [4, 5]), ([], []), ([], []), ([8], [8]), ([7, 9], [7, 9]), ([10], [10]), ([2, 6, 11], [2, 6, 11]), ([0, 1, 0, 1, 2, 3, 4, 5, 6, 7, 8, 9, 10, 11, 12], [0, 1]), ([13, 12, 12, 0, 1, 2, 3, 4, 5, 6, 7, 8, 9, 10, 11, 12], [12, 13])])
def poly_Derivative.B8 : List Nat := [0, 0, 0, 0, 8, 0, 56, 0, 0, 256, 896, 1920, 4092, 8191, 16383]
theorem poly_Derivative.tab8 : rtab .any (opsOf Try.f23 8) = poly_Derivative.T8 := by kernel_rfl
theorem poly_Derivative.bits8 : waitsOk poly_Derivative.T8.2 poly_Derivative.B8 = true := by kernel_rfl
set_option maxHeartbeats 8000000 in
set_option maxRecDepth 100000 in
theorem poly_Derivative.calls (k : Nat) (g : Nat) (s0_0 : Int) (s0_1 : Int) (s0_2 : List Int) (s0_3 : Int) (s0_4 : List Int) (s0_5 : List Int) (A1 : Option Addr) (c1 : Nat) (l1 : List Int) (r1 : List Int) (r2 : Int) (r3 : Int) (r4 : Int) (w0 w : World) (hI : IsS85 w0 w g s0_0 s0_1 s0_2 s0_3 s0_4 s0_5) (hB : Below w0.heap.size w0 w) (hr1 : Kd.C (Kd.int .i64) w A1 l1.length l1) (hc1 : l1.length ≤ c1) (hf1 : ∀ ad, A1 = some ad → 0 < l1.length → ad.block ≠ g) (h : poly_Derivative.f k s0_0 s0_1 s0_2 s0_3 s0_4 s0_5 l1 = some (r1, r2, r3, r4)) :
  Calls Try.prog 23 #[.pointer (some ⟨g, 0, none⟩), .slice A1 l1.length c1] w fun e w' => ∃ v0_ : Value, e = .returned (v0_) ∧ Kd.R (Kd.int .i64) 3 w' w.heap.size (fun _ => True) v0_ r1 ∧ IsS85 w0 w' g r2 r3 s0_2 r4 s0_4 s0_5 ∧ Below w0.heap.size w0 w' ∧ KeepBut w w' g none := by
 have hfd24 : ∀ (a b : Int) (v : Value) (w : World), (Instr.field 24 (.agg #[.int .i64 a, .int .i64 b, v]) 0).run Try.prog w = .ok (.int .i64 a) w := fun _ _ _ _ => by kernel_rfl
 have HR1 := Aside0.mk hr1
 have HC1 := Aside0.mk hc1
 clear hr1 hc1
 have HI0 := Aside0.mk hI
 have HK := Aside0.mk (KeepBut.refl w g none)
 have HL := Aside0.mk hB.size
 clear hI
 have HW0 := Aside0.mk hB.size
 have HB := Aside0.mk hB
 clear hB
 have H : (if (l1.length : Int) = 0 then (some (([] : List Int), s0_0, s0_1, s0_3)) else (if 0 ≤ (wrap64 ((l1.length : Int) - 1)) then (if (wrap64 ((l1.length : Int) - 1) : Int).toNat ≤ 35184372088832 then ((some (List.replicate (wrap64 ((l1.length : Int) - 1) : Int).toNat 0 : List Int)).bind fun y697 => ((field_GF_Field.f s0_0 s0_1 s0_2 s0_3 s0_4 s0_5).bind fun bt700 => (poly_Derivative.l0 k l1 y697 bt700.1 (y697.length : Int) 0 bt700.2.2.2.1 bt700.2.2.2.2.1 s0_2 bt700.2.2.2.2.2 s0_4 s0_5))) else (none)) else (none))) = some (r1, r2, r3, r4) := h
 clear h
 by_cases c3 : (l1.length : Int) = 0
 ·rw [if_pos c3] at H
  have c3b0 : ((l1.length : Int) == 0) = true := beq_iff_eq.mpr c3
  have c3b1 : ((l1.length : Int) != 0) = false := bne_eq_false_iff_eq.mpr c3
  clear c3
  simp only [Option.some.injEq, Prod.mk.injEq] at H
  obtain ⟨rfl, rfl, rfl, rfl⟩ := H
  go_enter Try.func23, Try.ntmps23
  go_wp2
  go_ret
  exact ⟨_, by rfl, by (exact Kd.R_nil _ _ _ _ _), by exact HI0.out, by exact HB.out, by exact HK.out⟩
 ·rw [if_neg c3] at H
  have c3b0 : ((l1.length : Int) == 0) = false := beq_eq_false_iff_ne.mpr c3
  have c3b1 : ((l1.length : Int) != 0) = true := bne_iff_ne.mpr c3
  have c3b2 : ¬ (l1 = []) := fun h_ => c3 (by rw [h_]; rfl)
  obtain ⟨ji4, hji4⟩ : ∃ j_ : Int, (wrap64 ((l1.length : Int) - 1)) = j_ := ⟨_, rfl⟩
  replace H : (if 0 ≤ (ji4) then (if (ji4 : Int).toNat ≤ 35184372088832 then ((some (List.replicate (ji4 : Int).toNat 0 : List Int)).bind fun y697 => ((field_GF_Field.f s0_0 s0_1 s0_2 s0_3 s0_4 s0_5).bind fun bt700 => (poly_Derivative.l0 k l1 y697 bt700.1 (y697.length : Int) 0 bt700.2.2.2.1 bt700.2.2.2.2.1 s0_2 bt700.2.2.2.2.2 s0_4 s0_5))) else (none)) else (none)) = some (r1, r2, r3, r4) := by (rw [hji4] at H; exact H)
  have hji4w : (IntKind.i64.wrap ((l1.length : Int) - 1)) = ji4 := (i64_w _).trans hji4
  by_cases c5 : 0 ≤ (ji4)
  ·rw [if_pos c5] at H
   have c5b0 := eq_true c5
   have c5b1 : decide (0 ≤ (ji4)) = true := decide_eq_true c5
   clear c5
   by_cases c6 : (ji4 : Int).toNat ≤ 35184372088832
   ·rw [if_pos c6] at H
    have c6b0 := eq_true c6
    have c6b1 : decide ((ji4 : Int).toNat ≤ 35184372088832) = true := decide_eq_true c6
    clear c6
    obtain ⟨y697, hy697⟩ : ∃ y_ : List Int, y_ = (List.replicate (ji4 : Int).toNat 0) := ⟨_, rfl⟩
    replace H : ((field_GF_Field.f s0_0 s0_1 s0_2 s0_3 s0_4 s0_5).bind fun bt700 => (poly_Derivative.l0 k l1 y697 bt700.1 (y697.length : Int) 0 bt700.2.2.2.1 bt700.2.2.2.2.1 s0_2 bt700.2.2.2.2.2 s0_4 s0_5)) = some (r1, r2, r3, r4) := by (have H2_ := (Option.bind_some _ _).symm.trans H; rw [hy697]; with_reducible exact H2_)
    have Ny697 := Aside0.mk hy697
    clear hy697
    replace H := Option.bind_eq_some_iff.mp H
    obtain ⟨⟨t700, t701, t702, t705, t706, t707⟩, A70, H⟩ := H
    replace H : (poly_Derivative.l0 k l1 y697 t700 (y697.length : Int) 0 t705 t706 s0_2 t707 s0_4 s0_5) = some (r1, r2, r3, r4) := H
    have A7 := Aside0.mk A70
    clear A70
    have H' := Aside0.mk H
    clear H
    go_enter Try.func23, Try.ntmps23
    go_wp2_with (first | ((with_reducible refine gate_dst (N := 14) rfl ?_); refine Kd.R_make (Kd.int .i64) _ 3 rfl (N := 14) rfl 22 _ _ rfl ji4 rfl rfl Try.underlying22 (.int .i64 0) 8 info3 rfl (by decide) (by omega) 0 (ok := fun _ => True) (okp := fun _ => True) rfl (fun _ hk => hk) trivial (of_decide_eq_true (by (with_reducible assumption))) (Nat.le_trans (Nat.mul_le_mul_right _ (of_decide_eq_true (by (with_reducible assumption)) : ji4.toNat ≤ 35184372088832)) (by omega)) (Below.refl _ _) (Nat.le_refl _) ?_; intro v698 w8 ho9 hb hg_ hnew_; clear hg_ hnew_; ((rw [← Ny697.out] at ho9)); have n0_ := Aside0.mk (Kd.R_lower ho9 (keep_size (w := w) (g := g) (row := none) HK.out)); have n1_ := Aside0.mk (IsS85.below HI0.out hb); have n2_ := Aside0.mk (KeepBut.trans HK.out (KeepBut.of_below hb g none) (.inl rfl)); have n3_ := Aside0.mk (below_step HB.out hb); clear HI0; clear HK; clear HB; have HO699 := n0_; have HI0 := n1_; have HK := n2_; have HB := n3_; clear n0_ n1_ n2_ n3_; clear hb ho9) | ((with_reducible refine gate_callee (f := 48) rfl ?_); refine goesL_ (some 16) rfl rfl Try.func48 (by kernel_rfl) rfl #[.pointer (some ⟨g, 0, none⟩)] rfl (by ((simp only [List.map_toArray, List.map_cons, List.map_nil])); (rfl)) ?_; (with_reducible refine (field_GF_Field.calls g s0_0 s0_1 s0_2 s0_3 s0_4 s0_5 t700 t701 t702 t705 t706 t707 w0 _ ?side1 ?side2 A7.out).mono ?_); (case side1 => repeat ((with_reducible (exact HI0.out)))); (case side2 => repeat ((with_reducible (exact HB.out)))); rintro e w10 ⟨v703, rfl, ho0, hi, hb, hk⟩; refine ⟨_, rfl, ?_⟩; have n0_ := Aside0.mk (Kd.R_mono (Kd.R_told (Kd.R_oldK (IsS85.apart (show IsS85 w0 _ g s0_0 s0_1 s0_2 s0_3 s0_4 s0_5 from by exact HI0.out) HO699.out (by decide)) hk) (Kd.R_base ho0)) (fun _ h_ => h_.1)); have n1_ := Aside0.mk (Kd.R_lower (Kd.R_new' ho0 (Kd.R_lt HO699.out)) (keep_size (w := w) (g := g) (row := none) HK.out)); have n2_ := Aside0.mk (KeepBut.trans HK.out hk (.inl rfl)); have n3_ := Aside0.mk (hb); have n4_ := Aside0.mk (hi); clear HO699; clear HK; clear HB; clear HI0; have HO699 := n0_; have HO704 := n1_; have HK := n2_; have HB := n3_; have HI0 := n4_; clear n0_ n1_ n2_ n3_ n4_; ((clear hb)); (skip); ((clear hk)); ((clear hi)); ((clear ho0)); obtain ⟨Ao11, co11, eo11⟩ := Kd.R_slice HO699.out; subst eo11))
    go_loopg [20] k (fun kq v20 w' => ∃ (x5_1 : List Int) (x20_1 : Int) (x1000_1 : Int) (x1001_1 : Int) (x1003_1 : Int), v20 = .int .i64 x20_1 ∧ Aside0 (poly_Derivative.l0 kq l1 x5_1 t700 (y697.length : Int) x20_1 x1000_1 x1001_1 s0_2 x1003_1 s0_4 s0_5 = some (r1, r2, r3, r4)) ∧ Aside0 (kq ≤ k) ∧ Aside0 (Kd.R (Kd.int .i64) 3 w' w.heap.size (fun _ => True) (.slice Ao11 y697.length co11) x5_1) ∧ Aside0 (IsS85 w0 w' g x1000_1 x1001_1 s0_2 x1003_1 s0_4 s0_5) ∧ Aside0 (KeepBut w w' g none) ∧ Aside0 (Below w0.heap.size w0 w'))
    case atStart => exact ⟨(y697), (0), (t705), (t706), (t707), (by rfl), H', ⟨Nat.le_refl _⟩, ⟨by exact Kd.R_mono HO699.out (fun _ hk => trivial)⟩, ⟨by exact HI0.out⟩, ⟨by exact HK.out⟩, ⟨by exact HB.out⟩⟩
    case round =>
     clear H' c3 c3b0 c3b1 c3b2 c5b0 c5b1 c6b0 c6b1
     obtain ⟨x5_1, x20_1, x1000_1, x1001_1, x1003_1, rfl, HA, HK1, HO_5, HI0, HK, HB⟩ := hrel
     have hl5_1 := (Kd.R_reads' HO_5.out).1
     rw [hl5_1] at HO_5
     ((simp only [hl5_1]))
     cases gk with
     | zero => exact absurd HA.out (by simp [poly_Derivative.l0])
     | succ k1 =>
      have H := HA.out
      clear HA
      simp only [poly_Derivative.l0] at H
      by_cases c12 : x20_1 < (y697.length : Int)
      ·rw [if_pos c12] at H
       have c12b0 : decide (x20_1 < (y697.length : Int)) = true := decide_eq_true c12
       ((rw [hl5_1] at c12b0))
       clear c12
       by_cases c13 : t700 = 0
       ·rw [if_pos c13] at H
        exact absurd H (by simp)
       ·rw [if_neg c13] at H
        have c13b0 : (t700 == 0) = false := beq_eq_false_iff_ne.mpr c13
        have c13b1 : (t700 != 0) = true := bne_iff_ne.mpr c13
        obtain ⟨ji14, hji14⟩ : ∃ j_ : Int, (wrap64 (x20_1 + 1)) = j_ := ⟨_, rfl⟩
        replace H : (if 0 ≤ (ji14) then (if (ji14) < (l1.length : Int) then ((field_GF_Mul.f x1000_1 x1001_1 s0_2 x1003_1 s0_4 s0_5 (Int.tmod (ji14) t700) (rd l1 (ji14))).bind fun bt709 => (if 0 ≤ x20_1 then (if x20_1 < (x5_1.length : Int) then (poly_Derivative.l0 k1 l1 (x5_1.set (x20_1 : Int).toNat bt709.1) t700 (y697.length : Int) ji14 bt709.2.1 bt709.2.2.1 s0_2 bt709.2.2.2 s0_4 s0_5) else (none)) else (none))) else (none)) else (none)) = some (r1, r2, r3, r4) := by (rw [hji14] at H; exact H)
        have hji14w : (IntKind.i64.wrap (x20_1 + 1)) = ji14 := (i64_w _).trans hji14
        by_cases c15 : 0 ≤ (ji14)
        ·rw [if_pos c15] at H
         have c15b0 : decide (0 ≤ (ji14)) = true := decide_eq_true c15
         clear c15
         by_cases c16 : (ji14) < (l1.length : Int)
         ·rw [if_pos c16] at H
          have c16b0 : decide ((ji14) < (l1.length : Int)) = true := decide_eq_true c16
          clear c16
          replace H := Option.bind_eq_some_iff.mp H
          obtain ⟨⟨t709, t710, t711, t712⟩, A170, H⟩ := H
          replace H : (if 0 ≤ x20_1 then (if x20_1 < (x5_1.length : Int) then (poly_Derivative.l0 k1 l1 (x5_1.set (x20_1 : Int).toNat t709) t700 (y697.length : Int) ji14 t710 t711 s0_2 t712 s0_4 s0_5) else (none)) else (none)) = some (r1, r2, r3, r4) := H
          have A17 := Aside0.mk A170
          clear A170
          by_cases c18 : 0 ≤ x20_1
          ·rw [if_pos c18] at H
           have c18b0 : decide (0 ≤ x20_1) = true := decide_eq_true c18
           clear c18
           by_cases c19 : x20_1 < (x5_1.length : Int)
           ·rw [if_pos c19] at H
            have c19b0 : decide (x20_1 < (x5_1.length : Int)) = true := decide_eq_true c19
            clear c19
            obtain ⟨y713, hy713⟩ : ∃ y_ : List Int, y_ = (x5_1.set (x20_1 : Int).toNat t709) := ⟨_, rfl⟩
            replace H : (poly_Derivative.l0 k1 l1 y713 t700 (y697.length : Int) ji14 t710 t711 s0_2 t712 s0_4 s0_5) = some (r1, r2, r3, r4) := by (rw [hy713]; with_reducible exact H)
            have Ny713 := Aside0.mk hy713
            clear hy713
            have H' := Aside0.mk H
            clear H
            (go_wp2)
            have n0_ := Aside0.mk (Kd.R_drew HO_5.out)
            have n1_ := Aside0.mk (IsS85.drew HI0.out)
            have n2_ := Aside0.mk (keep_drew HK.out)
            have n3_ := Aside0.mk (below_drew1 HB.out)
            clear HO_5 HI0 HK HB
            have HO_5 := n0_
            have HI0 := n1_
            have HK := n2_
            have HB := n3_
            clear n0_ n1_ n2_ n3_
            have p708 : 0 ≤ ((ji14) : Int) := of_decide_eq_true (by (with_reducible assumption))
            have q708 : (ji14) < (l1.length : Int) := of_decide_eq_true (by (with_reducible assumption))
            obtain ⟨ad708, e708, hx708_0⟩ := Kd.at_int HR1.out (ji14) p708 q708
            have hw708_0 := hx708_0
            cases e708
            have hne708_0 := (show ((ad708.add ((ji14)).toNat) : Addr).block ≠ g from by (rw [add_block]; exact hf1 ad708 rfl (by omega)))
            replace hx708_0 := keep_cell HK.out hx708_0 (by (rw [add_block]; exact hf1 _ rfl (by omega)))
            replace p708 := eq_true p708
            replace q708 := eq_true q708
            refine start_ (n := 15) (S := fun w' => w'.cell? (ad708.add ((ji14)).toNat) = some (.int .i64 (rd l1 (ji14)))) (ds := [14]) (bm 15 0) (by kernel_rfl) rfl rfl ((keep_cell HK.out hw708_0 hne708_0)) (fun hHeld => ?_); refine with_tabW poly_Derivative.tab8 poly_Derivative.bits8 (fun HT_ HW_ => ?_)
            generalize wr.drew = w21 at HO_5 HI0 HK HB hx708_0 hHeld ⊢
            refine pure_ (i := 0) (N := some 23) (v := ?_) (a' := ?_) (bm 15 1) rfl rfl (any_of HT_.out (by kernel_rfl)) (fun _ _ _ h => h) (Or.inl ⟨by rfl, ?_⟩) ?_ ?_;rotate_left;(intro w';go_simp;with_reducible rfl);rotate_left;(simp only [ps_];rfl)
            refine pure_ (i := 1) (N := some 24) (v := ?_) (a' := ?_) (bm 15 3) rfl rfl (any_of HT_.out (by kernel_rfl)) (fun _ _ _ h => h) (Or.inl ⟨by rfl, ?_⟩) ?_ ?_;rotate_left;(intro w';go_simp;with_reducible rfl);rotate_left;(simp only [ps_];rfl)
            refine pure_ (i := 2) (N := some 25) (v := ?_) (a' := ?_) (bm 15 7) rfl rfl (any_of HT_.out (by kernel_rfl)) (fun _ _ _ h => h) (Or.inl ⟨by rfl, ?_⟩) ?_ ?_;rotate_left;(intro w';go_simp;with_reducible rfl);rotate_left;(simp only [ps_];rfl)
            refine pure_ (i := 3) (N := some 26) (v := ?_) (a' := ?_) (bm 15 15) rfl rfl (any_of HT_.out (by kernel_rfl)) (fun _ _ _ h => h) (Or.inl ⟨by rfl, ?_⟩) ?_ ?_;rotate_left;(intro w';go_simp;with_reducible rfl);rotate_left;(simp only [ps_];rfl)
            refine pure_ (i := 4) (N := some 27) (v := ?_) (a' := ?_) (bm 15 31) rfl rfl (any_of HT_.out (by kernel_rfl)) (fun _ _ _ h => h) (Or.inl ⟨by rfl, ?_⟩) ?_ ?_;rotate_left;(intro w';go_simp;with_reducible rfl);rotate_left;(simp only [ps_];rfl)
            refine pure_ (i := 5) (N := some 28) (v := ?_) (a' := ?_) (bm 15 63) rfl rfl (any_of HT_.out (by kernel_rfl)) (fun _ _ _ h => h) (Or.inl ⟨by rfl, ?_⟩) ?_ ?_;rotate_left;(intro w';go_simp;with_reducible rfl);rotate_left;(simp only [ps_];rfl)
            refine pure_ (i := 6) (N := some 29) (v := ?_) (a' := ?_) (bm 15 127) rfl rfl (any_of HT_.out (by kernel_rfl)) (fun _ _ _ h => h) (Or.inl ⟨by rfl, ?_⟩) ?_ ?_;rotate_left;(intro w';go_simp;with_reducible rfl);rotate_left;(simp only [ps_];rfl)
            refine pure_ (i := 7) (N := some 30) (v := ?_) (a' := ?_) (bm 15 255) rfl rfl (any_of HT_.out (by kernel_rfl)) (fun _ _ _ h => h) (Or.inl ⟨by rfl, ?_⟩) ?_ ?_;rotate_left;(intro w';go_simp;with_reducible rfl);rotate_left;(simp only [ps_];rfl)
            refine pure_ (i := 8) (N := some 31) (v := ?_) (a' := ?_) (bm 15 511) rfl rfl (any_of HT_.out (by kernel_rfl)) (fun _ _ _ h => h) (Or.inl ⟨by rfl, ?_⟩) ?_ ?_;rotate_left;(intro w';go_simp;with_reducible rfl);rotate_left;(simp only [ps_];rfl)
            refine pure_ (i := 9) (N := some 32) (v := ?_) (a' := ?_) (bm 15 1023) rfl rfl (any_of HT_.out (by kernel_rfl)) (fun _ _ _ h => h) (Or.inl ⟨by rfl, ?_⟩) ?_ ?_;rotate_left;(intro w';go_simp;with_reducible rfl);rotate_left;(simp only [ps_];rfl)
            refine pure_ (i := 10) (N := some 33) (v := ?_) (a' := ?_) (bm 15 2047) rfl rfl (any_of HT_.out (by kernel_rfl)) (fun _ _ _ h => h) (Or.inl ⟨by rfl, ?_⟩) ?_ ?_;rotate_left;(intro w';go_simp;with_reducible rfl);rotate_left;(simp only [ps_];rfl)
            refine take_ (i := 11) (N := some 34) (v := ?_) (a' := ?_) (bm 15 4095) rfl rfl (take_ofW HT_.out HW_.out (by kernel_rfl)) (fun _ _ _ h => h) (Or.inl ⟨by rfl, ?_⟩) hHeld ?_ ?_
            rotate_left
            ·intro w' s0
             go_simp
             with_reducible rfl
            rotate_left
            ·simp only [Act.put, List.setIfInBounds_toArray, List.set_cons_zero, List.set_cons_succ, i64_w, i32_w]
             rfl
            refine one_ (i := 12) (N := some 35) (bm 15 8191) rfl rfl (one_of HT_.out (by kernel_rfl)) (by decide) (fun K hK => ?_)
            refine goes_ Try.func49 (by kernel_rfl) rfl #[.pointer (some ⟨g, 0, none⟩), .int .i64 (Int.tmod (ji14) t700), .int .i64 (rd l1 (ji14))] (by rfl) rfl rfl (by ((simp only [List.map_toArray, List.map_cons, List.map_nil])); (rfl)) ?_
            with_reducible refine (field_GF_Mul.calls g x1000_1 x1001_1 s0_2 x1003_1 s0_4 s0_5 (Int.tmod (ji14) t700) (rd l1 (ji14)) t709 t710 t711 t712 w0 _ ?side1 ?side2 A17.out).mono ?_
            (case side1 => repeat ((with_reducible (exact HI0.out))))
            (case side2 => repeat ((with_reducible (exact HB.out))))
            rintro e w22 ⟨rfl, hi, hb, hk⟩
            refine ⟨_, rfl, ?_⟩
            have n0_ := Aside0.mk (Kd.R_mono (Kd.R_keep (IsS85.apart (show IsS85 w0 _ g x1000_1 x1001_1 s0_2 x1003_1 s0_4 s0_5 from by exact HI0.out) HO_5.out (by decide)) hk (fun _ h => h.2)) (fun _ h => h.1))
            have n1_ := Aside0.mk (KeepBut.trans HK.out hk (.inl rfl))
            have n2_ := Aside0.mk (hb)
            have n3_ := Aside0.mk (hi)
            clear HO_5 HK HB HI0
            have HO_5 := n0_
            have HK := n1_
            have HB := n2_
            have HI0 := n3_
            clear n0_ n1_ n2_ n3_
            ((clear hb))
            ((clear hk))
            ((clear hi))
            have p20 : 0 ≤ (x20_1 : Int) := of_decide_eq_true (by (with_reducible assumption))
            have q20 : (x20_1 : Int) < ((x5_1.length : Int) : Int) := of_decide_eq_true (by (with_reducible assumption))
            obtain ⟨go20, co20, eo20, gb20, gl20, cl20, HG20⟩ := Kd.R_form HO_5.out (by omega)
            ((cases eo20))
            have GB20 := Aside0.mk gb20
            have GG20 := Aside0.mk HG20
            clear gb20 gl20 HG20
            obtain ⟨hx20_0, hf20_0⟩ := Kd.R_celln 0 HO_5.out (x20_1 : Int) p20 q20
            replace p20 := eq_true p20
            replace q20 := eq_true q20
            have HN0_go20 := Aside0.mk (show g ≠ go20 from by have h_ := IsS85.own_ne HI0.out HO_5.out (by decide); intro e_; exact h_ (by rw [e_]; rfl))
            have HP23 := Kd.R_putn HO_5.out (x20_1 : Int) t709
            rw [← Ny713.out] at HP23
            have HQ23 := Aside0.mk HP23
            clear HP23
            refine hK.out _ _ ((keep_cell HK.out hw708_0 hne708_0)) (fun hHeld => ?_)
            clear hK K
            refine norm_ (a' := ?_) ?_ ?_
            rotate_left
            ·show Act.put _ (some 35) _ = _
             simp only [Act.put, List.setIfInBounds_toArray, List.set_cons_zero, List.set_cons_succ, i64_w, i32_w]
             rfl
            refine pure_ (i := 13) (N := some 36) (v := ?_) (a' := ?_) (bm 15 16383) rfl rfl (any_of HT_.out (by kernel_rfl)) (fun _ _ _ h => h) (Or.inl ⟨by rfl, ?_⟩) ?_ ?_;rotate_left;(intro w';go_simp;with_reducible rfl);rotate_left;(simp only [ps_];rfl)
            refine last_ (i := 14) (N := none) (bm 15 32767) rfl rfl (one_of HT_.out (by kernel_rfl)) (by decide) (fun K hK => ?_)
            refine skip_ (w1 := ?_) (by rfl) rfl ?_ ?_
            rotate_left
            ·go_simp
             rfl
            refine hK.out _ _ ?_
            clear hK K
            refine done_ (done_of HT_.out (by kernel_rfl)) ?_
            (go_wp2)
            ((simp only [← hl5_1]))
            go_roundg k1
            case measure => have := HK1.out; omega
            case rel => exact ⟨(y713), (ji14), (t710), (t711), (t712), (by rfl), H', ⟨by have := HK1.out; omega⟩, ⟨by ((simp only [hl5_1])); (with_reducible repeat (fail)); exact HQ23.out⟩, ⟨by repeat ((with_reducible first | (exact HI0.out) | (refine IsS85.far ?_ HN0_go20.out _)))⟩, ⟨by repeat ((with_reducible first | (exact HK.out) | (refine keep_far ?_ GB20.out _)))⟩, ⟨by repeat ((with_reducible first | (exact HB.out) | (refine below_set ?_ (Nat.le_trans HL.out GB20.out))))⟩⟩
           ·rw [if_neg c19] at H
            exact absurd H (by simp)
          ·rw [if_neg c18] at H
           exact absurd H (by simp)
         ·rw [if_neg c16] at H
          exact absurd H (by simp)
        ·rw [if_neg c15] at H
         exact absurd H (by simp)
      ·rw [if_neg c12] at H
       have c12b0 : decide (x20_1 < (y697.length : Int)) = false := decide_eq_false c12
       ((rw [hl5_1] at c12b0))
       clear c12
       obtain ⟨t714, A240, H⟩ := Option.bind_eq_some_iff.mp H
       replace H : (some (t714, x1000_1, x1001_1, x1003_1)) = some (r1, r2, r3, r4) := H
       have A24 := Aside0.mk A240
       clear A240
       simp only [Option.some.injEq, Prod.mk.injEq] at H
       obtain ⟨rfl, rfl, rfl, rfl⟩ := H
       go_wp2_with (((with_reducible refine gate_callee (f := 50) rfl ?_); refine goesL_ (some 39) rfl rfl Try.func50 (by kernel_rfl) rfl #[.slice Ao11 x5_1.length co11] rfl (by ((simp only [List.map_toArray, List.map_cons, List.map_nil])); (rfl)) ?_; (with_reducible refine (poly_trim.calls k1 (fun k_ => some k_ = (.slice Ao11 x5_1.length co11 : Value).ownBlock) (.slice Ao11 x5_1.length co11) x5_1 t714 w0 _ ?side1 ?side2 A24.out).mono ?_); (case side1 => repeat ((with_reducible (exact HB.out)))); (case side2 => exact Kd.R_lower (Kd.R_tight rfl HO_5.out) HL.out); rintro e w25 ⟨v715, rfl, ho0, hb, hkp⟩; refine ⟨_, rfl, ?_⟩; have n0_ := Aside0.mk (IsS85.kept HI0.out hkp (fun hs_ => (fun e_ => (IsS85.own_ne HI0.out HO_5.out (by decide)) e_) hs_)); have n1_ := Aside0.mk (Kd.R_mono (ok' := fun k_ => True) (Kd.R_raise (d := (Kd.int .i64)) (b := w0.heap.size) (b' := w.heap.size) (fun _ _ _ _ h_ => h_) ho0 (fun k_ e_ => Or.elim (ho0.1 k_ e_) (fun hs_ => (fun e_ => Kd.R_base HO_5.out k_ e_.symm) hs_) (fun hn_ => Nat.le_trans (keep_size (w := w) (g := g) (row := none) HK.out) hn_))) (fun k_ hk_ => trivial)); have n2_ := Aside0.mk (Kept.keepG HK.out hkp (fun k_ hs_ => (fun e_ => .inr (Kd.R_base HO_5.out k_ e_.symm)) hs_)); have n3_ := Aside0.mk (hb); clear HI0; clear HK; clear HB; clear HO_5; have HI0 := n0_; have HO716 := n1_; have HK := n2_; have HB := n3_; clear n0_ n1_ n2_ n3_; ((clear hb)); ((clear hkp)); ((clear ho0))))
       go_ret
       exact ⟨_, by rfl, by exact HO716.out, by exact HI0.out, by exact HB.out, by exact HK.out⟩
   ·rw [if_neg c6] at H
    exact absurd H (by simp)
  ·rw [if_neg c5] at H
   exact absurd H (by simp)
def codewrightref05_times.l0 : Nat → Int → Int → Int → Int → Int → Int → List Int → Option (Int)
 | 0, _, _, _, _, _, _, _ => none
 | k + 1, x1, x2, x7, x8, x718000, x718001, x718002 => if x718000 = 0 then (none) else (if x8 < (Int.tmod x1 x718000) then ((codewrightref04_Add.f k x718000 x718001 x718002 x7 x2).bind fun t718 => (codewrightref05_times.l0 k x1 x2 t718 (wrap64 (x8 + 1)) x718000 x718001 x718002)) else (some x7))
def codewrightref05_times.f (k : Nat) (a0_0 : Int) (a0_1 : Int) (l0_2 : List Int) (a1 : Int) (a2 : Int) : Option (Int) := codewrightref05_times.l0 k a1 a2 0 0 a0_0 a0_1 l0_2
set_option maxHeartbeats 8000000 in
set_option maxRecDepth 100000 in
theorem codewrightref05_times.calls (k : Nat) (a0_0 : Int) (a0_1 : Int) (A0_2 : Option Addr) (c0_2 : Nat) (l0_2 : List Int) (a1 : Int) (a2 : Int) (r : Int) (w : World) (hr0_2 : Kd.C (Kd.int .i64) w A0_2 l0_2.length l0_2) (hc0_2 : l0_2.length ≤ c0_2) (h : codewrightref05_times.f k a0_0 a0_1 l0_2 a1 a2 = some r) :
  Calls Try.prog 51 #[.agg #[.int .i64 a0_0, .int .i64 a0_1, .slice A0_2 l0_2.length c0_2], .int .i64 a1, .int .i64 a2] w fun e w' => e = .returned (.int .i64 r) ∧ Below w.heap.size w w' := by
 have HR0_2 := Aside0.mk hr0_2
 have HC0_2 := Aside0.mk hc0_2
 clear hr0_2 hc0_2
 have HB := Aside0.mk (Below.refl w.heap.size w)
 have H : (codewrightref05_times.l0 k a1 a2 0 0 a0_0 a0_1 l0_2) = some r := h
 clear h
 have H' := Aside0.mk H
 clear H
 go_enter Try.func51, Try.ntmps51
 go_wp2_with (((with_reducible refine gate_dst (N := 3) rfl ?_); refine box_event ?hg (N := 3) ?hd (cs := #[.int .i64 a0_0, .int .i64 a0_1, .slice A0_2 l0_2.length c0_2]) (t := 24) ?hr ?_; (case hd => rfl); (case hg => rfl); (case hr => (go_simp; done)); intro gb717 hg w4 hbox hb; have n0_ := Aside0.mk (below_step HB.out hb); have n1_ := Aside0.mk (hbox); have n2_ := Aside0.mk ((by rw [hg]; exact (below_size HB.out) : w.heap.size ≤ gb717)); have n3_ := Aside0.mk ((by rw [hg]; exact (below_size HB.out) : w.heap.size ≤ gb717)); clear HB; have HB := n0_; have BK717 := n1_; have GW717 := n2_; have GE717 := n3_; clear n0_ n1_ n2_ n3_; clear hb hbox hg))
 go_loopg [7, 8] k (fun kq v7 v8 w' => ∃ (x7_1 : Int) (x8_1 : Int), v7 = .int .i64 x7_1 ∧ v8 = .int .i64 x8_1 ∧ Aside0 (codewrightref05_times.l0 kq a1 a2 x7_1 x8_1 a0_0 a0_1 l0_2 = some r) ∧ Aside0 (kq ≤ k) ∧ Aside0 (w'.heap[gb717]? = some (.cells #[.int .i64 a0_0, .int .i64 a0_1, (.slice A0_2 l0_2.length c0_2)] 24 (0, 0))) ∧ Aside0 (Below w.heap.size w w'))
 case atStart => exact ⟨(0), (0), (by rfl), (by rfl), H', ⟨Nat.le_refl _⟩, ⟨BK717.out⟩, ⟨by exact HB.out⟩⟩
 case round =>
  clear H'
  obtain ⟨x7_1, x8_1, rfl, rfl, HA, HK1, BK717, HB⟩ := hrel
  cases gk with
  | zero => exact absurd HA.out (by simp [codewrightref05_times.l0])
  | succ k1 =>
   have H := HA.out
   clear HA
   simp only [codewrightref05_times.l0] at H
   by_cases c5 : a0_0 = 0
   ·rw [if_pos c5] at H
    exact absurd H (by simp)
   ·rw [if_neg c5] at H
    have c5b0 : (a0_0 == 0) = false := beq_eq_false_iff_ne.mpr c5
    have c5b1 : (a0_0 != 0) = true := bne_iff_ne.mpr c5
    by_cases c6 : x8_1 < (Int.tmod a1 a0_0)
    ·rw [if_pos c6] at H
     have c6b0 : decide (x8_1 < (Int.tmod a1 a0_0)) = true := decide_eq_true c6
     clear c6
     obtain ⟨t718, A70, H⟩ := Option.bind_eq_some_iff.mp H
     replace H : (codewrightref05_times.l0 k1 a1 a2 t718 (wrap64 (x8_1 + 1)) a0_0 a0_1 l0_2) = some r := H
     have A7 := Aside0.mk A70
     clear A70
     have H' := Aside0.mk H
     clear H
     have hcz8_0 : wr.cell? ⟨gb717, 0, none⟩ = some (.int .i64 a0_0) := (blk_cell BK717.out 0).trans rfl
     have hcz8_1 : wr.cell? ⟨gb717, 1, none⟩ = some (.int .i64 a0_1) := (blk_cell BK717.out 1).trans rfl
     have hcz8_2 : wr.cell? ⟨gb717, 2, none⟩ = some (.slice A0_2 l0_2.length c0_2) := (blk_cell BK717.out 2).trans rfl
     have hfz8_0 := blk_frozen BK717.out 0
     have hfz8_1 := blk_frozen BK717.out 1
     have hfz8_2 := blk_frozen BK717.out 2
     go_wp2_with (((with_reducible refine gate_callee (f := 43) rfl ?_); refine goesL_ (some 20) rfl rfl Try.func43 (by kernel_rfl) rfl #[.agg #[.int .i64 a0_0, .int .i64 a0_1, .slice A0_2 l0_2.length c0_2], .int .i64 x7_1, .int .i64 a2] rfl (by ((simp only [List.map_toArray, List.map_cons, List.map_nil])); (rfl)) ?_; (with_reducible refine (codewrightref04_Add.calls k1 a0_0 a0_1 _ _ l0_2 x7_1 a2 t718 _ ?side1 ?side2 A7.out).mono ?_); (case side1 => repeat ((exact (Kd.C_below HR0_2.out HB.out)))); (case side2 => exact HC0_2.out); rintro e w9 ⟨rfl, hb⟩; refine ⟨_, rfl, ?_⟩; have n0_ := Aside0.mk (blk_below (g := gb717) (o := .cells #[.int .i64 a0_0, .int .i64 a0_1, .slice A0_2 l0_2.length c0_2] 24 (0, 0)) BK717.out hb); have n1_ := Aside0.mk (below_step HB.out hb); clear BK717; clear HB; have BK717 := n0_; have HB := n1_; clear n0_ n1_; ((clear hb)); (skip); (skip); (skip)))
     go_roundg k1
     case measure => have := HK1.out; omega
     case rel => exact ⟨(t718), (wrap64 (x8_1 + 1)), (by rfl), (by rfl), H', ⟨by have := HK1.out; omega⟩, ⟨BK717.out⟩, ⟨by exact HB.out⟩⟩
    ·rw [if_neg c6] at H
     have c6b0 : decide (x8_1 < (Int.tmod a1 a0_0)) = false := decide_eq_false c6
     clear c6
     obtain rfl := Option.some.inj H
     have hcz10_0 : wr.cell? ⟨gb717, 0, none⟩ = some (.int .i64 a0_0) := (blk_cell BK717.out 0).trans rfl
     have hcz10_1 : wr.cell? ⟨gb717, 1, none⟩ = some (.int .i64 a0_1) := (blk_cell BK717.out 1).trans rfl
     have hcz10_2 : wr.cell? ⟨gb717, 2, none⟩ = some (.slice A0_2 l0_2.length c0_2) := (blk_cell BK717.out 2).trans rfl
     have hfz10_0 := blk_frozen BK717.out 0
     have hfz10_1 := blk_frozen BK717.out 1
     have hfz10_2 := blk_frozen BK717.out 2
     go_wp2
     go_ret
     exact ⟨by rfl, by exact HB.out⟩
def codewrightref05_Derivative.l0 : Nat → List Int → List Int → Int → Int → Int → List Int → Option (List Int)
 | 0, _, _, _, _, _, _ => none
 | k + 1, x1, x5, x6, x720000, x720001, x720002 => if x6 < (x5.length : Int) then (if 0 ≤ (wrap64 (x6 + 1)) then (if (wrap64 (x6 + 1)) < (x1.length : Int) then ((codewrightref05_times.f k x720000 x720001 x720002 (wrap64 (x6 + 1)) (rd x1 (wrap64 (x6 + 1)))).bind fun t724 => (if 0 ≤ x6 then (codewrightref05_Derivative.l0 k x1 (x5.set (x6 : Int).toNat t724) (wrap64 (x6 + 1)) x720000 x720001 x720002) else (none))) else (none)) else (none)) else ((codewrightref05_Canon.f k x720000 x720001 x720002 x5).bind fun t726 => (some t726))
def codewrightref05_Derivative.f (k : Nat) (a0_0 : Int) (a0_1 : Int) (l0_2 : List Int) (l1 : List Int) : Option (List Int) := if (l1.length : Int) = 0 then (some ([] : List Int)) else (if 0 ≤ (wrap64 ((l1.length : Int) - 1)) then (if (wrap64 ((l1.length : Int) - 1) : Int).toNat ≤ 35184372088832 then (codewrightref05_Derivative.l0 k l1 (List.replicate (wrap64 ((l1.length : Int) - 1) : Int).toNat 0) 0 a0_0 a0_1 l0_2) else (none)) else (none))
def codewrightref05_Derivative.T7 : Bool × List (List Nat × List Nat) := (true, [([], []), ([], []), ([], []), ([], []), ([3], [3]), ([], []), ([], []), ([6], [6]), ([5, 7], [5, 7]), ([8], [8]), ([2, 4, 9], [2, 4, 9]), ([0, 1, 0, 1, 2, 3, 4, 5, 6, 7, 8, 9, 10], [0, 1]), ([11, 10, 10, 0, 1, 2, 3, 4, 5, 6, 7, 8, 9, 10], [10, 11])])
def codewrightref05_Derivative.B7 : List Nat := [0, 0, 0, 0, 8, 0, 0, 64, 224, 480, 1020, 2047, 4095]
theorem codewrightref05_Derivative.tab7 : rtab .any (opsOf Try.f24 7) = codewrightref05_Derivative.T7 := by kernel_rfl
theorem codewrightref05_Derivative.bits7 : waitsOk codewrightref05_Derivative.T7.2 codewrightref05_Derivative.B7 = true := by kernel_rfl
set_option maxHeartbeats 8000000 in
set_option maxRecDepth 100000 in
theorem codewrightref05_Derivative.calls (k : Nat) (a0_0 : Int) (a0_1 : Int) (A0_2 : Option Addr) (c0_2 : Nat) (l0_2 : List Int) (A1 : Option Addr) (c1 : Nat) (l1 : List Int) (r : List Int) (w : World) (hr0_2 : Kd.C (Kd.int .i64) w A0_2 l0_2.length l0_2) (hc0_2 : l0_2.length ≤ c0_2) (hr1 : Kd.C (Kd.int .i64) w A1 l1.length l1) (hc1 : l1.length ≤ c1) (h : codewrightref05_Derivative.f k a0_0 a0_1 l0_2 l1 = some r) :
  Calls Try.prog 24 #[.agg #[.int .i64 a0_0, .int .i64 a0_1, .slice A0_2 l0_2.length c0_2], .slice A1 l1.length c1] w fun e w' => ∃ v0_ : Value, e = .returned (v0_) ∧ Kd.R (Kd.int .i64) 3 w' w.heap.size (fun _ => True) v0_ r ∧ Below w.heap.size w w' := by
 have HR0_2 := Aside0.mk hr0_2
 have HC0_2 := Aside0.mk hc0_2
 clear hr0_2 hc0_2
 have HR1 := Aside0.mk hr1
 have HC1 := Aside0.mk hc1
 clear hr1 hc1
 have HB := Aside0.mk (Below.refl w.heap.size w)
 have H : (if (l1.length : Int) = 0 then (some ([] : List Int)) else (if 0 ≤ (wrap64 ((l1.length : Int) - 1)) then (if (wrap64 ((l1.length : Int) - 1) : Int).toNat ≤ 35184372088832 then (codewrightref05_Derivative.l0 k l1 (List.replicate (wrap64 ((l1.length : Int) - 1) : Int).toNat 0) 0 a0_0 a0_1 l0_2) else (none)) else (none))) = some r := h
 clear h
 by_cases c3 : (l1.length : Int) = 0
 ·rw [if_pos c3] at H
  have c3b0 : ((l1.length : Int) == 0) = true := beq_iff_eq.mpr c3
  have c3b1 : ((l1.length : Int) != 0) = false := bne_eq_false_iff_eq.mpr c3
  clear c3
  obtain rfl := Option.some.inj H
  go_enter Try.func24, Try.ntmps24
  go_wp2_with (((with_reducible refine gate_dst (N := 2) rfl ?_); refine box_event ?hg (N := 2) ?hd (cs := #[.int .i64 a0_0, .int .i64 a0_1, .slice A0_2 l0_2.length c0_2]) (t := 24) ?hr ?_; (case hd => rfl); (case hg => rfl); (case hr => (go_simp; done)); intro gb719 hg w4 hbox hb; have n0_ := Aside0.mk (below_step HB.out hb); have n1_ := Aside0.mk (hbox); have n2_ := Aside0.mk ((by rw [hg]; exact (below_size HB.out) : w.heap.size ≤ gb719)); have n3_ := Aside0.mk ((by rw [hg]; exact (below_size HB.out) : w.heap.size ≤ gb719)); clear HB; have HB := n0_; have BK719 := n1_; have GW719 := n2_; have GE719 := n3_; clear n0_ n1_ n2_ n3_; clear hb hbox hg))
  go_ret
  exact ⟨_, by rfl, by (exact Kd.R_nil _ _ _ _ _), by exact HB.out⟩
 ·rw [if_neg c3] at H
  have c3b0 : ((l1.length : Int) == 0) = false := beq_eq_false_iff_ne.mpr c3
  have c3b1 : ((l1.length : Int) != 0) = true := bne_iff_ne.mpr c3
  have c3b2 : ¬ (l1 = []) := fun h_ => c3 (by rw [h_]; rfl)
  obtain ⟨ji5, hji5⟩ : ∃ j_ : Int, (wrap64 ((l1.length : Int) - 1)) = j_ := ⟨_, rfl⟩
  replace H : (if 0 ≤ (ji5) then (if (ji5 : Int).toNat ≤ 35184372088832 then (codewrightref05_Derivative.l0 k l1 (List.replicate (ji5 : Int).toNat 0) 0 a0_0 a0_1 l0_2) else (none)) else (none)) = some r := by (rw [hji5] at H; exact H)
  have hji5w : (IntKind.i64.wrap ((l1.length : Int) - 1)) = ji5 := (i64_w _).trans hji5
  by_cases c6 : 0 ≤ (ji5)
  ·rw [if_pos c6] at H
   have c6b0 := eq_true c6
   have c6b1 : decide (0 ≤ (ji5)) = true := decide_eq_true c6
   clear c6
   by_cases c7 : (ji5 : Int).toNat ≤ 35184372088832
   ·rw [if_pos c7] at H
    have c7b0 := eq_true c7
    have c7b1 : decide ((ji5 : Int).toNat ≤ 35184372088832) = true := decide_eq_true c7
    clear c7
    obtain ⟨y720, hy720⟩ : ∃ y_ : List Int, y_ = (List.replicate (ji5 : Int).toNat 0) := ⟨_, rfl⟩
    replace H : (codewrightref05_Derivative.l0 k l1 y720 0 a0_0 a0_1 l0_2) = some r := by (rw [hy720]; with_reducible exact H)
    have Ny720 := Aside0.mk hy720
    clear hy720
    have H' := Aside0.mk H
    clear H
    go_enter Try.func24, Try.ntmps24
    go_wp2_with (first | ((with_reducible refine gate_dst (N := 2) rfl ?_); refine box_event ?hg (N := 2) ?hd (cs := #[.int .i64 a0_0, .int .i64 a0_1, .slice A0_2 l0_2.length c0_2]) (t := 24) ?hr ?_; (case hd => rfl); (case hg => rfl); (case hr => (go_simp; done)); intro gb719 hg w8 hbox hb; have n0_ := Aside0.mk (below_step HB.out hb); have n1_ := Aside0.mk (hbox); have n2_ := Aside0.mk ((by rw [hg]; exact (below_size HB.out) : w.heap.size ≤ gb719)); have n3_ := Aside0.mk ((by rw [hg]; exact (below_size HB.out) : w.heap.size ≤ gb719)); clear HB; have HB := n0_; have BK719 := n1_; have GW719 := n2_; have GE719 := n3_; clear n0_ n1_ n2_ n3_; clear hb hbox hg) | ((with_reducible refine gate_dst (N := 13) rfl ?_); refine Kd.R_make (Kd.int .i64) _ 3 rfl (N := 13) rfl 22 _ _ rfl ji5 rfl rfl Try.underlying22 (.int .i64 0) 8 info3 rfl (by decide) (by omega) 0 (ok := fun _ => True) (okp := fun _ => True) rfl (fun _ hk => hk) trivial (of_decide_eq_true (by (with_reducible assumption))) (Nat.le_trans (Nat.mul_le_mul_right _ (of_decide_eq_true (by (with_reducible assumption)) : ji5.toNat ≤ 35184372088832)) (by omega)) (Below.refl _ _) (Nat.le_refl _) ?_; intro v721 w9 ho10 hb hg_ hnew_; clear hg_ hnew_; ((rw [← Ny720.out] at ho10)); have n0_ := Aside0.mk (Kd.R_lower ho10 (below_size HB.out)); have n1_ := Aside0.mk (blk_below (g := gb719) (o := .cells #[.int .i64 a0_0, .int .i64 a0_1, .slice A0_2 l0_2.length c0_2] 24 (0, 0)) BK719.out hb); have n2_ := Aside0.mk (below_step HB.out hb); clear BK719; clear HB; have HO722 := n0_; have BK719 := n1_; have HB := n2_; clear n0_ n1_ n2_; clear hb ho10))
    go_loopg [6] k (fun kq v6 w' => ∃ (x5_1 : List Int) (x6_1 : Int), v6 = .int .i64 x6_1 ∧ Aside0 (codewrightref05_Derivative.l0 kq l1 x5_1 x6_1 a0_0 a0_1 l0_2 = some r) ∧ Aside0 (kq ≤ k) ∧ Aside0 (Kd.R (Kd.int .i64) 3 w' w.heap.size (fun _ => True) v721 x5_1) ∧ Aside0 (w'.heap[gb719]? = some (.cells #[.int .i64 a0_0, .int .i64 a0_1, (.slice A0_2 l0_2.length c0_2)] 24 (0, 0))) ∧ Aside0 (Below w.heap.size w w'))
    case atStart => exact ⟨(y720), (0), (by rfl), H', ⟨Nat.le_refl _⟩, ⟨HO722.out⟩, ⟨BK719.out⟩, ⟨by exact HB.out⟩⟩
    case round =>
     clear H' c3 c3b0 c3b1 c3b2 c6b0 c6b1 c7b0 c7b1
     obtain ⟨x5_1, x6_1, rfl, HA, HK1, HO_5, BK719, HB⟩ := hrel
     cases gk with
     | zero => exact absurd HA.out (by simp [codewrightref05_Derivative.l0])
     | succ k1 =>
      have H := HA.out
      clear HA
      simp only [codewrightref05_Derivative.l0] at H
      by_cases c11 : x6_1 < (x5_1.length : Int)
      ·rw [if_pos c11] at H
       have c11b0 : decide (x6_1 < (x5_1.length : Int)) = true := decide_eq_true c11
       clear c11
       obtain ⟨ji12, hji12⟩ : ∃ j_ : Int, (wrap64 (x6_1 + 1)) = j_ := ⟨_, rfl⟩
       replace H : (if 0 ≤ (ji12) then (if (ji12) < (l1.length : Int) then ((codewrightref05_times.f k1 a0_0 a0_1 l0_2 (ji12) (rd l1 (ji12))).bind fun t724 => (if 0 ≤ x6_1 then (codewrightref05_Derivative.l0 k1 l1 (x5_1.set (x6_1 : Int).toNat t724) ji12 a0_0 a0_1 l0_2) else (none))) else (none)) else (none)) = some r := by (rw [hji12] at H; exact H)
       have hji12w : (IntKind.i64.wrap (x6_1 + 1)) = ji12 := (i64_w _).trans hji12
       by_cases c13 : 0 ≤ (ji12)
       ·rw [if_pos c13] at H
        have c13b0 : decide (0 ≤ (ji12)) = true := decide_eq_true c13
        clear c13
        by_cases c14 : (ji12) < (l1.length : Int)
        ·rw [if_pos c14] at H
         have c14b0 : decide ((ji12) < (l1.length : Int)) = true := decide_eq_true c14
         clear c14
         obtain ⟨t724, A150, H⟩ := Option.bind_eq_some_iff.mp H
         replace H : (if 0 ≤ x6_1 then (codewrightref05_Derivative.l0 k1 l1 (x5_1.set (x6_1 : Int).toNat t724) ji12 a0_0 a0_1 l0_2) else (none)) = some r := H
         have A15 := Aside0.mk A150
         clear A150
         by_cases c16 : 0 ≤ x6_1
         ·rw [if_pos c16] at H
          have c16b0 : decide (0 ≤ x6_1) = true := decide_eq_true c16
          clear c16
          obtain ⟨y725, hy725⟩ : ∃ y_ : List Int, y_ = (x5_1.set (x6_1 : Int).toNat t724) := ⟨_, rfl⟩
          replace H : (codewrightref05_Derivative.l0 k1 l1 y725 ji12 a0_0 a0_1 l0_2) = some r := by (rw [hy725]; with_reducible exact H)
          have Ny725 := Aside0.mk hy725
          clear hy725
          have H' := Aside0.mk H
          clear H
          obtain ⟨Ao18, co18, eo18⟩ := Kd.R_slice HO_5.out
          subst eo18
          (go_wp2)
          have n0_ := Aside0.mk (Kd.R_drew HO_5.out)
          have n1_ := Aside0.mk (blk_drew BK719.out)
          have n2_ := Aside0.mk (below_drew1 HB.out)
          clear HO_5 BK719 HB
          have HO_5 := n0_
          have BK719 := n1_
          have HB := n2_
          clear n0_ n1_ n2_
          have p723 : 0 ≤ ((ji12) : Int) := of_decide_eq_true (by (with_reducible assumption))
          have q723 : (ji12) < (l1.length : Int) := of_decide_eq_true (by (with_reducible assumption))
          obtain ⟨ad723, e723, hx723_0⟩ := Kd.at_int HR1.out (ji12) p723 q723
          have hw723_0 := hx723_0
          cases e723
          replace hx723_0 := (HB.out.cell (World.block_lt_of_cell? w _ hx723_0)).trans hx723_0
          replace p723 := eq_true p723
          replace q723 := eq_true q723
          refine start_ (n := 13) (S := fun w' => w'.cell? ⟨gb719, 0, none⟩ = some (.int .i64 a0_0) ∧ w'.cell? ⟨gb719, 1, none⟩ = some (.int .i64 a0_1) ∧ w'.cell? ⟨gb719, 2, none⟩ = some (.slice A0_2 l0_2.length c0_2) ∧ w'.cell? (ad723.add ((ji12)).toNat) = some (.int .i64 (rd l1 (ji12)))) (ds := [12]) (bm 13 0) (by kernel_rfl) rfl rfl ⟨(blk_cell BK719.out 0).trans rfl, (blk_cell BK719.out 1).trans rfl, (blk_cell BK719.out 2).trans rfl, ((HB.out.cell (World.block_lt_of_cell? w _ hw723_0)).trans hw723_0)⟩ (fun hHeld => ?_); refine with_tabW codewrightref05_Derivative.tab7 codewrightref05_Derivative.bits7 (fun HT_ HW_ => ?_)
          generalize wr.drew = w19 at HO_5 BK719 HB hx723_0 hHeld ⊢
          refine pure_ (i := 0) (N := some 20) (v := ?_) (a' := ?_) (bm 13 1) rfl rfl (any_of HT_.out (by kernel_rfl)) (fun _ _ _ h => h) (Or.inl ⟨by rfl, ?_⟩) ?_ ?_;rotate_left;(intro w';go_simp;with_reducible rfl);rotate_left;(simp only [ps_];rfl)
          refine pure_ (i := 1) (N := some 21) (v := ?_) (a' := ?_) (bm 13 3) rfl rfl (any_of HT_.out (by kernel_rfl)) (fun _ _ _ h => h) (Or.inl ⟨by rfl, ?_⟩) ?_ ?_;rotate_left;(intro w';go_simp;with_reducible rfl);rotate_left;(simp only [ps_];rfl)
          refine pure_ (i := 3) (N := some 23) (v := ?_) (a' := ?_) (bm 13 11) rfl rfl (any_of HT_.out (by kernel_rfl)) (fun _ _ _ h => h) (Or.inl ⟨by rfl, ?_⟩) ?_ ?_;rotate_left;(intro w';go_simp;with_reducible rfl);rotate_left;(simp only [ps_];rfl)
          refine pure_ (i := 4) (N := some 24) (v := ?_) (a' := ?_) (bm 13 27) rfl rfl (any_of HT_.out (by kernel_rfl)) (fun _ _ _ h => h) (Or.inl ⟨by rfl, ?_⟩) ?_ ?_;rotate_left;(intro w';go_simp;with_reducible rfl);rotate_left;(simp only [ps_];rfl)
          refine pure_ (i := 5) (N := some 25) (v := ?_) (a' := ?_) (bm 13 59) rfl rfl (any_of HT_.out (by kernel_rfl)) (fun _ _ _ h => h) (Or.inl ⟨by rfl, ?_⟩) ?_ ?_;rotate_left;(intro w';go_simp;with_reducible rfl);rotate_left;(simp only [ps_];rfl)
          refine pure_ (i := 6) (N := some 26) (v := ?_) (a' := ?_) (bm 13 123) rfl rfl (any_of HT_.out (by kernel_rfl)) (fun _ _ _ h => h) (Or.inl ⟨by rfl, ?_⟩) ?_ ?_;rotate_left;(intro w';go_simp;with_reducible rfl);rotate_left;(simp only [ps_];rfl)
          refine pure_ (i := 7) (N := some 27) (v := ?_) (a' := ?_) (bm 13 251) rfl rfl (any_of HT_.out (by kernel_rfl)) (fun _ _ _ h => h) (Or.inl ⟨by rfl, ?_⟩) ?_ ?_;rotate_left;(intro w';go_simp;with_reducible rfl);rotate_left;(simp only [ps_];rfl)
          refine pure_ (i := 8) (N := some 28) (v := ?_) (a' := ?_) (bm 13 507) rfl rfl (any_of HT_.out (by kernel_rfl)) (fun _ _ _ h => h) (Or.inl ⟨by rfl, ?_⟩) ?_ ?_;rotate_left;(intro w';go_simp;with_reducible rfl);rotate_left;(simp only [ps_];rfl)
          refine take_ (i := 2) (N := some 22) (v := ?_) (a' := ?_) (bm 13 511) rfl rfl (take_ofW HT_.out HW_.out (by kernel_rfl)) (fun _ _ _ h => h) (Or.inl ⟨by rfl, ?_⟩) hHeld ?_ ?_;rotate_left;(rintro w' ⟨s0, s1, s2, s3⟩;go_simp;with_reducible rfl);rotate_left;(simp only [ps_];rfl)
          refine take_ (i := 9) (N := some 29) (v := ?_) (a' := ?_) (bm 13 1023) rfl rfl (take_ofW HT_.out HW_.out (by kernel_rfl)) (fun _ _ _ h => h) (Or.inl ⟨by rfl, ?_⟩) hHeld ?_ ?_;rotate_left;(rintro w' ⟨s0, s1, s2, s3⟩;go_simp;with_reducible rfl);rotate_left;(simp only [ps_];rfl)
          refine one_ (i := 10) (N := some 30) (bm 13 2047) rfl rfl (one_of HT_.out (by kernel_rfl)) (by decide) (fun K hK => ?_)
          refine goes_ Try.func51 (by kernel_rfl) rfl #[.agg #[.int .i64 a0_0, .int .i64 a0_1, .slice A0_2 l0_2.length c0_2], .int .i64 ji12, .int .i64 (rd l1 (ji12))] (by rfl) rfl rfl (by ((simp only [List.map_toArray, List.map_cons, List.map_nil])); (rfl)) ?_
          with_reducible refine (codewrightref05_times.calls k1 a0_0 a0_1 _ _ l0_2 ji12 (rd l1 (ji12)) t724 _ ?side1 ?side2 A15.out).mono ?_
          (case side1 => repeat ((exact (Kd.C_below HR0_2.out HB.out))))
          (case side2 => exact HC0_2.out)
          rintro e w20 ⟨rfl, hb⟩
          refine ⟨_, rfl, ?_⟩
          have n0_ := Aside0.mk (Kd.R_below HO_5.out hb)
          have n1_ := Aside0.mk (blk_below (g := gb719) (o := .cells #[.int .i64 a0_0, .int .i64 a0_1, .slice A0_2 l0_2.length c0_2] 24 (0, 0)) BK719.out hb)
          have n2_ := Aside0.mk (below_step HB.out hb)
          clear HO_5 BK719 HB
          have HO_5 := n0_
          have BK719 := n1_
          have HB := n2_
          clear n0_ n1_ n2_
          ((clear hb))
          have p17 : 0 ≤ (x6_1 : Int) := of_decide_eq_true (by (with_reducible assumption))
          have q17 : (x6_1 : Int) < ((x5_1.length : Int) : Int) := of_decide_eq_true (by (with_reducible assumption))
          obtain ⟨go17, co17, eo17, gb17, gl17, cl17, HG17⟩ := Kd.R_form HO_5.out (by omega)
          ((cases eo17))
          have GB17 := Aside0.mk gb17
          have GG17 := Aside0.mk HG17
          clear gb17 gl17 HG17
          obtain ⟨hx17_0, hf17_0⟩ := Kd.R_celln 0 HO_5.out (x6_1 : Int) p17 q17
          replace p17 := eq_true p17
          replace q17 := eq_true q17
          have HP21 := Kd.R_putn HO_5.out (x6_1 : Int) t724
          rw [← Ny725.out] at HP21
          have HQ21 := Aside0.mk HP21
          clear HP21
          refine hK.out _ _ ⟨(blk_cell BK719.out 0).trans rfl, (blk_cell BK719.out 1).trans rfl, (blk_cell BK719.out 2).trans rfl, ((HB.out.cell (World.block_lt_of_cell? w _ hw723_0)).trans hw723_0)⟩ (fun hHeld => ?_)
          clear hK K
          refine norm_ (a' := ?_) ?_ ?_
          rotate_left
          ·show Act.put _ (some 30) _ = _
           simp only [Act.put, List.setIfInBounds_toArray, List.set_cons_zero, List.set_cons_succ, i64_w, i32_w]
           rfl
          refine pure_ (i := 11) (N := some 31) (v := ?_) (a' := ?_) (bm 13 4095) rfl rfl (any_of HT_.out (by kernel_rfl)) (fun _ _ _ h => h) (Or.inl ⟨by rfl, ?_⟩) ?_ ?_;rotate_left;(intro w';go_simp;with_reducible rfl);rotate_left;(simp only [ps_];rfl)
          refine last_ (i := 12) (N := none) (bm 13 8191) rfl rfl (one_of HT_.out (by kernel_rfl)) (by decide) (fun K hK => ?_)
          refine skip_ (w1 := ?_) (by rfl) rfl ?_ ?_
          rotate_left
          ·go_simp
           rfl
          refine hK.out _ _ ?_
          clear hK K
          refine done_ (done_of HT_.out (by kernel_rfl)) ?_
          (go_wp2)
          go_roundg k1
          case measure => have := HK1.out; omega
          case rel => exact ⟨(y725), (ji12), (by rfl), H', ⟨by have := HK1.out; omega⟩, ⟨HQ21.out⟩, ⟨by (with_reducible repeat (fail)); refine blk_far ?_ (by have h_ := Kd.R_ne HO_5.out BK719.out (by decide); intro e_; exact h_ (by rw [e_]; rfl)) _; (with_reducible repeat (fail)); exact BK719.out⟩, ⟨by repeat ((with_reducible first | (exact HB.out) | (refine below_set ?_ GB17.out)))⟩⟩
         ·rw [if_neg c16] at H
          exact absurd H (by simp)
        ·rw [if_neg c14] at H
         exact absurd H (by simp)
       ·rw [if_neg c13] at H
        exact absurd H (by simp)
      ·rw [if_neg c11] at H
       have c11b0 : decide (x6_1 < (x5_1.length : Int)) = false := decide_eq_false c11
       clear c11
       obtain ⟨t726, A220, H⟩ := Option.bind_eq_some_iff.mp H
       replace H : (some t726) = some r := H
       have A22 := Aside0.mk A220
       clear A220
       obtain rfl := Option.some.inj H
       obtain ⟨Ao23, co23, eo23⟩ := Kd.R_slice HO_5.out
       subst eo23
       have hcz24_0 : wr.cell? ⟨gb719, 0, none⟩ = some (.int .i64 a0_0) := (blk_cell BK719.out 0).trans rfl
       have hcz24_1 : wr.cell? ⟨gb719, 1, none⟩ = some (.int .i64 a0_1) := (blk_cell BK719.out 1).trans rfl
       have hcz24_2 : wr.cell? ⟨gb719, 2, none⟩ = some (.slice A0_2 l0_2.length c0_2) := (blk_cell BK719.out 2).trans rfl
       have hfz24_0 := blk_frozen BK719.out 0
       have hfz24_1 := blk_frozen BK719.out 1
       have hfz24_2 := blk_frozen BK719.out 2
       go_wp2_with (((with_reducible refine gate_callee (f := 32) rfl ?_); refine goesL_ (some 34) rfl rfl Try.func32 (by kernel_rfl) rfl #[.agg #[.int .i64 a0_0, .int .i64 a0_1, .slice A0_2 l0_2.length c0_2], .slice Ao23 x5_1.length co23] rfl (by ((simp only [List.map_toArray, List.map_cons, List.map_nil])); (rfl)) ?_; (with_reducible refine (codewrightref05_Canon.calls k1 a0_0 a0_1 _ _ l0_2 _ _ x5_1 t726 _ ?side1 ?side2 ?side3 ?side4 A22.out).mono ?_); (case side1 => repeat ((exact (Kd.C_below HR0_2.out HB.out)))); (case side2 => exact HC0_2.out); (case side3 => repeat ((exact (Kd.R_reads' HO_5.out).2.2))); (case side4 => exact (Kd.R_reads' HO_5.out).2.1); rintro e w25 ⟨v727, rfl, ho0, hb⟩; refine ⟨_, rfl, ?_⟩; have n0_ := Aside0.mk (Kd.R_elder' HO_5.out (Kd.R_base ho0) hb); have n1_ := Aside0.mk (Kd.R_lower (Kd.R_new' ho0 (Kd.R_lt HO_5.out)) (below_size HB.out)); have n2_ := Aside0.mk (blk_below (g := gb719) (o := .cells #[.int .i64 a0_0, .int .i64 a0_1, .slice A0_2 l0_2.length c0_2] 24 (0, 0)) BK719.out hb); have n3_ := Aside0.mk (below_step HB.out hb); clear HO_5; clear BK719; clear HB; have HO_5 := n0_; have HO728 := n1_; have BK719 := n2_; have HB := n3_; clear n0_ n1_ n2_ n3_; ((clear hb)); (skip); (skip); (skip); ((clear ho0))))
       go_ret
       exact ⟨_, by rfl, by exact Kd.R_mono HO728.out (fun _ hk => trivial), by exact HB.out⟩
   ·rw [if_neg c7] at H
    exact absurd H (by simp)
  ·rw [if_neg c6] at H
   exact absurd H (by simp)
end Go.Proofs.Ytiejggpmjapajaa.PA
end
section
namespace Go.Proofs.Ytiejggpmjapajaa.PA
open Go.RowKit Go.Proofs.YtiejggpmjapajaaW.PrintWords Go.Proofs.YtiejggpmjapajaaW.PrintLast Go.Proofs.YtiejggpmjapajaaW.PrintMore
attribute [local go_sem] max2_int min2_int max_two min_two max_three min_three max_four min_four
set_option linter.unusedVariables false
set_option linter.unusedSimpArgs false
end Go.Proofs.Ytiejggpmjapajaa.PA
end
section
namespace Go.Proofs.Ytiejggpmjapajaa.PA
open Go.RowKit Go.Proofs.YtiejggpmjapajaaW.PrintWords Go.Proofs.YtiejggpmjapajaaW.PrintLast Go.Proofs.YtiejggpmjapajaaW.PrintMore
attribute [local go_sem] max2_int min2_int max_two min_two max_three min_three max_four min_four
set_option linter.unusedVariables false
set_option linter.unusedSimpArgs false
end Go.Proofs.Ytiejggpmjapajaa.PA
end
section
namespace Go.Proofs.Ytiejggpmjapajaa.PA
open Go.RowKit Go.Proofs.YtiejggpmjapajaaW.PrintWords Go.Proofs.YtiejggpmjapajaaW.PrintLast Go.Proofs.YtiejggpmjapajaaW.PrintMore
attribute [local go_sem] max2_int min2_int max_two min_two max_three min_three max_four min_four
set_option linter.unusedVariables false
set_option linter.unusedSimpArgs false
end Go.Proofs.Ytiejggpmjapajaa.PA
end
section
namespace Go.Proofs.Ytiejggpmjapajaa.PA
open Go.RowKit Go.Proofs.YtiejggpmjapajaaW.PrintWords Go.Proofs.YtiejggpmjapajaaW.PrintLast Go.Proofs.YtiejggpmjapajaaW.PrintMore
theorem Ev.succ {α : Type} {g : Nat → Option α} {r : α} (h : Ev (fun k => g (k + 1)) r) : Ev g r := Ev.step (fun _ => rfl) h
theorem Ev.ifp {α : Type} {c : Prop} [Decidable c] {f g : Nat → Option α} {r : α} (h : c) (e : Ev f r) : Ev (fun k => if c then f k else g k) r := by simp only [if_pos h]; exact e
theorem Ev.ifn {α : Type} {c : Prop} [Decidable c] {f g : Nat → Option α} {r : α} (h : ¬ c) (e : Ev g r) : Ev (fun k => if c then f k else g k) r := by simp only [if_neg h]; exact e
theorem Ev.val {α : Type} {a r : α} (h : a = r) : Ev (fun _ => some a) r := h ▸ Ev.now a
theorem Ev.some_bind {α β : Type} {a : α} {f : Nat → α → Option β} {r : β} (h : Ev (fun k => f k a) r) : Ev (fun k => (some a).bind (f k)) r := h
theorem Ev.opt_bind {α β : Type} {o : Option α} {a : α} {f : Nat → α → Option β} {r : β} (h0 : o = some a) (h : Ev (fun k => f k a) r) : Ev (fun k => o.bind (f k)) r := by subst h0; exact h
theorem w64 {n : Int} (h : -4000000000000000000 ≤ n ∧ n ≤ 4000000000000000000) : wrap64 n = n := by unfold wrap64; omega
theorem rd_nat (xs : List Int) (j : Nat) : rd xs (j : Int) = xs.getD j 0 := by unfold rd; rw [Int.toNat_natCast]
theorem rd_set (xs : List Int) (i j : Nat) (v : Int) (h : i < xs.length) : (xs.set i v).getD j 0 = if i = j then v else xs.getD j 0 := by
  rw [List.getD_eq_getElem?_getD, List.getElem?_set]
  split
  · rename_i e; subst e; simp [h]
  · rw [List.getD_eq_getElem?_getD]
theorem tdiv_pos {a b : Int} (h : 0 ≤ a) : Int.tdiv a b = a / b := Int.tdiv_eq_ediv_of_nonneg h
theorem tmod_pos {a b : Int} (h : 0 ≤ a) : Int.tmod a b = a % b := Int.tmod_eq_emod_of_nonneg h
theorem getD_nat_lt (xs : List Int) (j : Nat) (h : xs.length ≤ j) : xs.getD j 0 = 0 := by
  rw [List.getD_eq_getElem?_getD, List.getElem?_eq_none h]; rfl
theorem getD_zeros (n j : Nat) : (List.replicate n (0 : Int)).getD j 0 = 0 := by
  rw [List.getD_eq_getElem?_getD, List.getElem?_replicate]; split <;> rfl
end Go.Proofs.Ytiejggpmjapajaa.PA
end
