/- Proved: for every input the law PolyRoots returns true and leaves its arguments as they were; no conditions. Part 5 of 6 of the proof. -/
import Derived.Test.YtiejggpmjapajaaZPolyRoots3
import Derived.WalkSpells
import Derived.Deep.RegionLaw
import Derived.Deep.RegionHeldLaw
import Derived.Deep.DeepFit
set_option linter.unusedSectionVars false
set_option linter.unusedSimpArgs false
set_option linter.unusedVariables false
section
namespace Go.Proofs.Ytiejggpmjapajaa.PA
open Go.RowKit Go.Proofs.YtiejggpmjapajaaW.PrintWords Go.Proofs.YtiejggpmjapajaaW.PrintLast Go.Proofs.YtiejggpmjapajaaW.PrintMore
attribute [local go_sem] max2_int min2_int max_two min_two max_three min_three max_four min_four
set_option linter.unusedVariables false
set_option linter.unusedSimpArgs false
def codewrightref05_DivMod.l0 : Nat → List Int → List Int → Int → Int → List Int → Int → Int → List Int → Option (List Int × List Int)
 | 0, _, _, _, _, _, _, _, _ => none
 | k + 1, x2, x8, x9, x10, x11, x515000, x515001, x515002 => if (x8.length : Int) > x9 then (if 0 ≤ (wrap64 ((x8.length : Int) - 1)) then (if (wrap64 ((x8.length : Int) - 1)) < (x8.length : Int) then ((codewrightref04_Mul.f k x515000 x515001 x515002 (rd x8 (wrap64 ((x8.length : Int) - 1))) x10).bind fun t530 => (if 0 ≤ (wrap64 ((wrap64 ((x8.length : Int) - 1)) - x9)) then (if (wrap64 ((wrap64 ((x8.length : Int) - 1)) - x9)) < (x11.length : Int) then ((codewrightref05_Scale.f k x515000 x515001 x515002 t530 x2).bind fun t532 => ((codewrightref05_Power.f (wrap64 ((wrap64 ((x8.length : Int) - 1)) - x9))).bind fun t535 => ((codewrightref05_Mul.f k x515000 x515001 x515002 t532 t535).bind fun t538 => ((codewrightref05_Sub.f k x515000 x515001 x515002 x8 t538).bind fun t541 => (codewrightref05_DivMod.l0 k x2 t541 x9 x10 (x11.set ((wrap64 ((wrap64 ((x8.length : Int) - 1)) - x9)) : Int).toNat t530) x515000 x515001 x515002))))) else (none)) else (none))) else (none)) else (none)) else ((codewrightref05_Canon.f k x515000 x515001 x515002 x11).bind fun t526 => (some (t526, x8)))
def codewrightref05_DivMod.f (k : Nat) (a0_0 : Int) (a0_1 : Int) (l0_2 : List Int) (l1 : List Int) (l2 : List Int) : Option (List Int × List Int) := (codewrightref05_Canon.f k a0_0 a0_1 l0_2 l2).bind fun t515 => ((codewrightref05_Canon.f k a0_0 a0_1 l0_2 l1).bind fun t518 => (if 0 ≤ (wrap64 ((t515.length : Int) - 1)) then (if (wrap64 ((t515.length : Int) - 1)) < (t515.length : Int) then ((codewrightref04_Inv.f k a0_0 a0_1 l0_2 (rd t515 (wrap64 ((t515.length : Int) - 1)))).bind fun t522 => (if 0 ≤ (mx (wrap64 ((t518.length : Int) - (wrap64 ((t515.length : Int) - 1)))) 0) then (if (mx (wrap64 ((t518.length : Int) - (wrap64 ((t515.length : Int) - 1)))) 0 : Int).toNat ≤ 35184372088832 then (codewrightref05_DivMod.l0 k t515 t518 (wrap64 ((t515.length : Int) - 1)) t522 (List.replicate (mx (wrap64 ((t518.length : Int) - (wrap64 ((t515.length : Int) - 1)))) 0 : Int).toNat 0) a0_0 a0_1 l0_2) else (none)) else (none))) else (none)) else (none)))
def codewrightref05_DivMod.T8 : Bool × List (List Nat × List Nat) := (true, [([], []), ([], []), ([], []), ([2], [2]), ([3], [3]), ([1, 4], [1, 4]), ([5], [5]), ([], []), ([0, 6, 7], [0, 6, 7]), ([8, 8, 0, 1, 2, 3, 4, 5, 6, 7, 8], [8])])
def codewrightref05_DivMod.B8 : List Nat := [0, 0, 0, 4, 12, 30, 62, 0, 255, 511]
theorem codewrightref05_DivMod.tab8 : rtab .any (opsOf Try.f47 8) = codewrightref05_DivMod.T8 := by kernel_rfl
theorem codewrightref05_DivMod.bits8 : waitsOk codewrightref05_DivMod.T8.2 codewrightref05_DivMod.B8 = true := by kernel_rfl
def codewrightref05_DivMod.T10 : Bool × List (List Nat × List Nat) := (true, [([], []), ([], []), ([], []), ([], []), ([], []), ([], []), ([3, 4, 5], [3, 4, 5]), ([], []), ([7, 6], [7]), ([2, 6, 8, 8], [2, 6, 8]), ([0, 1, 9, 9], [0, 1, 9]), ([10, 10, 0, 1, 2, 3, 4, 5, 6, 7, 8, 9, 10], [1, 10])])
def codewrightref05_DivMod.B10 : List Nat := [0, 0, 0, 0, 0, 0, 56, 0, 248, 508, 1023, 2047]
theorem codewrightref05_DivMod.tab10 : rtab .any (opsOf Try.f47 10) = codewrightref05_DivMod.T10 := by kernel_rfl
theorem codewrightref05_DivMod.bits10 : waitsOk codewrightref05_DivMod.T10.2 codewrightref05_DivMod.B10 = true := by kernel_rfl
set_option maxHeartbeats 8000000 in
set_option maxRecDepth 100000 in
theorem codewrightref05_DivMod.calls (k : Nat) (a0_0 : Int) (a0_1 : Int) (A0_2 : Option Addr) (c0_2 : Nat) (l0_2 : List Int) (A1 : Option Addr) (c1 : Nat) (l1 : List Int) (A2 : Option Addr) (c2 : Nat) (l2 : List Int) (r1 : List Int) (r2 : List Int) (w : World) (hr0_2 : Kd.C (Kd.int .i64) w A0_2 l0_2.length l0_2) (hc0_2 : l0_2.length ≤ c0_2) (hr1 : Kd.C (Kd.int .i64) w A1 l1.length l1) (hc1 : l1.length ≤ c1) (hr2 : Kd.C (Kd.int .i64) w A2 l2.length l2) (hc2 : l2.length ≤ c2) (h : codewrightref05_DivMod.f k a0_0 a0_1 l0_2 l1 l2 = some (r1, r2)) :
  Calls Try.prog 47 #[.agg #[.int .i64 a0_0, .int .i64 a0_1, .slice A0_2 l0_2.length c0_2], .slice A1 l1.length c1, .slice A2 l2.length c2] w fun e w' => ∃ v0_ v1_ : Value, e = .returned (.tuple #[v0_, v1_]) ∧ Kd.R (Kd.int .i64) 3 w' w.heap.size (fun k_ => some k_ ≠ (v1_ : Value).ownBlock) v0_ r1 ∧ Kd.R (Kd.int .i64) 3 w' w.heap.size (fun k_ => some k_ ≠ (v0_ : Value).ownBlock) v1_ r2 ∧ Below w.heap.size w w' := by
 have hu24 := Try.underlying24
 have HR0_2 := Aside0.mk hr0_2
 have HC0_2 := Aside0.mk hc0_2
 clear hr0_2 hc0_2
 have HR1 := Aside0.mk hr1
 have HC1 := Aside0.mk hc1
 clear hr1 hc1
 have HR2 := Aside0.mk hr2
 have HC2 := Aside0.mk hc2
 clear hr2 hc2
 have HB := Aside0.mk (Below.refl w.heap.size w)
 have H : ((codewrightref05_Canon.f k a0_0 a0_1 l0_2 l2).bind fun t515 => ((codewrightref05_Canon.f k a0_0 a0_1 l0_2 l1).bind fun t518 => (if 0 ≤ (wrap64 ((t515.length : Int) - 1)) then (if (wrap64 ((t515.length : Int) - 1)) < (t515.length : Int) then ((codewrightref04_Inv.f k a0_0 a0_1 l0_2 (rd t515 (wrap64 ((t515.length : Int) - 1)))).bind fun t522 => (if 0 ≤ (mx (wrap64 ((t518.length : Int) - (wrap64 ((t515.length : Int) - 1)))) 0) then (if (mx (wrap64 ((t518.length : Int) - (wrap64 ((t515.length : Int) - 1)))) 0 : Int).toNat ≤ 35184372088832 then (codewrightref05_DivMod.l0 k t515 t518 (wrap64 ((t515.length : Int) - 1)) t522 (List.replicate (mx (wrap64 ((t518.length : Int) - (wrap64 ((t515.length : Int) - 1)))) 0 : Int).toNat 0) a0_0 a0_1 l0_2) else (none)) else (none))) else (none)) else (none)))) = some (r1, r2) := h
 clear h
 obtain ⟨t515, A40, H⟩ := Option.bind_eq_some_iff.mp H
 replace H : ((codewrightref05_Canon.f k a0_0 a0_1 l0_2 l1).bind fun t518 => (if 0 ≤ (wrap64 ((t515.length : Int) - 1)) then (if (wrap64 ((t515.length : Int) - 1)) < (t515.length : Int) then ((codewrightref04_Inv.f k a0_0 a0_1 l0_2 (rd t515 (wrap64 ((t515.length : Int) - 1)))).bind fun t522 => (if 0 ≤ (mx (wrap64 ((t518.length : Int) - (wrap64 ((t515.length : Int) - 1)))) 0) then (if (mx (wrap64 ((t518.length : Int) - (wrap64 ((t515.length : Int) - 1)))) 0 : Int).toNat ≤ 35184372088832 then (codewrightref05_DivMod.l0 k t515 t518 (wrap64 ((t515.length : Int) - 1)) t522 (List.replicate (mx (wrap64 ((t518.length : Int) - (wrap64 ((t515.length : Int) - 1)))) 0 : Int).toNat 0) a0_0 a0_1 l0_2) else (none)) else (none))) else (none)) else (none))) = some (r1, r2) := H
 have A4 := Aside0.mk A40
 clear A40
 obtain ⟨t518, A50, H⟩ := Option.bind_eq_some_iff.mp H
 replace H : (if 0 ≤ (wrap64 ((t515.length : Int) - 1)) then (if (wrap64 ((t515.length : Int) - 1)) < (t515.length : Int) then ((codewrightref04_Inv.f k a0_0 a0_1 l0_2 (rd t515 (wrap64 ((t515.length : Int) - 1)))).bind fun t522 => (if 0 ≤ (mx (wrap64 ((t518.length : Int) - (wrap64 ((t515.length : Int) - 1)))) 0) then (if (mx (wrap64 ((t518.length : Int) - (wrap64 ((t515.length : Int) - 1)))) 0 : Int).toNat ≤ 35184372088832 then (codewrightref05_DivMod.l0 k t515 t518 (wrap64 ((t515.length : Int) - 1)) t522 (List.replicate (mx (wrap64 ((t518.length : Int) - (wrap64 ((t515.length : Int) - 1)))) 0 : Int).toNat 0) a0_0 a0_1 l0_2) else (none)) else (none))) else (none)) else (none)) = some (r1, r2) := H
 have A5 := Aside0.mk A50
 clear A50
 obtain ⟨ji6, hji6⟩ : ∃ j_ : Int, (wrap64 ((t515.length : Int) - 1)) = j_ := ⟨_, rfl⟩
 replace H : (if 0 ≤ (ji6) then (if (ji6) < (t515.length : Int) then ((codewrightref04_Inv.f k a0_0 a0_1 l0_2 (rd t515 (ji6))).bind fun t522 => (if 0 ≤ (mx (wrap64 ((t518.length : Int) - (ji6))) 0) then (if (mx (wrap64 ((t518.length : Int) - (ji6))) 0 : Int).toNat ≤ 35184372088832 then (codewrightref05_DivMod.l0 k t515 t518 ji6 t522 (List.replicate (mx (wrap64 ((t518.length : Int) - (ji6))) 0 : Int).toNat 0) a0_0 a0_1 l0_2) else (none)) else (none))) else (none)) else (none)) = some (r1, r2) := by (rw [hji6] at H; exact H)
 have hji6w : (IntKind.i64.wrap ((t515.length : Int) - 1)) = ji6 := (i64_w _).trans hji6
 by_cases c7 : 0 ≤ (ji6)
 ·rw [if_pos c7] at H
  have c7b0 : decide (0 ≤ (ji6)) = true := decide_eq_true c7
  clear c7
  by_cases c8 : (ji6) < (t515.length : Int)
  ·rw [if_pos c8] at H
   have c8b0 : decide ((ji6) < (t515.length : Int)) = true := decide_eq_true c8
   clear c8
   obtain ⟨t522, A90, H⟩ := Option.bind_eq_some_iff.mp H
   replace H : (if 0 ≤ (mx (wrap64 ((t518.length : Int) - (ji6))) 0) then (if (mx (wrap64 ((t518.length : Int) - (ji6))) 0 : Int).toNat ≤ 35184372088832 then (codewrightref05_DivMod.l0 k t515 t518 ji6 t522 (List.replicate (mx (wrap64 ((t518.length : Int) - (ji6))) 0 : Int).toNat 0) a0_0 a0_1 l0_2) else (none)) else (none)) = some (r1, r2) := H
   have A9 := Aside0.mk A90
   clear A90
   obtain ⟨ji10, hji10⟩ : ∃ j_ : Int, (mx (wrap64 ((t518.length : Int) - (ji6))) 0) = j_ := ⟨_, rfl⟩
   replace H : (if 0 ≤ (ji10) then (if (ji10 : Int).toNat ≤ 35184372088832 then (codewrightref05_DivMod.l0 k t515 t518 ji6 t522 (List.replicate (ji10 : Int).toNat 0) a0_0 a0_1 l0_2) else (none)) else (none)) = some (r1, r2) := by (rw [hji10] at H; exact H)
   have hji10_ : (if (wrap64 ((t518.length : Int) - (ji6))) < 0 then 0 else (wrap64 ((t518.length : Int) - (ji6)))) = ji10 := hji10
   by_cases c11 : 0 ≤ (ji10)
   ·rw [if_pos c11] at H
    have c11b0 := eq_true c11
    have c11b1 : decide (0 ≤ (ji10)) = true := decide_eq_true c11
    clear c11
    by_cases c12 : (ji10 : Int).toNat ≤ 35184372088832
    ·rw [if_pos c12] at H
     have c12b0 := eq_true c12
     have c12b1 : decide ((ji10 : Int).toNat ≤ 35184372088832) = true := decide_eq_true c12
     clear c12
     obtain ⟨y523, hy523⟩ : ∃ y_ : List Int, y_ = (List.replicate (ji10 : Int).toNat 0) := ⟨_, rfl⟩
     replace H : (codewrightref05_DivMod.l0 k t515 t518 ji6 t522 y523 a0_0 a0_1 l0_2) = some (r1, r2) := by (rw [hy523]; with_reducible exact H)
     have Ny523 := Aside0.mk hy523
     clear hy523
     have H' := Aside0.mk H
     clear H
     go_enter Try.func47, Try.ntmps47
     (go_wp2_with (first | ((with_reducible refine gate_dst (N := 3) rfl ?_); refine box_event ?hg (N := 3) ?hd (cs := #[.int .i64 a0_0, .int .i64 a0_1, .slice A0_2 l0_2.length c0_2]) (t := 24) ?hr ?_; (case hd => rfl); (case hg => rfl); (case hr => (go_simp; done)); intro gb514 hg w13 hbox hb; have n0_ := Aside0.mk (below_step HB.out hb); have n1_ := Aside0.mk (hbox); have n2_ := Aside0.mk ((by rw [hg]; exact (below_size HB.out) : w.heap.size ≤ gb514)); have n3_ := Aside0.mk ((by rw [hg]; exact (below_size HB.out) : w.heap.size ≤ gb514)); clear HB; have HB := n0_; have BK514 := n1_; have GW514 := n2_; have GE514 := n3_; clear n0_ n1_ n2_ n3_; clear hb hbox hg; have hcz14_0 : w13.cell? ⟨gb514, 0, none⟩ = some (.int .i64 a0_0) := (blk_cell BK514.out 0).trans rfl; have hcz14_1 : w13.cell? ⟨gb514, 1, none⟩ = some (.int .i64 a0_1) := (blk_cell BK514.out 1).trans rfl; have hcz14_2 : w13.cell? ⟨gb514, 2, none⟩ = some (.slice A0_2 l0_2.length c0_2) := (blk_cell BK514.out 2).trans rfl; have hfz14_0 := blk_frozen BK514.out 0; have hfz14_1 := blk_frozen BK514.out 1; have hfz14_2 := blk_frozen BK514.out 2) | ((with_reducible refine gate_callee (f := 32) rfl ?_); refine goesL_ (some 16) rfl rfl Try.func32 (by kernel_rfl) rfl #[.agg #[.int .i64 a0_0, .int .i64 a0_1, .slice A0_2 l0_2.length c0_2], .slice A2 l2.length c2] rfl (by ((simp only [List.map_toArray, List.map_cons, List.map_nil])); (rfl)) ?_; (with_reducible refine (codewrightref05_Canon.calls k a0_0 a0_1 _ _ l0_2 _ _ l2 t515 _ ?side1 ?side2 ?side3 ?side4 A4.out).mono ?_); (case side1 => repeat ((exact (Kd.C_below HR0_2.out HB.out)))); (case side2 => exact HC0_2.out); (case side3 => repeat ((exact (Kd.C_below HR2.out HB.out)))); (case side4 => exact HC2.out); rintro e w15 ⟨v516, rfl, ho0, hb⟩; refine ⟨_, rfl, ?_⟩; have n0_ := Aside0.mk (Kd.R_lower ho0 (below_size HB.out)); have n1_ := Aside0.mk (blk_below (g := gb514) (o := .cells #[.int .i64 a0_0, .int .i64 a0_1, .slice A0_2 l0_2.length c0_2] 24 (0, 0)) BK514.out hb); have n2_ := Aside0.mk (below_step HB.out hb); clear BK514; clear HB; have HO517 := n0_; have BK514 := n1_; have HB := n2_; clear n0_ n1_ n2_; ((clear hb)); (skip); (skip); (skip); ((clear ho0)); have hcz16_0 : w15.cell? ⟨gb514, 0, none⟩ = some (.int .i64 a0_0) := (blk_cell BK514.out 0).trans rfl; have hcz16_1 : w15.cell? ⟨gb514, 1, none⟩ = some (.int .i64 a0_1) := (blk_cell BK514.out 1).trans rfl; have hcz16_2 : w15.cell? ⟨gb514, 2, none⟩ = some (.slice A0_2 l0_2.length c0_2) := (blk_cell BK514.out 2).trans rfl; have hfz16_0 := blk_frozen BK514.out 0; have hfz16_1 := blk_frozen BK514.out 1; have hfz16_2 := blk_frozen BK514.out 2) | ((with_reducible refine gate_callee (f := 32) rfl ?_); refine goesL_ (some 19) rfl rfl Try.func32 (by kernel_rfl) rfl #[.agg #[.int .i64 a0_0, .int .i64 a0_1, .slice A0_2 l0_2.length c0_2], .slice A1 l1.length c1] rfl (by ((simp only [List.map_toArray, List.map_cons, List.map_nil])); (rfl)) ?_; (with_reducible refine (codewrightref05_Canon.calls k a0_0 a0_1 _ _ l0_2 _ _ l1 t518 _ ?side1 ?side2 ?side3 ?side4 A5.out).mono ?_); (case side1 => repeat ((exact (Kd.C_below HR0_2.out HB.out)))); (case side2 => exact HC0_2.out); (case side3 => repeat ((exact (Kd.C_below HR1.out HB.out)))); (case side4 => exact HC1.out); rintro e w17 ⟨v519, rfl, ho0, hb⟩; refine ⟨_, rfl, ?_⟩; have n0_ := Aside0.mk (Kd.R_elder' HO517.out (Kd.R_base ho0) hb); have n1_ := Aside0.mk (Kd.R_lower (Kd.R_new' ho0 (Kd.R_lt HO517.out)) (below_size HB.out)); have n2_ := Aside0.mk (blk_below (g := gb514) (o := .cells #[.int .i64 a0_0, .int .i64 a0_1, .slice A0_2 l0_2.length c0_2] 24 (0, 0)) BK514.out hb); have n3_ := Aside0.mk (below_step HB.out hb); clear HO517; clear BK514; clear HB; have HO517 := n0_; have HO520 := n1_; have BK514 := n2_; have HB := n3_; clear n0_ n1_ n2_ n3_; ((clear hb)); (skip); (skip); (skip); ((clear ho0)); obtain ⟨Ao18, co18, eo18⟩ := Kd.R_slice HO517.out; subst eo18)))
     have n0_ := Aside0.mk (Kd.R_drew HO517.out)
     have n1_ := Aside0.mk (Kd.R_drew HO520.out)
     have n2_ := Aside0.mk (blk_drew BK514.out)
     have n3_ := Aside0.mk (below_drew1 HB.out)
     clear HO517 HO520 BK514 HB
     have HO517 := n0_
     have HO520 := n1_
     have BK514 := n2_
     have HB := n3_
     clear n0_ n1_ n2_ n3_
     have p521 : 0 ≤ ((ji6) : Int) := of_decide_eq_true (by (with_reducible assumption))
     have q521 : (ji6) < (t515.length : Int) := of_decide_eq_true (by (with_reducible assumption))
     obtain ⟨ad521, e521, hx521_0⟩ := Kd.at_int (Kd.R_reads' HO517.out).2.2 (ji6) p521 q521
     cases e521
     replace p521 := eq_true p521
     replace q521 := eq_true q521
     refine start_ (n := 7) (S := fun w' => w'.cell? ⟨gb514, 0, none⟩ = some (.int .i64 a0_0) ∧ w'.cell? ⟨gb514, 1, none⟩ = some (.int .i64 a0_1) ∧ w'.cell? ⟨gb514, 2, none⟩ = some (.slice A0_2 l0_2.length c0_2) ∧ w'.cell? (ad521.add ((ji6)).toNat) = some (.int .i64 (rd t515 (ji6)))) (ds := []) (bm 7 0) (by kernel_rfl) rfl rfl ⟨(blk_cell BK514.out 0).trans rfl, (blk_cell BK514.out 1).trans rfl, (blk_cell BK514.out 2).trans rfl, hx521_0⟩ (fun hHeld => ?_)
     generalize w17.drew = w19 at HO517 HO520 BK514 HB hx521_0 hHeld ⊢
     refine pure_ (i := 1) (N := some 24) (v := ?_) (a' := ?_) (bm 7 2) rfl rfl (by kernel_rfl) (fun _ _ _ h => h) (Or.inl ⟨by rfl, ?_⟩) ?_ ?_;rotate_left;(intro w';go_simp;with_reducible rfl);rotate_left;(simp only [ps_];rfl)
     refine pure_ (i := 2) (N := some 25) (v := ?_) (a' := ?_) (bm 7 6) rfl rfl (by kernel_rfl) (fun _ _ _ h => h) (Or.inl ⟨by rfl, ?_⟩) ?_ ?_;rotate_left;(intro w';go_simp;with_reducible rfl);rotate_left;(simp only [ps_];rfl)
     refine pure_ (i := 3) (N := some 26) (v := ?_) (a' := ?_) (bm 7 14) rfl rfl (by kernel_rfl) (fun _ _ _ h => h) (Or.inl ⟨by rfl, ?_⟩) ?_ ?_;rotate_left;(intro w';go_simp;with_reducible rfl);rotate_left;(simp only [ps_];rfl)
     refine take_ (i := 0) (N := some 23) (v := ?_) (a' := ?_) (bm 7 15) rfl rfl (by kernel_rfl) (fun _ _ _ h => h) (Or.inl ⟨by rfl, ?_⟩) hHeld ?_ ?_;rotate_left;(rintro w' ⟨s0, s1, s2, s3⟩;go_simp;with_reducible rfl);rotate_left;(simp only [ps_];rfl)
     refine take_ (i := 4) (N := some 27) (v := ?_) (a' := ?_) (bm 7 31) rfl rfl (by kernel_rfl) (fun _ _ _ h => h) (Or.inl ⟨by rfl, ?_⟩) hHeld ?_ ?_;rotate_left;(rintro w' ⟨s0, s1, s2, s3⟩;go_simp;with_reducible rfl);rotate_left;(simp only [ps_];rfl)
     refine one_ (i := 5) (N := some 28) (bm 7 63) rfl rfl (by kernel_rfl) (by decide) (fun K hK => ?_)
     refine goes_ Try.func46 (by kernel_rfl) rfl #[.agg #[.int .i64 a0_0, .int .i64 a0_1, .slice A0_2 l0_2.length c0_2], .int .i64 (rd t515 (ji6))] (by rfl) rfl rfl (by ((simp only [List.map_toArray, List.map_cons, List.map_nil])); (rfl)) ?_
     with_reducible refine (codewrightref04_Inv.calls k a0_0 a0_1 _ _ l0_2 (rd t515 (ji6)) t522 _ ?side1 ?side2 A9.out).mono ?_
     (case side1 => repeat ((exact (Kd.C_below HR0_2.out HB.out))))
     (case side2 => exact HC0_2.out)
     rintro e w20 ⟨rfl, hb⟩
     have HS3_ := (hb.cell (World.block_lt_of_cell? _ _ (hHeld.2.2.2))).trans (hHeld.2.2.2)
     refine ⟨_, rfl, ?_⟩
     have n0_ := Aside0.mk (Kd.R_below HO517.out hb)
     have n1_ := Aside0.mk (Kd.R_below HO520.out hb)
     have n2_ := Aside0.mk (blk_below (g := gb514) (o := .cells #[.int .i64 a0_0, .int .i64 a0_1, .slice A0_2 l0_2.length c0_2] 24 (0, 0)) BK514.out hb)
     have n3_ := Aside0.mk (below_step HB.out hb)
     clear HO517 HO520 BK514 HB
     have HO517 := n0_
     have HO520 := n1_
     have BK514 := n2_
     have HB := n3_
     clear n0_ n1_ n2_ n3_
     ((clear hb))
     refine hK.out _ _ ⟨(blk_cell BK514.out 0).trans rfl, (blk_cell BK514.out 1).trans rfl, (blk_cell BK514.out 2).trans rfl, HS3_⟩ (fun hHeld => ?_)
     clear hK K
     refine norm_ (a' := ?_) ?_ ?_
     rotate_left
     ·show Act.put _ (some 28) _ = _
      simp only [Act.put, List.setIfInBounds_toArray, List.set_cons_zero, List.set_cons_succ, i64_w, i32_w]
      rfl
     refine pure_ (i := 6) (N := some 10) (v := ?_) (a' := ?_) (bm 7 127) rfl rfl (by kernel_rfl) (fun _ _ _ h => h) (Or.inl ⟨by rfl, ?_⟩) ?_ ?_;rotate_left;(intro w';go_simp;with_reducible rfl);rotate_left;(simp only [ps_];rfl)
     refine done_ (by kernel_rfl) ?_
     obtain ⟨Ao21, co21, eo21⟩ := Kd.R_slice HO520.out
     subst eo21
     (go_wp2_with (((with_reducible refine gate_dst (N := 34) rfl ?_); refine Kd.R_make (Kd.int .i64) _ 3 rfl (N := 34) rfl 22 _ _ rfl ji10 rfl rfl Try.underlying22 (.int .i64 0) 8 info3 rfl (by decide) (by omega) 0 (ok := fun _ => True) (okp := fun _ => True) rfl (fun _ hk => hk) trivial (of_decide_eq_true (by (with_reducible assumption))) (Nat.le_trans (Nat.mul_le_mul_right _ (of_decide_eq_true (by (with_reducible assumption)) : ji10.toNat ≤ 35184372088832)) (by omega)) (Below.refl _ _) (Nat.le_refl _) ?_; intro v524 w22 ho23 hb hg_ hnew_; clear hg_ hnew_; ((rw [← Ny523.out] at ho23)); have n0_ := Aside0.mk (Kd.R_elder' HO517.out (Kd.R_base ho23) hb); have n1_ := Aside0.mk (Kd.R_elder' HO520.out (Kd.R_base ho23) hb); have n2_ := Aside0.mk (Kd.R_lower (Kd.R_new' (Kd.R_new' ho23 (Kd.R_lt HO517.out)) (Kd.R_lt HO520.out)) (below_size HB.out)); have n3_ := Aside0.mk (blk_below (g := gb514) (o := .cells #[.int .i64 a0_0, .int .i64 a0_1, .slice A0_2 l0_2.length c0_2] 24 (0, 0)) BK514.out hb); have n4_ := Aside0.mk (below_step HB.out hb); clear HO517; clear HO520; clear BK514; clear HB; have HO517 := n0_; have HO520 := n1_; have HO525 := n2_; have BK514 := n3_; have HB := n4_; clear n0_ n1_ n2_ n3_ n4_; clear hb ho23)))
     go_loopg [8] k (fun kq v8 w' => ∃ (x8_1 : List Int) (x11_1 : List Int), Aside0 (codewrightref05_DivMod.l0 kq t515 x8_1 ji6 t522 x11_1 a0_0 a0_1 l0_2 = some (r1, r2)) ∧ Aside0 (kq ≤ k) ∧ Aside0 (Kd.R (Kd.int .i64) 3 w' w.heap.size (fun k_ => some k_ ≠ (v8 : Value).ownBlock ∧ some k_ ≠ (v524 : Value).ownBlock) (.slice (some ad521) t515.length co18) t515) ∧ Aside0 (Kd.R (Kd.int .i64) 3 w' w.heap.size (fun k_ => some k_ ≠ ((.slice (some ad521) t515.length co18) : Value).ownBlock ∧ some k_ ≠ (v524 : Value).ownBlock) v8 x8_1) ∧ Aside0 (Kd.R (Kd.int .i64) 3 w' w.heap.size (fun k_ => some k_ ≠ ((.slice (some ad521) t515.length co18) : Value).ownBlock ∧ some k_ ≠ (v8 : Value).ownBlock) v524 x11_1) ∧ Aside0 (w'.heap[gb514]? = some (.cells #[.int .i64 a0_0, .int .i64 a0_1, (.slice A0_2 l0_2.length c0_2)] 24 (0, 0))) ∧ Aside0 (Below w.heap.size w w'))
     case atStart => exact ⟨(t518), (y523), H', ⟨Nat.le_refl _⟩, ⟨by exact Kd.R_mono HO517.out (fun _ hk => ⟨hk.1.2, hk.2⟩)⟩, ⟨by exact Kd.R_mono HO520.out (fun _ hk => ⟨hk.1.2, hk.2⟩)⟩, ⟨by exact Kd.R_mono HO525.out (fun _ hk => ⟨hk.1.2, hk.2⟩)⟩, ⟨BK514.out⟩, ⟨by exact HB.out⟩⟩
     case round =>
      clear H' c7b0 c8b0 c11b0 c11b1 c12b0 c12b1 hcz14_0 hcz14_1 hcz14_2 hcz16_0 hcz16_1 hcz16_2 hfz14_0 hfz14_1 hfz14_2 hfz16_0 hfz16_1 hfz16_2 hx521_0 p521 q521
      obtain ⟨x8_1, x11_1, HA, HK1, HO_2, HO_8, HO_11, BK514, HB⟩ := hrel
      cases gk with
      | zero => exact absurd HA.out (by simp [codewrightref05_DivMod.l0])
      | succ k1 =>
       have H := HA.out
       clear HA
       simp only [codewrightref05_DivMod.l0] at H
       by_cases c24 : (x8_1.length : Int) > ji6
       ·rw [if_pos c24] at H
        have c24b0 : decide (ji6 < (x8_1.length : Int)) = true := decide_eq_true c24
        clear c24
        obtain ⟨ji25, hji25⟩ : ∃ j_ : Int, (wrap64 ((x8_1.length : Int) - 1)) = j_ := ⟨_, rfl⟩
        replace H : (if 0 ≤ (ji25) then (if (ji25) < (x8_1.length : Int) then ((codewrightref04_Mul.f k1 a0_0 a0_1 l0_2 (rd x8_1 (ji25)) t522).bind fun t530 => (if 0 ≤ (wrap64 ((ji25) - ji6)) then (if (wrap64 ((ji25) - ji6)) < (x11_1.length : Int) then ((codewrightref05_Scale.f k1 a0_0 a0_1 l0_2 t530 t515).bind fun t532 => ((codewrightref05_Power.f (wrap64 ((ji25) - ji6))).bind fun t535 => ((codewrightref05_Mul.f k1 a0_0 a0_1 l0_2 t532 t535).bind fun t538 => ((codewrightref05_Sub.f k1 a0_0 a0_1 l0_2 x8_1 t538).bind fun t541 => (codewrightref05_DivMod.l0 k1 t515 t541 ji6 t522 (x11_1.set ((wrap64 ((ji25) - ji6)) : Int).toNat t530) a0_0 a0_1 l0_2))))) else (none)) else (none))) else (none)) else (none)) = some (r1, r2) := by (rw [hji25] at H; exact H)
        have hji25w : (IntKind.i64.wrap ((x8_1.length : Int) - 1)) = ji25 := (i64_w _).trans hji25
        by_cases c26 : 0 ≤ (ji25)
        ·rw [if_pos c26] at H
         have c26b0 : decide (0 ≤ (ji25)) = true := decide_eq_true c26
         clear c26
         by_cases c27 : (ji25) < (x8_1.length : Int)
         ·rw [if_pos c27] at H
          have c27b0 : decide ((ji25) < (x8_1.length : Int)) = true := decide_eq_true c27
          clear c27
          obtain ⟨t530, A280, H⟩ := Option.bind_eq_some_iff.mp H
          replace H : (if 0 ≤ (wrap64 ((ji25) - ji6)) then (if (wrap64 ((ji25) - ji6)) < (x11_1.length : Int) then ((codewrightref05_Scale.f k1 a0_0 a0_1 l0_2 t530 t515).bind fun t532 => ((codewrightref05_Power.f (wrap64 ((ji25) - ji6))).bind fun t535 => ((codewrightref05_Mul.f k1 a0_0 a0_1 l0_2 t532 t535).bind fun t538 => ((codewrightref05_Sub.f k1 a0_0 a0_1 l0_2 x8_1 t538).bind fun t541 => (codewrightref05_DivMod.l0 k1 t515 t541 ji6 t522 (x11_1.set ((wrap64 ((ji25) - ji6)) : Int).toNat t530) a0_0 a0_1 l0_2))))) else (none)) else (none)) = some (r1, r2) := H
          have A28 := Aside0.mk A280
          clear A280
          obtain ⟨ji29, hji29⟩ : ∃ j_ : Int, (wrap64 ((ji25) - ji6)) = j_ := ⟨_, rfl⟩
          replace H : (if 0 ≤ (ji29) then (if (ji29) < (x11_1.length : Int) then ((codewrightref05_Scale.f k1 a0_0 a0_1 l0_2 t530 t515).bind fun t532 => ((codewrightref05_Power.f (ji29)).bind fun t535 => ((codewrightref05_Mul.f k1 a0_0 a0_1 l0_2 t532 t535).bind fun t538 => ((codewrightref05_Sub.f k1 a0_0 a0_1 l0_2 x8_1 t538).bind fun t541 => (codewrightref05_DivMod.l0 k1 t515 t541 ji6 t522 (x11_1.set ((ji29) : Int).toNat t530) a0_0 a0_1 l0_2))))) else (none)) else (none)) = some (r1, r2) := by (rw [hji29] at H; exact H)
          have hji29w : (IntKind.i64.wrap ((ji25) - ji6)) = ji29 := (i64_w _).trans hji29
          by_cases c30 : 0 ≤ (ji29)
          ·rw [if_pos c30] at H
           have c30b0 : decide (0 ≤ (ji29)) = true := decide_eq_true c30
           clear c30
           by_cases c31 : (ji29) < (x11_1.length : Int)
           ·rw [if_pos c31] at H
            have c31b0 : decide ((ji29) < (x11_1.length : Int)) = true := decide_eq_true c31
            clear c31
            obtain ⟨y531, hy531⟩ : ∃ y_ : List Int, y_ = (x11_1.set ((ji29) : Int).toNat t530) := ⟨_, rfl⟩
            replace H : ((codewrightref05_Scale.f k1 a0_0 a0_1 l0_2 t530 t515).bind fun t532 => ((codewrightref05_Power.f (ji29)).bind fun t535 => ((codewrightref05_Mul.f k1 a0_0 a0_1 l0_2 t532 t535).bind fun t538 => ((codewrightref05_Sub.f k1 a0_0 a0_1 l0_2 x8_1 t538).bind fun t541 => (codewrightref05_DivMod.l0 k1 t515 t541 ji6 t522 y531 a0_0 a0_1 l0_2))))) = some (r1, r2) := by (rw [hy531]; with_reducible exact H)
            have Ny531 := Aside0.mk hy531
            clear hy531
            obtain ⟨t532, A330, H⟩ := Option.bind_eq_some_iff.mp H
            replace H : ((codewrightref05_Power.f (ji29)).bind fun t535 => ((codewrightref05_Mul.f k1 a0_0 a0_1 l0_2 t532 t535).bind fun t538 => ((codewrightref05_Sub.f k1 a0_0 a0_1 l0_2 x8_1 t538).bind fun t541 => (codewrightref05_DivMod.l0 k1 t515 t541 ji6 t522 y531 a0_0 a0_1 l0_2)))) = some (r1, r2) := H
            have A33 := Aside0.mk A330
            clear A330
            obtain ⟨t535, A340, H⟩ := Option.bind_eq_some_iff.mp H
            replace H : ((codewrightref05_Mul.f k1 a0_0 a0_1 l0_2 t532 t535).bind fun t538 => ((codewrightref05_Sub.f k1 a0_0 a0_1 l0_2 x8_1 t538).bind fun t541 => (codewrightref05_DivMod.l0 k1 t515 t541 ji6 t522 y531 a0_0 a0_1 l0_2))) = some (r1, r2) := H
            have A34 := Aside0.mk A340
            clear A340
            obtain ⟨t538, A350, H⟩ := Option.bind_eq_some_iff.mp H
            replace H : ((codewrightref05_Sub.f k1 a0_0 a0_1 l0_2 x8_1 t538).bind fun t541 => (codewrightref05_DivMod.l0 k1 t515 t541 ji6 t522 y531 a0_0 a0_1 l0_2)) = some (r1, r2) := H
            have A35 := Aside0.mk A350
            clear A350
            obtain ⟨t541, A360, H⟩ := Option.bind_eq_some_iff.mp H
            replace H : (codewrightref05_DivMod.l0 k1 t515 t541 ji6 t522 y531 a0_0 a0_1 l0_2) = some (r1, r2) := H
            have A36 := Aside0.mk A360
            clear A360
            have H' := Aside0.mk H
            clear H
            obtain ⟨Ao37, co37, eo37⟩ := Kd.R_slice HO_8.out
            subst eo37
            (go_wp2)
            have n0_ := Aside0.mk (Kd.R_drew HO_2.out)
            have n1_ := Aside0.mk (Kd.R_drew HO_8.out)
            have n2_ := Aside0.mk (Kd.R_drew HO_11.out)
            have n3_ := Aside0.mk (blk_drew BK514.out)
            have n4_ := Aside0.mk (below_drew1 HB.out)
            clear HO_2 HO_8 HO_11 BK514 HB
            have HO_2 := n0_
            have HO_8 := n1_
            have HO_11 := n2_
            have BK514 := n3_
            have HB := n4_
            clear n0_ n1_ n2_ n3_ n4_
            have p529 : 0 ≤ ((ji25) : Int) := of_decide_eq_true (by (with_reducible assumption))
            have q529 : (ji25) < (x8_1.length : Int) := of_decide_eq_true (by (with_reducible assumption))
            obtain ⟨ad529, e529, hx529_0⟩ := Kd.at_int (Kd.R_reads' HO_8.out).2.2 (ji25) p529 q529
            cases e529
            replace p529 := eq_true p529
            replace q529 := eq_true q529
            refine start_ (n := 10) (S := fun w' => w'.cell? ⟨gb514, 0, none⟩ = some (.int .i64 a0_0) ∧ w'.cell? ⟨gb514, 1, none⟩ = some (.int .i64 a0_1) ∧ w'.cell? ⟨gb514, 2, none⟩ = some (.slice A0_2 l0_2.length c0_2) ∧ w'.cell? (ad529.add ((ji25)).toNat) = some (.int .i64 (rd x8_1 (ji25)))) (ds := []) (bm 10 0) (by kernel_rfl) rfl rfl ⟨(blk_cell BK514.out 0).trans rfl, (blk_cell BK514.out 1).trans rfl, (blk_cell BK514.out 2).trans rfl, hx529_0⟩ (fun hHeld => ?_); refine with_tabW codewrightref05_DivMod.tab8 codewrightref05_DivMod.bits8 (fun HT_ HW_ => ?_)
            generalize wr.drew = w38 at HO_2 HO_8 HO_11 BK514 HB hx529_0 hHeld ⊢
            refine pure_ (i := 1) (N := some 45) (v := ?_) (a' := ?_) (bm 10 2) rfl rfl (any_of HT_.out (by kernel_rfl)) (fun _ _ _ h => h) (Or.inl ⟨by rfl, ?_⟩) ?_ ?_;rotate_left;(intro w';go_simp;with_reducible rfl);rotate_left;(simp only [ps_];rfl)
            refine pure_ (i := 2) (N := some 46) (v := ?_) (a' := ?_) (bm 10 6) rfl rfl (any_of HT_.out (by kernel_rfl)) (fun _ _ _ h => h) (Or.inl ⟨by rfl, ?_⟩) ?_ ?_;rotate_left;(intro w';go_simp;with_reducible rfl);rotate_left;(simp only [ps_];rfl)
            refine pure_ (i := 3) (N := some 47) (v := ?_) (a' := ?_) (bm 10 14) rfl rfl (any_of HT_.out (by kernel_rfl)) (fun _ _ _ h => h) (Or.inl ⟨by rfl, ?_⟩) ?_ ?_;rotate_left;(intro w';go_simp;with_reducible rfl);rotate_left;(simp only [ps_];rfl)
            refine pure_ (i := 4) (N := some 48) (v := ?_) (a' := ?_) (bm 10 30) rfl rfl (any_of HT_.out (by kernel_rfl)) (fun _ _ _ h => h) (Or.inl ⟨by rfl, ?_⟩) ?_ ?_;rotate_left;(intro w';go_simp;with_reducible rfl);rotate_left;(simp only [ps_];rfl)
            refine pure_ (i := 5) (N := some 49) (v := ?_) (a' := ?_) (bm 10 62) rfl rfl (any_of HT_.out (by kernel_rfl)) (fun _ _ _ h => h) (Or.inl ⟨by rfl, ?_⟩) ?_ ?_;rotate_left;(intro w';go_simp;with_reducible rfl);rotate_left;(simp only [ps_];rfl)
            refine pure_ (i := 7) (N := some 51) (v := ?_) (a' := ?_) (bm 10 190) rfl rfl (any_of HT_.out (by kernel_rfl)) (fun _ _ _ h => h) (Or.inl ⟨by rfl, ?_⟩) ?_ ?_;rotate_left;(intro w';go_simp;with_reducible rfl);rotate_left;(simp only [ps_];rfl)
            refine take_ (i := 0) (N := some 44) (v := ?_) (a' := ?_) (bm 10 191) rfl rfl (take_ofW HT_.out HW_.out (by kernel_rfl)) (fun _ _ _ h => h) (Or.inl ⟨by rfl, ?_⟩) hHeld ?_ ?_;rotate_left;(rintro w' ⟨s0, s1, s2, s3⟩;go_simp;with_reducible rfl);rotate_left;(simp only [ps_];rfl)
            refine take_ (i := 6) (N := some 50) (v := ?_) (a' := ?_) (bm 10 255) rfl rfl (take_ofW HT_.out HW_.out (by kernel_rfl)) (fun _ _ _ h => h) (Or.inl ⟨by rfl, ?_⟩) hHeld ?_ ?_;rotate_left;(rintro w' ⟨s0, s1, s2, s3⟩;go_simp;with_reducible rfl);rotate_left;(simp only [ps_];rfl)
            refine one_ (i := 8) (N := some 52) (bm 10 511) rfl rfl (one_of HT_.out (by kernel_rfl)) (by decide) (fun K hK => ?_)
            refine goes_ Try.func44 (by kernel_rfl) rfl #[.agg #[.int .i64 a0_0, .int .i64 a0_1, .slice A0_2 l0_2.length c0_2], .int .i64 (rd x8_1 (ji25)), .int .i64 t522] (by rfl) rfl rfl (by ((simp only [List.map_toArray, List.map_cons, List.map_nil])); (rfl)) ?_
            with_reducible refine (codewrightref04_Mul.calls k1 a0_0 a0_1 _ _ l0_2 (rd x8_1 (ji25)) t522 t530 _ ?side1 ?side2 A28.out).mono ?_
            (case side1 => repeat ((exact (Kd.C_below HR0_2.out HB.out))))
            (case side2 => exact HC0_2.out)
            rintro e w39 ⟨rfl, hb⟩
            have HS3_ := (hb.cell (World.block_lt_of_cell? _ _ (hHeld.2.2.2))).trans (hHeld.2.2.2)
            refine ⟨_, rfl, ?_⟩
            have n0_ := Aside0.mk (Kd.R_below HO_2.out hb)
            have n1_ := Aside0.mk (Kd.R_below HO_8.out hb)
            have n2_ := Aside0.mk (Kd.R_below HO_11.out hb)
            have n3_ := Aside0.mk (blk_below (g := gb514) (o := .cells #[.int .i64 a0_0, .int .i64 a0_1, .slice A0_2 l0_2.length c0_2] 24 (0, 0)) BK514.out hb)
            have n4_ := Aside0.mk (below_step HB.out hb)
            clear HO_2 HO_8 HO_11 BK514 HB
            have HO_2 := n0_
            have HO_8 := n1_
            have HO_11 := n2_
            have BK514 := n3_
            have HB := n4_
            clear n0_ n1_ n2_ n3_ n4_
            ((clear hb))
            refine hK.out _ _ ⟨(blk_cell BK514.out 0).trans rfl, (blk_cell BK514.out 1).trans rfl, (blk_cell BK514.out 2).trans rfl, HS3_⟩ (fun hHeld => ?_)
            clear hK K
            refine norm_ (a' := ?_) ?_ ?_
            rotate_left
            ·show Act.put _ (some 52) _ = _
             simp only [Act.put, List.setIfInBounds_toArray, List.set_cons_zero, List.set_cons_succ, i64_w, i32_w]
             rfl
            refine pure_ (i := 9) (N := some 13) (v := ?_) (a' := ?_) (bm 10 1023) rfl rfl (any_of HT_.out (by kernel_rfl)) (fun _ _ _ h => h) (Or.inl ⟨by rfl, ?_⟩) ?_ ?_;rotate_left;(intro w';go_simp;with_reducible rfl);rotate_left;(simp only [ps_];rfl)
            refine done_ (done_of HT_.out (by kernel_rfl)) ?_
            have p32 : 0 ≤ ((ji29) : Int) := of_decide_eq_true (by (with_reducible assumption))
            have q32 : ((ji29) : Int) < ((x11_1.length : Int) : Int) := of_decide_eq_true (by (with_reducible assumption))
            obtain ⟨go32, co32, eo32, gb32, gl32, cl32, HG32⟩ := Kd.R_form HO_11.out (by omega)
            ((cases eo32))
            have GB32 := Aside0.mk gb32
            have GG32 := Aside0.mk HG32
            clear gb32 gl32 HG32
            obtain ⟨hx32_0, hf32_0⟩ := Kd.R_celln 0 HO_11.out ((ji29) : Int) p32 q32
            replace p32 := eq_true p32
            replace q32 := eq_true q32
            obtain ⟨hy40_, hz40_⟩ := Kd.R_celln 0 HO_11.out ((ji29) : Int) (of_decide_eq_true (by (with_reducible assumption))) (of_decide_eq_true (by (with_reducible assumption)))
            have HP40 := Kd.R_putg HO_11.out ((ji29) : Int) t530
            (go_wp2_with (((with_reducible refine gate_store (t := 3) (p := 56) rfl ?_); refine store_event (t := 3) (p := 56) (v := ?vo_w41) (w1 := (w39.setCell ⟨go32, ((ji29) : Int).toNat, none⟩ (.int .i64 t530))) ?hg ?ho ?hn ?hr ?_; (case ho => rfl); (case hg => rfl); (case hn => rfl); (case hr => (go_simp; done)); intro w41 hw; have hg : w39.grownBy w41 (some go32) := (by rw [hw]; exact HP40.2); have hp_ : Kd.R (Kd.int .i64) 3 w41 w.heap.size (fun k_ => some k_ ≠ (.slice (some ad521) t515.length co18 : Value).ownBlock ∧ some k_ ≠ (.slice (some ad529) x8_1.length co37 : Value).ownBlock) (.slice (some ⟨go32, 0, none⟩) x11_1.length co32) y531 := (by rw [hw, Ny531.out]; exact HP40.1); clear HP40; have n0_ := Aside0.mk (Kd.R_after (v := (.slice (some ⟨go32, 0, none⟩) x11_1.length co32)) (v1 := (.slice (some ⟨go32, 0, none⟩) x11_1.length co32)) (ok := (fun k_ => some k_ ≠ (.slice (some ad529) x8_1.length co37 : Value).ownBlock)) HO_2.out hg (.inl rfl)); have n1_ := Aside0.mk (Kd.R_after (v := (.slice (some ⟨go32, 0, none⟩) x11_1.length co32)) (v1 := (.slice (some ⟨go32, 0, none⟩) x11_1.length co32)) (ok := (fun k_ => some k_ ≠ (.slice (some ad521) t515.length co18 : Value).ownBlock)) HO_8.out hg (.inl rfl)); have n2_ := Aside0.mk (hp_); have n3_ := Aside0.mk (blk_grown (g := gb514) (o := .cells #[.int .i64 a0_0, .int .i64 a0_1, .slice A0_2 l0_2.length c0_2] 24 (0, 0)) BK514.out hg (Kd.R_ne HO_11.out BK514.out (by decide))); have n4_ := Aside0.mk ((by rw [hw]; exact below_set (HB.out) GB32.out : Below w.heap.size w w41)); clear HO_2; clear HO_8; clear HO_11; clear BK514; clear HB; have HO_2 := n0_; have HO_8 := n1_; have HO_11 := n2_; have BK514 := n3_; have HB := n4_; clear n0_ n1_ n2_ n3_ n4_; clear hg hw hp_)))
            have n0_ := Aside0.mk (Kd.R_drew HO_2.out)
            have n1_ := Aside0.mk (Kd.R_drew HO_8.out)
            have n2_ := Aside0.mk (Kd.R_drew HO_11.out)
            have n3_ := Aside0.mk (blk_drew BK514.out)
            have n4_ := Aside0.mk (below_drew1 HB.out)
            clear HO_2 HO_8 HO_11 BK514 HB
            have HO_2 := n0_
            have HO_8 := n1_
            have HO_11 := n2_
            have BK514 := n3_
            have HB := n4_
            clear n0_ n1_ n2_ n3_ n4_
            refine start_ (n := 12) (S := fun w' => w'.cell? ⟨gb514, 0, none⟩ = some (.int .i64 a0_0) ∧ w'.cell? ⟨gb514, 1, none⟩ = some (.int .i64 a0_1) ∧ w'.cell? ⟨gb514, 2, none⟩ = some (.slice A0_2 l0_2.length c0_2)) (ds := []) (bm 12 0) (by kernel_rfl) rfl rfl ⟨(blk_cell BK514.out 0).trans rfl, (blk_cell BK514.out 1).trans rfl, (blk_cell BK514.out 2).trans rfl⟩ (fun hHeld => ?_); refine with_tabW codewrightref05_DivMod.tab10 codewrightref05_DivMod.bits10 (fun HT_ HW_ => ?_)
            generalize w41.drew = w42 at HO_2 HO_8 HO_11 BK514 HB hHeld ⊢
            refine pure_ (i := 1) (N := some 58) (v := ?_) (a' := ?_) (bm 12 2) rfl rfl (any_of HT_.out (by kernel_rfl)) (fun _ _ _ h => h) (Or.inl ⟨by rfl, ?_⟩) ?_ ?_;rotate_left;(intro w';go_simp;with_reducible rfl);rotate_left;(simp only [ps_];rfl)
            refine pure_ (i := 4) (N := some 61) (v := ?_) (a' := ?_) (bm 12 18) rfl rfl (any_of HT_.out (by kernel_rfl)) (fun _ _ _ h => h) (Or.inl ⟨by rfl, ?_⟩) ?_ ?_;rotate_left;(intro w';go_simp;with_reducible rfl);rotate_left;(simp only [ps_];rfl)
            refine pure_ (i := 5) (N := some 62) (v := ?_) (a' := ?_) (bm 12 50) rfl rfl (any_of HT_.out (by kernel_rfl)) (fun _ _ _ h => h) (Or.inl ⟨by rfl, ?_⟩) ?_ ?_;rotate_left;(intro w';go_simp;with_reducible rfl);rotate_left;(simp only [ps_];rfl)
            refine pure_ (i := 7) (N := some 64) (v := ?_) (a' := ?_) (bm 12 178) rfl rfl (any_of HT_.out (by kernel_rfl)) (fun _ _ _ h => h) (Or.inl ⟨by rfl, ?_⟩) ?_ ?_;rotate_left;(intro w';go_simp;with_reducible rfl);rotate_left;(simp only [ps_];rfl)
            refine take_ (i := 0) (N := some 57) (v := ?_) (a' := ?_) (bm 12 179) rfl rfl (take_ofW HT_.out HW_.out (by kernel_rfl)) (fun _ _ _ h => h) (Or.inl ⟨by rfl, ?_⟩) hHeld ?_ ?_;rotate_left;(rintro w' ⟨s0, s1, s2⟩;go_simp;with_reducible rfl);rotate_left;(simp only [ps_];rfl)
            refine take_ (i := 2) (N := some 59) (v := ?_) (a' := ?_) (bm 12 183) rfl rfl (take_ofW HT_.out HW_.out (by kernel_rfl)) (fun _ _ _ h => h) (Or.inl ⟨by rfl, ?_⟩) hHeld ?_ ?_;rotate_left;(rintro w' ⟨s0, s1, s2⟩;go_simp;with_reducible rfl);rotate_left;(simp only [ps_];rfl)
            refine take_ (i := 3) (N := some 60) (v := ?_) (a' := ?_) (bm 12 191) rfl rfl (take_ofW HT_.out HW_.out (by kernel_rfl)) (fun _ _ _ h => h) (Or.inl ⟨by rfl, ?_⟩) hHeld ?_ ?_;rotate_left;(rintro w' ⟨s0, s1, s2⟩;go_simp;with_reducible rfl);rotate_left;(simp only [ps_];rfl)
            refine one_ (i := 6) (N := some 63) (bm 12 255) rfl rfl (one_of HT_.out (by kernel_rfl)) (by decide) (fun K hK => ?_)
            refine goes_ Try.func42 (by kernel_rfl) rfl #[.agg #[.int .i64 a0_0, .int .i64 a0_1, .slice A0_2 l0_2.length c0_2], .int .i64 t530, .slice (some ad521) t515.length co18] (by rfl) rfl rfl (by ((simp only [List.map_toArray, List.map_cons, List.map_nil])); (rfl)) ?_
            with_reducible refine (codewrightref05_Scale.calls k1 a0_0 a0_1 _ _ l0_2 t530 _ _ t515 t532 _ ?side1 ?side2 ?side3 ?side4 A33.out).mono ?_
            (case side1 => repeat ((exact (Kd.C_below HR0_2.out HB.out))))
            (case side2 => exact HC0_2.out)
            (case side3 => repeat ((exact (Kd.R_reads' HO_2.out).2.2)))
            (case side4 => exact (Kd.R_reads' HO_2.out).2.1)
            rintro e w43 ⟨v533, rfl, ho0, hb⟩
            refine ⟨_, rfl, ?_⟩
            have n0_ := Aside0.mk (Kd.R_elder' HO_2.out (Kd.R_base ho0) hb)
            have n1_ := Aside0.mk (Kd.R_elder' HO_8.out (Kd.R_base ho0) hb)
            have n2_ := Aside0.mk (Kd.R_elder' HO_11.out (Kd.R_base ho0) hb)
            have n3_ := Aside0.mk (Kd.R_lower (Kd.R_new' (Kd.R_new' (Kd.R_new' ho0 (Kd.R_lt HO_2.out)) (Kd.R_lt HO_8.out)) (Kd.R_lt HO_11.out)) (below_size HB.out))
            have n4_ := Aside0.mk (blk_below (g := gb514) (o := .cells #[.int .i64 a0_0, .int .i64 a0_1, .slice A0_2 l0_2.length c0_2] 24 (0, 0)) BK514.out hb)
            have n5_ := Aside0.mk (below_step HB.out hb)
            clear HO_2 HO_8 HO_11 BK514 HB
            have HO_2 := n0_
            have HO_8 := n1_
            have HO_11 := n2_
            have HO534 := n3_
            have BK514 := n4_
            have HB := n5_
            clear n0_ n1_ n2_ n3_ n4_ n5_
            ((clear hb))
            ((clear ho0))
            refine hK.out _ _ ⟨(blk_cell BK514.out 0).trans rfl, (blk_cell BK514.out 1).trans rfl, (blk_cell BK514.out 2).trans rfl⟩ (fun hHeld => ?_)
            clear hK K
            refine norm_ (a' := ?_) ?_ ?_
            rotate_left
            ·show Act.put _ (some 63) _ = _
             simp only [Act.put, List.setIfInBounds_toArray, List.set_cons_zero, List.set_cons_succ, i64_w, i32_w]
             rfl
            refine one_ (i := 8) (N := some 65) (bm 12 511) rfl rfl (one_of HT_.out (by kernel_rfl)) (by decide) (fun K hK => ?_)
            refine goes_ Try.func76 (by kernel_rfl) rfl #[.int .i64 ji29] (by rfl) rfl rfl (by ((simp only [List.map_toArray, List.map_cons, List.map_nil])); (rfl)) ?_
            with_reducible refine (codewrightref05_Power.calls ji29 t535 _ A34.out).mono ?_
            rintro e w44 ⟨v536, rfl, ho0, hb⟩
            refine ⟨_, rfl, ?_⟩
            have n0_ := Aside0.mk (Kd.R_elder' HO_2.out (Kd.R_base ho0) hb)
            have n1_ := Aside0.mk (Kd.R_elder' HO_8.out (Kd.R_base ho0) hb)
            have n2_ := Aside0.mk (Kd.R_elder' HO_11.out (Kd.R_base ho0) hb)
            have n3_ := Aside0.mk (Kd.R_elder' HO534.out (Kd.R_base ho0) hb)
            have n4_ := Aside0.mk (Kd.R_lower (Kd.R_new' (Kd.R_new' (Kd.R_new' (Kd.R_new' ho0 (Kd.R_lt HO_2.out)) (Kd.R_lt HO_8.out)) (Kd.R_lt HO_11.out)) (Kd.R_lt HO534.out)) (below_size HB.out))
            have n5_ := Aside0.mk (blk_below (g := gb514) (o := .cells #[.int .i64 a0_0, .int .i64 a0_1, .slice A0_2 l0_2.length c0_2] 24 (0, 0)) BK514.out hb)
            have n6_ := Aside0.mk (below_step HB.out hb)
            clear HO_2 HO_8 HO_11 HO534 BK514 HB
            have HO_2 := n0_
            have HO_8 := n1_
            have HO_11 := n2_
            have HO534 := n3_
            have HO537 := n4_
            have BK514 := n5_
            have HB := n6_
            clear n0_ n1_ n2_ n3_ n4_ n5_ n6_
            ((clear hb))
            ((clear ho0))
            obtain ⟨Ao45, co45, eo45⟩ := Kd.R_slice HO534.out
            ((subst eo45))
            obtain ⟨Ao46, co46, eo46⟩ := Kd.R_slice HO537.out
            ((subst eo46))
            refine hK.out _ _ ⟨(blk_cell BK514.out 0).trans rfl, (blk_cell BK514.out 1).trans rfl, (blk_cell BK514.out 2).trans rfl⟩ (fun hHeld => ?_)
            clear hK K
            refine norm_ (a' := ?_) ?_ ?_
            rotate_left
            ·show Act.put _ (some 65) _ = _
             simp only [Act.put, List.setIfInBounds_toArray, List.set_cons_zero, List.set_cons_succ, i64_w, i32_w]
             rfl
            refine one_ (i := 9) (N := some 66) (bm 12 1023) rfl rfl (one_of HT_.out (by kernel_rfl)) (by decide) (fun K hK => ?_)
            refine goes_ Try.func36 (by kernel_rfl) rfl #[.agg #[.int .i64 a0_0, .int .i64 a0_1, .slice A0_2 l0_2.length c0_2], .slice Ao45 t532.length co45, .slice Ao46 t535.length co46] (by rfl) rfl rfl (by ((simp only [List.map_toArray, List.map_cons, List.map_nil])); (rfl)) ?_
            with_reducible refine (codewrightref05_Mul.calls k1 a0_0 a0_1 _ _ l0_2 _ _ t532 _ _ t535 t538 _ ?side1 ?side2 ?side3 ?side4 ?side5 ?side6 A35.out).mono ?_
            (case side1 => repeat ((exact (Kd.C_below HR0_2.out HB.out))))
            (case side2 => exact HC0_2.out)
            (case side3 => repeat ((exact (Kd.R_reads' HO534.out).2.2)))
            (case side4 => exact (Kd.R_reads' HO534.out).2.1)
            (case side5 => repeat ((exact (Kd.R_reads' HO537.out).2.2)))
            (case side6 => exact (Kd.R_reads' HO537.out).2.1)
            rintro e w47 ⟨v539, rfl, ho0, hb⟩
            refine ⟨_, rfl, ?_⟩
            have n0_ := Aside0.mk (Kd.R_elder' HO_2.out (Kd.R_base ho0) hb)
            have n1_ := Aside0.mk (Kd.R_elder' HO_8.out (Kd.R_base ho0) hb)
            have n2_ := Aside0.mk (Kd.R_elder' HO_11.out (Kd.R_base ho0) hb)
            have n3_ := Aside0.mk (Kd.R_elder' HO534.out (Kd.R_base ho0) hb)
            have n4_ := Aside0.mk (Kd.R_elder' HO537.out (Kd.R_base ho0) hb)
            have n5_ := Aside0.mk (Kd.R_lower (Kd.R_new' (Kd.R_new' (Kd.R_new' (Kd.R_new' (Kd.R_new' ho0 (Kd.R_lt HO_2.out)) (Kd.R_lt HO_8.out)) (Kd.R_lt HO_11.out)) (Kd.R_lt HO534.out)) (Kd.R_lt HO537.out)) (below_size HB.out))
            have n6_ := Aside0.mk (blk_below (g := gb514) (o := .cells #[.int .i64 a0_0, .int .i64 a0_1, .slice A0_2 l0_2.length c0_2] 24 (0, 0)) BK514.out hb)
            have n7_ := Aside0.mk (below_step HB.out hb)
            clear HO_2 HO_8 HO_11 HO534 HO537 BK514 HB
            have HO_2 := n0_
            have HO_8 := n1_
            have HO_11 := n2_
            have HO534 := n3_
            have HO537 := n4_
            have HO540 := n5_
            have BK514 := n6_
            have HB := n7_
            clear n0_ n1_ n2_ n3_ n4_ n5_ n6_ n7_
            ((clear hb))
            ((clear ho0))
            obtain ⟨Ao48, co48, eo48⟩ := Kd.R_slice HO540.out
            ((subst eo48))
            refine hK.out _ _ ⟨(blk_cell BK514.out 0).trans rfl, (blk_cell BK514.out 1).trans rfl, (blk_cell BK514.out 2).trans rfl⟩ (fun hHeld => ?_)
            clear hK K
            refine norm_ (a' := ?_) ?_ ?_
            rotate_left
            ·show Act.put _ (some 66) _ = _
             simp only [Act.put, List.setIfInBounds_toArray, List.set_cons_zero, List.set_cons_succ, i64_w, i32_w]
             rfl
            refine one_ (i := 10) (N := some 67) (bm 12 2047) rfl rfl (one_of HT_.out (by kernel_rfl)) (by decide) (fun K hK => ?_)
            refine goes_ Try.func75 (by kernel_rfl) rfl #[.agg #[.int .i64 a0_0, .int .i64 a0_1, .slice A0_2 l0_2.length c0_2], .slice (some ad529) x8_1.length co37, .slice Ao48 t538.length co48] (by rfl) rfl rfl (by ((simp only [List.map_toArray, List.map_cons, List.map_nil])); (rfl)) ?_
            with_reducible refine (codewrightref05_Sub.calls k1 a0_0 a0_1 _ _ l0_2 _ _ x8_1 _ _ t538 t541 _ ?side1 ?side2 ?side3 ?side4 ?side5 ?side6 A36.out).mono ?_
            (case side1 => repeat ((exact (Kd.C_below HR0_2.out HB.out))))
            (case side2 => exact HC0_2.out)
            (case side3 => repeat ((exact (Kd.R_reads' HO_8.out).2.2)))
            (case side4 => exact (Kd.R_reads' HO_8.out).2.1)
            (case side5 => repeat ((exact (Kd.R_reads' HO540.out).2.2)))
            (case side6 => exact (Kd.R_reads' HO540.out).2.1)
            rintro e w49 ⟨v542, rfl, ho0, hb⟩
            refine ⟨_, rfl, ?_⟩
            have n0_ := Aside0.mk (Kd.R_elder' HO_2.out (Kd.R_base ho0) hb)
            have n1_ := Aside0.mk (Kd.R_elder' HO_8.out (Kd.R_base ho0) hb)
            have n2_ := Aside0.mk (Kd.R_elder' HO_11.out (Kd.R_base ho0) hb)
            have n3_ := Aside0.mk (Kd.R_elder' HO534.out (Kd.R_base ho0) hb)
            have n4_ := Aside0.mk (Kd.R_elder' HO537.out (Kd.R_base ho0) hb)
            have n5_ := Aside0.mk (Kd.R_elder' HO540.out (Kd.R_base ho0) hb)
            have n6_ := Aside0.mk (Kd.R_lower (Kd.R_new' (Kd.R_new' (Kd.R_new' (Kd.R_new' (Kd.R_new' (Kd.R_new' ho0 (Kd.R_lt HO_2.out)) (Kd.R_lt HO_8.out)) (Kd.R_lt HO_11.out)) (Kd.R_lt HO534.out)) (Kd.R_lt HO537.out)) (Kd.R_lt HO540.out)) (below_size HB.out))
            have n7_ := Aside0.mk (blk_below (g := gb514) (o := .cells #[.int .i64 a0_0, .int .i64 a0_1, .slice A0_2 l0_2.length c0_2] 24 (0, 0)) BK514.out hb)
            have n8_ := Aside0.mk (below_step HB.out hb)
            clear HO_2 HO_8 HO_11 HO534 HO537 HO540 BK514 HB
            have HO_2 := n0_
            have HO_8 := n1_
            have HO_11 := n2_
            have HO534 := n3_
            have HO537 := n4_
            have HO540 := n5_
            have HO543 := n6_
            have BK514 := n7_
            have HB := n8_
            clear n0_ n1_ n2_ n3_ n4_ n5_ n6_ n7_ n8_
            ((clear hb))
            ((clear ho0))
            refine hK.out _ _ ⟨(blk_cell BK514.out 0).trans rfl, (blk_cell BK514.out 1).trans rfl, (blk_cell BK514.out 2).trans rfl⟩ (fun hHeld => ?_)
            clear hK K
            refine norm_ (a' := ?_) ?_ ?_
            rotate_left
            ·show Act.put _ (some 67) _ = _
             simp only [Act.put, List.setIfInBounds_toArray, List.set_cons_zero, List.set_cons_succ, i64_w, i32_w]
             rfl
            refine pure_ (i := 11) (N := some 8) (v := ?_) (a' := ?_) (bm 12 4095) rfl rfl (any_of HT_.out (by kernel_rfl)) (fun _ _ _ h => h) (Or.inl ⟨by rfl, ?_⟩) ?_ ?_;rotate_left;(intro w';go_simp;with_reducible rfl);rotate_left;(simp only [ps_];rfl)
            refine done_ (done_of HT_.out (by kernel_rfl)) ?_
            (go_wp2)
            go_roundg k1
            case measure => have := HK1.out; omega
            case rel => exact ⟨(t541), (y531), H', ⟨by have := HK1.out; omega⟩, ⟨by exact Kd.R_mono HO_2.out (fun _ hk => ⟨hk.2, hk.1.1.1.1.2⟩)⟩, ⟨by exact Kd.R_mono HO543.out (fun _ hk => ⟨hk.1.1.1.1.1.2, hk.1.1.1.2⟩)⟩, ⟨by exact Kd.R_mono HO_11.out (fun _ hk => ⟨hk.1.1.1.1.1, hk.2⟩)⟩, ⟨BK514.out⟩, ⟨by exact HB.out⟩⟩
           ·rw [if_neg c31] at H
            exact absurd H (by simp)
          ·rw [if_neg c30] at H
           exact absurd H (by simp)
         ·rw [if_neg c27] at H
          exact absurd H (by simp)
        ·rw [if_neg c26] at H
         exact absurd H (by simp)
       ·rw [if_neg c24] at H
        have c24b0 : decide (ji6 < (x8_1.length : Int)) = false := decide_eq_false c24
        clear c24
        obtain ⟨t526, A500, H⟩ := Option.bind_eq_some_iff.mp H
        replace H : (some (t526, x8_1)) = some (r1, r2) := H
        have A50 := Aside0.mk A500
        clear A500
        simp only [Option.some.injEq, Prod.mk.injEq] at H
        obtain ⟨rfl, rfl⟩ := H
        obtain ⟨Ao51, co51, eo51⟩ := Kd.R_slice HO_8.out
        subst eo51
        have hcz52_0 : wr.cell? ⟨gb514, 0, none⟩ = some (.int .i64 a0_0) := (blk_cell BK514.out 0).trans rfl
        have hcz52_1 : wr.cell? ⟨gb514, 1, none⟩ = some (.int .i64 a0_1) := (blk_cell BK514.out 1).trans rfl
        have hcz52_2 : wr.cell? ⟨gb514, 2, none⟩ = some (.slice A0_2 l0_2.length c0_2) := (blk_cell BK514.out 2).trans rfl
        have hfz52_0 := blk_frozen BK514.out 0
        have hfz52_1 := blk_frozen BK514.out 1
        have hfz52_2 := blk_frozen BK514.out 2
        obtain ⟨Ao53, co53, eo53⟩ := Kd.R_slice HO_11.out
        subst eo53
        go_wp2_with (((with_reducible refine gate_callee (f := 32) rfl ?_); refine goesL_ (some 70) rfl rfl Try.func32 (by kernel_rfl) rfl #[.agg #[.int .i64 a0_0, .int .i64 a0_1, .slice A0_2 l0_2.length c0_2], .slice Ao53 x11_1.length co53] rfl (by ((simp only [List.map_toArray, List.map_cons, List.map_nil])); (rfl)) ?_; (with_reducible refine (codewrightref05_Canon.calls k1 a0_0 a0_1 _ _ l0_2 _ _ x11_1 t526 _ ?side1 ?side2 ?side3 ?side4 A50.out).mono ?_); (case side1 => repeat ((exact (Kd.C_below HR0_2.out HB.out)))); (case side2 => exact HC0_2.out); (case side3 => repeat ((exact (Kd.R_reads' HO_11.out).2.2))); (case side4 => exact (Kd.R_reads' HO_11.out).2.1); rintro e w54 ⟨v527, rfl, ho0, hb⟩; refine ⟨_, rfl, ?_⟩; have n0_ := Aside0.mk (Kd.R_elder' HO_2.out (Kd.R_base ho0) hb); have n1_ := Aside0.mk (Kd.R_elder' HO_8.out (Kd.R_base ho0) hb); have n2_ := Aside0.mk (Kd.R_elder' HO_11.out (Kd.R_base ho0) hb); have n3_ := Aside0.mk (Kd.R_lower (Kd.R_new' (Kd.R_new' (Kd.R_new' ho0 (Kd.R_lt HO_2.out)) (Kd.R_lt HO_8.out)) (Kd.R_lt HO_11.out)) (below_size HB.out)); have n4_ := Aside0.mk (blk_below (g := gb514) (o := .cells #[.int .i64 a0_0, .int .i64 a0_1, .slice A0_2 l0_2.length c0_2] 24 (0, 0)) BK514.out hb); have n5_ := Aside0.mk (below_step HB.out hb); clear HO_2; clear HO_8; clear HO_11; clear BK514; clear HB; have HO_2 := n0_; have HO_8 := n1_; have HO_11 := n2_; have HO528 := n3_; have BK514 := n4_; have HB := n5_; clear n0_ n1_ n2_ n3_ n4_ n5_; ((clear hb)); (skip); (skip); (skip); ((clear ho0))))
        go_ret2
        exact ⟨_, _, by rfl, by exact Kd.R_mono HO528.out (fun _ hk => hk.1.2), by exact Kd.R_mono HO_8.out (fun _ hk => hk.2), by exact HB.out⟩
    ·rw [if_neg c12] at H
     exact absurd H (by simp)
   ·rw [if_neg c11] at H
    exact absurd H (by simp)
  ·rw [if_neg c8] at H
   exact absurd H (by simp)
 ·rw [if_neg c7] at H
  exact absurd H (by simp)
def codewrightref05_Rem.f (k : Nat) (a0_0 : Int) (a0_1 : Int) (l0_2 : List Int) (l1 : List Int) (l2 : List Int) : Option (List Int) := (codewrightref05_DivMod.f k a0_0 a0_1 l0_2 l1 l2).bind fun bt545 => (some bt545.2)
set_option maxHeartbeats 8000000 in
set_option maxRecDepth 100000 in
theorem codewrightref05_Rem.calls (k : Nat) (a0_0 : Int) (a0_1 : Int) (A0_2 : Option Addr) (c0_2 : Nat) (l0_2 : List Int) (A1 : Option Addr) (c1 : Nat) (l1 : List Int) (A2 : Option Addr) (c2 : Nat) (l2 : List Int) (r : List Int) (w : World) (hr0_2 : Kd.C (Kd.int .i64) w A0_2 l0_2.length l0_2) (hc0_2 : l0_2.length ≤ c0_2) (hr1 : Kd.C (Kd.int .i64) w A1 l1.length l1) (hc1 : l1.length ≤ c1) (hr2 : Kd.C (Kd.int .i64) w A2 l2.length l2) (hc2 : l2.length ≤ c2) (h : codewrightref05_Rem.f k a0_0 a0_1 l0_2 l1 l2 = some r) :
  Calls Try.prog 22 #[.agg #[.int .i64 a0_0, .int .i64 a0_1, .slice A0_2 l0_2.length c0_2], .slice A1 l1.length c1, .slice A2 l2.length c2] w fun e w' => ∃ v0_ : Value, e = .returned (v0_) ∧ Kd.R (Kd.int .i64) 3 w' w.heap.size (fun _ => True) v0_ r ∧ Below w.heap.size w w' := by
 have hu24 := Try.underlying24
 have HR0_2 := Aside0.mk hr0_2
 have HC0_2 := Aside0.mk hc0_2
 clear hr0_2 hc0_2
 have HR1 := Aside0.mk hr1
 have HC1 := Aside0.mk hc1
 clear hr1 hc1
 have HR2 := Aside0.mk hr2
 have HC2 := Aside0.mk hc2
 clear hr2 hc2
 have HB := Aside0.mk (Below.refl w.heap.size w)
 have H : ((codewrightref05_DivMod.f k a0_0 a0_1 l0_2 l1 l2).bind fun bt545 => (some bt545.2)) = some r := h
 clear h
 replace H := Option.bind_eq_some_iff.mp H
 obtain ⟨⟨t545, t548⟩, A40, H⟩ := H
 replace H : (some t548) = some r := H
 have A4 := Aside0.mk A40
 clear A40
 obtain rfl := Option.some.inj H
 go_enter Try.func22, Try.ntmps22
 go_wp2_with (first | ((with_reducible refine gate_dst (N := 3) rfl ?_); refine box_event ?hg (N := 3) ?hd (cs := #[.int .i64 a0_0, .int .i64 a0_1, .slice A0_2 l0_2.length c0_2]) (t := 24) ?hr ?_; (case hd => rfl); (case hg => rfl); (case hr => (go_simp; done)); intro gb544 hg w5 hbox hb; have n0_ := Aside0.mk (below_step HB.out hb); have n1_ := Aside0.mk (hbox); have n2_ := Aside0.mk ((by rw [hg]; exact (below_size HB.out) : w.heap.size ≤ gb544)); have n3_ := Aside0.mk ((by rw [hg]; exact (below_size HB.out) : w.heap.size ≤ gb544)); clear HB; have HB := n0_; have BK544 := n1_; have GW544 := n2_; have GE544 := n3_; clear n0_ n1_ n2_ n3_; clear hb hbox hg; have hcz6_0 : w5.cell? ⟨gb544, 0, none⟩ = some (.int .i64 a0_0) := (blk_cell BK544.out 0).trans rfl; have hcz6_1 : w5.cell? ⟨gb544, 1, none⟩ = some (.int .i64 a0_1) := (blk_cell BK544.out 1).trans rfl; have hcz6_2 : w5.cell? ⟨gb544, 2, none⟩ = some (.slice A0_2 l0_2.length c0_2) := (blk_cell BK544.out 2).trans rfl; have hfz6_0 := blk_frozen BK544.out 0; have hfz6_1 := blk_frozen BK544.out 1; have hfz6_2 := blk_frozen BK544.out 2) | ((with_reducible refine gate_callee (f := 47) rfl ?_); refine goesL_ (some 13) rfl rfl Try.func47 (by kernel_rfl) rfl #[.agg #[.int .i64 a0_0, .int .i64 a0_1, .slice A0_2 l0_2.length c0_2], .slice A1 l1.length c1, .slice A2 l2.length c2] rfl (by ((simp only [List.map_toArray, List.map_cons, List.map_nil])); (rfl)) ?_; (with_reducible refine (codewrightref05_DivMod.calls k a0_0 a0_1 _ _ l0_2 _ _ l1 _ _ l2 t545 t548 _ ?side1 ?side2 ?side3 ?side4 ?side5 ?side6 A4.out).mono ?_); (case side1 => repeat ((exact (Kd.C_below HR0_2.out HB.out)))); (case side2 => exact HC0_2.out); (case side3 => repeat ((exact (Kd.C_below HR1.out HB.out)))); (case side4 => exact HC1.out); (case side5 => repeat ((exact (Kd.C_below HR2.out HB.out)))); (case side6 => exact HC2.out); rintro e w7 ⟨v546, v549, rfl, ho0, ho1, hb⟩; refine ⟨_, rfl, ?_⟩; have n0_ := Aside0.mk (Kd.R_lower ho0 (below_size HB.out)); have n1_ := Aside0.mk (Kd.R_lower ho1 (below_size HB.out)); have n2_ := Aside0.mk (blk_below (g := gb544) (o := .cells #[.int .i64 a0_0, .int .i64 a0_1, .slice A0_2 l0_2.length c0_2] 24 (0, 0)) BK544.out hb); have n3_ := Aside0.mk (below_step HB.out hb); clear BK544; clear HB; have HO547 := n0_; have HO550 := n1_; have BK544 := n2_; have HB := n3_; clear n0_ n1_ n2_ n3_; ((clear hb)); (skip); (skip); (skip); ((clear ho0)); ((clear ho1))))
 go_ret
 exact ⟨_, by rfl, by exact Kd.R_mono HO550.out (fun _ hk => trivial), by exact HB.out⟩
end Go.Proofs.Ytiejggpmjapajaa.PA
end
section
namespace Go.Proofs.Ytiejggpmjapajaa.PA
open Go.RowKit Go.Proofs.YtiejggpmjapajaaW.PrintWords Go.Proofs.YtiejggpmjapajaaW.PrintLast Go.Proofs.YtiejggpmjapajaaW.PrintMore
attribute [local go_sem] max2_int min2_int max_two min_two max_three min_three max_four min_four
set_option linter.unusedVariables false
set_option linter.unusedSimpArgs false
def codewrightlaw05_short.l0 : Nat → List (List Int) → Int → Int → Option (Bool)
 | 0, _, _, _ => none
 | k + 1, x5, x6, x7 => if x7 < x6 then (if 0 ≤ x7 then (if x7 < (x5.length : Int) then (if ((rd_L2 x5 x7).length : Int) > 24 then (some false) else (codewrightlaw05_short.l0 k x5 x6 (wrap64 (x7 + 1)))) else (none)) else (none)) else (some true)
def codewrightlaw05_short.f (k : Nat) (l0 : List (List Int)) : Option (Bool) := codewrightlaw05_short.l0 k l0 (l0.length : Int) 0
set_option maxHeartbeats 8000000 in
set_option maxRecDepth 100000 in
theorem codewrightlaw05_short.calls (k : Nat) (A0 : Option Addr) (c0 : Nat) (l0 : List (List Int)) (r : Bool) (w : World) (hr0 : Kd.C (Kd.slice 3 (Kd.int .i64)) w A0 l0.length l0) (hc0 : l0.length ≤ c0) (h : codewrightlaw05_short.f k l0 = some r) :
  Calls Try.prog 16 #[.slice A0 l0.length c0] w fun e w' => e = .returned (.bool r) ∧ Drawn0 w w' := by
 have HR0 := Aside0.mk hr0
 have HC0 := Aside0.mk hc0
 clear hr0 hc0
 have H : (codewrightlaw05_short.l0 k l0 (l0.length : Int) 0) = some r := h
 clear h
 have H' := Aside0.mk H
 clear H
 go_enter Try.func16, Try.ntmps16
 go_wp2
 go_loopg [7] k (fun kq v7 w' => ∃ (x7_1 : Int), v7 = .int .i64 x7_1 ∧ Aside0 (codewrightlaw05_short.l0 kq l0 (l0.length : Int) x7_1 = some r) ∧ Aside0 (kq ≤ k) ∧ Drawn0 w w')
 case atStart => exact ⟨(0), (by rfl), H', ⟨Nat.le_refl _⟩, by repeat ((exact Drawn0.refl _))⟩
 case round =>
  clear H'
  obtain ⟨x7_1, rfl, HA, HK1, ⟨m1, rfl⟩⟩ := hrel
  cases gk with
  | zero => exact absurd HA.out (by simp [codewrightlaw05_short.l0])
  | succ k1 =>
   have H := HA.out
   clear HA
   simp only [codewrightlaw05_short.l0] at H
   by_cases c2 : x7_1 < (l0.length : Int)
   ·rw [if_pos c2] at H
    have c2b0 : decide (x7_1 < (l0.length : Int)) = true := decide_eq_true c2
    clear c2
    by_cases c3 : 0 ≤ x7_1
    ·rw [if_pos c3] at H
     have c3b0 : decide (0 ≤ x7_1) = true := decide_eq_true c3
     clear c3
     by_cases c4 : x7_1 < (l0.length : Int)
     ·rw [if_pos c4] at H
      have c4b0 : decide (x7_1 < (l0.length : Int)) = true := decide_eq_true c4
      clear c4
      by_cases c5 : ((rd_L2 l0 x7_1).length : Int) > 24
      ·rw [if_pos c5] at H
       have c5b0 : decide (24 < ((rd_L2 l0 x7_1).length : Int)) = true := decide_eq_true c5
       have c5b1 : decide (24 < (rd_L2 l0 x7_1).length) = true := decide_eq_true (by omega)
       clear c5
       obtain rfl := Option.some.inj H
       have p579 : 0 ≤ (x7_1 : Int) := of_decide_eq_true (by (with_reducible assumption))
       have q579 : x7_1 < (l0.length : Int) := of_decide_eq_true (by (with_reducible assumption))
       obtain ⟨ad579, A579_0, c579_0, e579, hx579_0, hl579_0, hi579_0⟩ := at_L2 HR0.out x7_1 p579 q579
       cases e579
       have HR579_0 := Aside0.mk hi579_0
       have HC579_0 := Aside0.mk hl579_0
       clear hi579_0 hl579_0
       replace p579 := eq_true p579
       replace q579 := eq_true q579
       go_wp2
       go_ret
       exact ⟨by rfl, by repeat (first | (exact Drawn0.refl _) | (apply Drawn0.step))⟩
      ·rw [if_neg c5] at H
       have c5b0 : decide (24 < ((rd_L2 l0 x7_1).length : Int)) = false := decide_eq_false c5
       have c5b1 : decide (24 < (rd_L2 l0 x7_1).length) = false := decide_eq_false (by omega)
       clear c5
       have H' := Aside0.mk H
       clear H
       have p579 : 0 ≤ (x7_1 : Int) := of_decide_eq_true (by (with_reducible assumption))
       have q579 : x7_1 < (l0.length : Int) := of_decide_eq_true (by (with_reducible assumption))
       obtain ⟨ad579, A579_0, c579_0, e579, hx579_0, hl579_0, hi579_0⟩ := at_L2 HR0.out x7_1 p579 q579
       cases e579
       have HR579_0 := Aside0.mk hi579_0
       have HC579_0 := Aside0.mk hl579_0
       clear hi579_0 hl579_0
       replace p579 := eq_true p579
       replace q579 := eq_true q579
       go_wp2
       go_roundg k1
       case measure => have := HK1.out; omega
       case rel => exact ⟨(wrap64 (x7_1 + 1)), (by rfl), H', ⟨by have := HK1.out; omega⟩, by repeat (first | (exact Drawn0.refl _) | (apply Drawn0.step))⟩
     ·rw [if_neg c4] at H
      exact absurd H (by simp)
    ·rw [if_neg c3] at H
     exact absurd H (by simp)
   ·rw [if_neg c2] at H
    have c2b0 : decide (x7_1 < (l0.length : Int)) = false := decide_eq_false c2
    clear c2
    obtain rfl := Option.some.inj H
    go_wp2
    go_ret
    exact ⟨by rfl, by repeat (first | (exact Drawn0.refl _) | (apply Drawn0.step))⟩
end Go.Proofs.Ytiejggpmjapajaa.PA
end
section
namespace Go.Proofs.Ytiejggpmjapajaa.PA
open Go.RowKit Go.Proofs.YtiejggpmjapajaaW.PrintWords Go.Proofs.YtiejggpmjapajaaW.PrintLast Go.Proofs.YtiejggpmjapajaaW.PrintMore
attribute [local go_sem] max2_int min2_int max_two min_two max_three min_three max_four min_four
set_option linter.unusedVariables false
set_option linter.unusedSimpArgs false
end Go.Proofs.Ytiejggpmjapajaa.PA
end
section
namespace Go.Proofs.Ytiejggpmjapajaa.PA
open Go.RowKit Go.Proofs.YtiejggpmjapajaaW.PrintWords Go.Proofs.YtiejggpmjapajaaW.PrintLast Go.Proofs.YtiejggpmjapajaaW.PrintMore
attribute [local go_sem] max2_int min2_int max_two min_two max_three min_three max_four min_four
set_option linter.unusedVariables false
set_option linter.unusedSimpArgs false
def codewrightref05_Eval.l0 : Nat → List Int → Int → Int → Int → Int → Int → Int → List Int → Option (Int)
 | 0, _, _, _, _, _, _, _, _ => none
 | k + 1, x1, x2, x7, x8, x9, x628000, x628001, x628002 => if x9 < (x1.length : Int) then (if 0 ≤ x9 then ((codewrightref04_Mul.f k x628000 x628001 x628002 (rd x1 x9) x8).bind fun t629 => ((codewrightref04_Add.f k x628000 x628001 x628002 x7 t629).bind fun t630 => ((codewrightref04_Mul.f k x628000 x628001 x628002 x8 x2).bind fun t631 => (codewrightref05_Eval.l0 k x1 x2 t630 t631 (wrap64 (x9 + 1)) x628000 x628001 x628002)))) else (none)) else (some x7)
def codewrightref05_Eval.f (k : Nat) (a0_0 : Int) (a0_1 : Int) (l0_2 : List Int) (l1 : List Int) (a2 : Int) : Option (Int) := codewrightref05_Eval.l0 k l1 a2 0 1 0 a0_0 a0_1 l0_2
def codewrightref05_Eval.T6 : Bool × List (List Nat × List Nat) := (true, [([], []), ([], []), ([], []), ([], []), ([], []), ([3, 4], [3, 4]), ([5], [5]), ([], []), ([2, 6, 7], [2, 6, 7]), ([0, 1, 8, 8], [0, 1, 8]), ([9, 9, 0, 1, 2, 3, 4, 5, 6, 7, 8, 9], [1, 9])])
def codewrightref05_Eval.B6 : List Nat := [0, 0, 0, 0, 0, 24, 56, 0, 252, 511, 1023]
theorem codewrightref05_Eval.tab6 : rtab .any (opsOf Try.f19 6) = codewrightref05_Eval.T6 := by kernel_rfl
theorem codewrightref05_Eval.bits6 : waitsOk codewrightref05_Eval.T6.2 codewrightref05_Eval.B6 = true := by kernel_rfl
set_option maxHeartbeats 8000000 in
set_option maxRecDepth 100000 in
theorem codewrightref05_Eval.calls (k : Nat) (a0_0 : Int) (a0_1 : Int) (A0_2 : Option Addr) (c0_2 : Nat) (l0_2 : List Int) (A1 : Option Addr) (c1 : Nat) (l1 : List Int) (a2 : Int) (r : Int) (w : World) (hr0_2 : Kd.C (Kd.int .i64) w A0_2 l0_2.length l0_2) (hc0_2 : l0_2.length ≤ c0_2) (hr1 : Kd.C (Kd.int .i64) w A1 l1.length l1) (hc1 : l1.length ≤ c1) (h : codewrightref05_Eval.f k a0_0 a0_1 l0_2 l1 a2 = some r) :
  Calls Try.prog 19 #[.agg #[.int .i64 a0_0, .int .i64 a0_1, .slice A0_2 l0_2.length c0_2], .slice A1 l1.length c1, .int .i64 a2] w fun e w' => e = .returned (.int .i64 r) ∧ Below w.heap.size w w' := by
 have hu24 := Try.underlying24
 have HR0_2 := Aside0.mk hr0_2
 have HC0_2 := Aside0.mk hc0_2
 clear hr0_2 hc0_2
 have HR1 := Aside0.mk hr1
 have HC1 := Aside0.mk hc1
 clear hr1 hc1
 have HB := Aside0.mk (Below.refl w.heap.size w)
 have H : (codewrightref05_Eval.l0 k l1 a2 0 1 0 a0_0 a0_1 l0_2) = some r := h
 clear h
 have H' := Aside0.mk H
 clear H
 go_enter Try.func19, Try.ntmps19
 go_wp2_with (((with_reducible refine gate_dst (N := 3) rfl ?_); refine box_event ?hg (N := 3) ?hd (cs := #[.int .i64 a0_0, .int .i64 a0_1, .slice A0_2 l0_2.length c0_2]) (t := 24) ?hr ?_; (case hd => rfl); (case hg => rfl); (case hr => (go_simp; done)); intro gb627 hg w4 hbox hb; have n0_ := Aside0.mk (below_step HB.out hb); have n1_ := Aside0.mk (hbox); have n2_ := Aside0.mk ((by rw [hg]; exact (below_size HB.out) : w.heap.size ≤ gb627)); have n3_ := Aside0.mk ((by rw [hg]; exact (below_size HB.out) : w.heap.size ≤ gb627)); clear HB; have HB := n0_; have BK627 := n1_; have GW627 := n2_; have GE627 := n3_; clear n0_ n1_ n2_ n3_; clear hb hbox hg))
 go_loopg [7, 8, 9] k (fun kq v7 v8 v9 w' => ∃ (x7_1 : Int) (x8_1 : Int) (x9_1 : Int), v7 = .int .i64 x7_1 ∧ v8 = .int .i64 x8_1 ∧ v9 = .int .i64 x9_1 ∧ Aside0 (codewrightref05_Eval.l0 kq l1 a2 x7_1 x8_1 x9_1 a0_0 a0_1 l0_2 = some r) ∧ Aside0 (kq ≤ k) ∧ Aside0 (w'.heap[gb627]? = some (.cells #[.int .i64 a0_0, .int .i64 a0_1, (.slice A0_2 l0_2.length c0_2)] 24 (0, 0))) ∧ Aside0 (Below w.heap.size w w'))
 case atStart => exact ⟨(0), (1), (0), (by rfl), (by rfl), (by rfl), H', ⟨Nat.le_refl _⟩, ⟨BK627.out⟩, ⟨by exact HB.out⟩⟩
 case round =>
  clear H'
  obtain ⟨x7_1, x8_1, x9_1, rfl, rfl, rfl, HA, HK1, BK627, HB⟩ := hrel
  cases gk with
  | zero => exact absurd HA.out (by simp [codewrightref05_Eval.l0])
  | succ k1 =>
   have H := HA.out
   clear HA
   simp only [codewrightref05_Eval.l0] at H
   by_cases c5 : x9_1 < (l1.length : Int)
   ·rw [if_pos c5] at H
    have c5b0 : decide (x9_1 < (l1.length : Int)) = true := decide_eq_true c5
    clear c5
    by_cases c6 : 0 ≤ x9_1
    ·rw [if_pos c6] at H
     have c6b0 : decide (0 ≤ x9_1) = true := decide_eq_true c6
     clear c6
     obtain ⟨t629, A70, H⟩ := Option.bind_eq_some_iff.mp H
     replace H : ((codewrightref04_Add.f k1 a0_0 a0_1 l0_2 x7_1 t629).bind fun t630 => ((codewrightref04_Mul.f k1 a0_0 a0_1 l0_2 x8_1 a2).bind fun t631 => (codewrightref05_Eval.l0 k1 l1 a2 t630 t631 (wrap64 (x9_1 + 1)) a0_0 a0_1 l0_2))) = some r := H
     have A7 := Aside0.mk A70
     clear A70
     obtain ⟨t630, A80, H⟩ := Option.bind_eq_some_iff.mp H
     replace H : ((codewrightref04_Mul.f k1 a0_0 a0_1 l0_2 x8_1 a2).bind fun t631 => (codewrightref05_Eval.l0 k1 l1 a2 t630 t631 (wrap64 (x9_1 + 1)) a0_0 a0_1 l0_2)) = some r := H
     have A8 := Aside0.mk A80
     clear A80
     obtain ⟨t631, A90, H⟩ := Option.bind_eq_some_iff.mp H
     replace H : (codewrightref05_Eval.l0 k1 l1 a2 t630 t631 (wrap64 (x9_1 + 1)) a0_0 a0_1 l0_2) = some r := H
     have A9 := Aside0.mk A90
     clear A90
     have H' := Aside0.mk H
     clear H
     (go_wp2)
     have n0_ := Aside0.mk (blk_drew BK627.out)
     have n1_ := Aside0.mk (below_drew1 HB.out)
     clear BK627 HB
     have BK627 := n0_
     have HB := n1_
     clear n0_ n1_
     have p628 : 0 ≤ (x9_1 : Int) := of_decide_eq_true (by (with_reducible assumption))
     have q628 : x9_1 < (l1.length : Int) := of_decide_eq_true (by (with_reducible assumption))
     obtain ⟨ad628, e628, hx628_0⟩ := Kd.at_int HR1.out x9_1 p628 q628
     have hw628_0 := hx628_0
     cases e628
     replace hx628_0 := (HB.out.cell (World.block_lt_of_cell? w _ hx628_0)).trans hx628_0
     replace p628 := eq_true p628
     replace q628 := eq_true q628
     refine start_ (n := 11) (S := fun w' => w'.cell? ⟨gb627, 0, none⟩ = some (.int .i64 a0_0) ∧ w'.cell? ⟨gb627, 1, none⟩ = some (.int .i64 a0_1) ∧ w'.cell? ⟨gb627, 2, none⟩ = some (.slice A0_2 l0_2.length c0_2) ∧ w'.cell? (ad628.add (x9_1).toNat) = some (.int .i64 (rd l1 x9_1))) (ds := []) (bm 11 0) (by kernel_rfl) rfl rfl ⟨(blk_cell BK627.out 0).trans rfl, (blk_cell BK627.out 1).trans rfl, (blk_cell BK627.out 2).trans rfl, ((HB.out.cell (World.block_lt_of_cell? w _ hw628_0)).trans hw628_0)⟩ (fun hHeld => ?_); refine with_tabW codewrightref05_Eval.tab6 codewrightref05_Eval.bits6 (fun HT_ HW_ => ?_)
     generalize wr.drew = w10 at BK627 HB hx628_0 hHeld ⊢
     refine pure_ (i := 1) (N := some 17) (v := ?_) (a' := ?_) (bm 11 2) rfl rfl (any_of HT_.out (by kernel_rfl)) (fun _ _ _ h => h) (Or.inl ⟨by rfl, ?_⟩) ?_ ?_;rotate_left;(intro w';go_simp;with_reducible rfl);rotate_left;(simp only [ps_];rfl)
     refine pure_ (i := 3) (N := some 19) (v := ?_) (a' := ?_) (bm 11 10) rfl rfl (any_of HT_.out (by kernel_rfl)) (fun _ _ _ h => h) (Or.inl ⟨by rfl, ?_⟩) ?_ ?_;rotate_left;(intro w';go_simp;with_reducible rfl);rotate_left;(simp only [ps_];rfl)
     refine pure_ (i := 4) (N := some 20) (v := ?_) (a' := ?_) (bm 11 26) rfl rfl (any_of HT_.out (by kernel_rfl)) (fun _ _ _ h => h) (Or.inl ⟨by rfl, ?_⟩) ?_ ?_;rotate_left;(intro w';go_simp;with_reducible rfl);rotate_left;(simp only [ps_];rfl)
     refine pure_ (i := 5) (N := some 21) (v := ?_) (a' := ?_) (bm 11 58) rfl rfl (any_of HT_.out (by kernel_rfl)) (fun _ _ _ h => h) (Or.inl ⟨by rfl, ?_⟩) ?_ ?_;rotate_left;(intro w';go_simp;with_reducible rfl);rotate_left;(simp only [ps_];rfl)
     refine pure_ (i := 7) (N := some 23) (v := ?_) (a' := ?_) (bm 11 186) rfl rfl (any_of HT_.out (by kernel_rfl)) (fun _ _ _ h => h) (Or.inl ⟨by rfl, ?_⟩) ?_ ?_;rotate_left;(intro w';go_simp;with_reducible rfl);rotate_left;(simp only [ps_];rfl)
     refine take_ (i := 0) (N := some 16) (v := ?_) (a' := ?_) (bm 11 187) rfl rfl (take_ofW HT_.out HW_.out (by kernel_rfl)) (fun _ _ _ h => h) (Or.inl ⟨by rfl, ?_⟩) hHeld ?_ ?_;rotate_left;(rintro w' ⟨s0, s1, s2, s3⟩;go_simp;with_reducible rfl);rotate_left;(simp only [ps_];rfl)
     refine take_ (i := 2) (N := some 18) (v := ?_) (a' := ?_) (bm 11 191) rfl rfl (take_ofW HT_.out HW_.out (by kernel_rfl)) (fun _ _ _ h => h) (Or.inl ⟨by rfl, ?_⟩) hHeld ?_ ?_;rotate_left;(rintro w' ⟨s0, s1, s2, s3⟩;go_simp;with_reducible rfl);rotate_left;(simp only [ps_];rfl)
     refine take_ (i := 6) (N := some 22) (v := ?_) (a' := ?_) (bm 11 255) rfl rfl (take_ofW HT_.out HW_.out (by kernel_rfl)) (fun _ _ _ h => h) (Or.inl ⟨by rfl, ?_⟩) hHeld ?_ ?_;rotate_left;(rintro w' ⟨s0, s1, s2, s3⟩;go_simp;with_reducible rfl);rotate_left;(simp only [ps_];rfl)
     refine one_ (i := 8) (N := some 24) (bm 11 511) rfl rfl (one_of HT_.out (by kernel_rfl)) (by decide) (fun K hK => ?_)
     refine goes_ Try.func44 (by kernel_rfl) rfl #[.agg #[.int .i64 a0_0, .int .i64 a0_1, .slice A0_2 l0_2.length c0_2], .int .i64 (rd l1 x9_1), .int .i64 x8_1] (by rfl) rfl rfl (by ((simp only [List.map_toArray, List.map_cons, List.map_nil])); (rfl)) ?_
     with_reducible refine (codewrightref04_Mul.calls k1 a0_0 a0_1 _ _ l0_2 (rd l1 x9_1) x8_1 t629 _ ?side1 ?side2 A7.out).mono ?_
     (case side1 => repeat ((exact (Kd.C_below HR0_2.out HB.out))))
     (case side2 => exact HC0_2.out)
     rintro e w11 ⟨rfl, hb⟩
     refine ⟨_, rfl, ?_⟩
     have n0_ := Aside0.mk (blk_below (g := gb627) (o := .cells #[.int .i64 a0_0, .int .i64 a0_1, .slice A0_2 l0_2.length c0_2] 24 (0, 0)) BK627.out hb)
     have n1_ := Aside0.mk (below_step HB.out hb)
     clear BK627 HB
     have BK627 := n0_
     have HB := n1_
     clear n0_ n1_
     ((clear hb))
     refine hK.out _ _ ⟨(blk_cell BK627.out 0).trans rfl, (blk_cell BK627.out 1).trans rfl, (blk_cell BK627.out 2).trans rfl, ((HB.out.cell (World.block_lt_of_cell? w _ hw628_0)).trans hw628_0)⟩ (fun hHeld => ?_)
     clear hK K
     refine norm_ (a' := ?_) ?_ ?_
     rotate_left
     ·show Act.put _ (some 24) _ = _
      simp only [Act.put, List.setIfInBounds_toArray, List.set_cons_zero, List.set_cons_succ, i64_w, i32_w]
      rfl
     refine one_ (i := 9) (N := some 25) (bm 11 1023) rfl rfl (one_of HT_.out (by kernel_rfl)) (by decide) (fun K hK => ?_)
     refine goes_ Try.func43 (by kernel_rfl) rfl #[.agg #[.int .i64 a0_0, .int .i64 a0_1, .slice A0_2 l0_2.length c0_2], .int .i64 x7_1, .int .i64 t629] (by rfl) rfl rfl (by ((simp only [List.map_toArray, List.map_cons, List.map_nil])); (rfl)) ?_
     with_reducible refine (codewrightref04_Add.calls k1 a0_0 a0_1 _ _ l0_2 x7_1 t629 t630 _ ?side1 ?side2 A8.out).mono ?_
     (case side1 => repeat ((exact (Kd.C_below HR0_2.out HB.out))))
     (case side2 => exact HC0_2.out)
     rintro e w12 ⟨rfl, hb⟩
     refine ⟨_, rfl, ?_⟩
     have n0_ := Aside0.mk (blk_below (g := gb627) (o := .cells #[.int .i64 a0_0, .int .i64 a0_1, .slice A0_2 l0_2.length c0_2] 24 (0, 0)) BK627.out hb)
     have n1_ := Aside0.mk (below_step HB.out hb)
     clear BK627 HB
     have BK627 := n0_
     have HB := n1_
     clear n0_ n1_
     ((clear hb))
     refine hK.out _ _ ⟨(blk_cell BK627.out 0).trans rfl, (blk_cell BK627.out 1).trans rfl, (blk_cell BK627.out 2).trans rfl, ((HB.out.cell (World.block_lt_of_cell? w _ hw628_0)).trans hw628_0)⟩ (fun hHeld => ?_)
     clear hK K
     refine norm_ (a' := ?_) ?_ ?_
     rotate_left
     ·show Act.put _ (some 25) _ = _
      simp only [Act.put, List.setIfInBounds_toArray, List.set_cons_zero, List.set_cons_succ, i64_w, i32_w]
      rfl
     refine pure_ (i := 10) (N := some 7) (v := ?_) (a' := ?_) (bm 11 2047) rfl rfl (any_of HT_.out (by kernel_rfl)) (fun _ _ _ h => h) (Or.inl ⟨by rfl, ?_⟩) ?_ ?_;rotate_left;(intro w';go_simp;with_reducible rfl);rotate_left;(simp only [ps_];rfl)
     refine done_ (done_of HT_.out (by kernel_rfl)) ?_
     have hcz13_0 : w12.cell? ⟨gb627, 0, none⟩ = some (.int .i64 a0_0) := (blk_cell BK627.out 0).trans rfl
     have hcz13_1 : w12.cell? ⟨gb627, 1, none⟩ = some (.int .i64 a0_1) := (blk_cell BK627.out 1).trans rfl
     have hcz13_2 : w12.cell? ⟨gb627, 2, none⟩ = some (.slice A0_2 l0_2.length c0_2) := (blk_cell BK627.out 2).trans rfl
     have hfz13_0 := blk_frozen BK627.out 0
     have hfz13_1 := blk_frozen BK627.out 1
     have hfz13_2 := blk_frozen BK627.out 2
     (go_wp2_with (((with_reducible refine gate_callee (f := 44) rfl ?_); refine goesL_ (some 29) rfl rfl Try.func44 (by kernel_rfl) rfl #[.agg #[.int .i64 a0_0, .int .i64 a0_1, .slice A0_2 l0_2.length c0_2], .int .i64 x8_1, .int .i64 a2] rfl (by ((simp only [List.map_toArray, List.map_cons, List.map_nil])); (rfl)) ?_; (with_reducible refine (codewrightref04_Mul.calls k1 a0_0 a0_1 _ _ l0_2 x8_1 a2 t631 _ ?side1 ?side2 A9.out).mono ?_); (case side1 => repeat ((exact (Kd.C_below HR0_2.out HB.out)))); (case side2 => exact HC0_2.out); rintro e w14 ⟨rfl, hb⟩; refine ⟨_, rfl, ?_⟩; have n0_ := Aside0.mk (blk_below (g := gb627) (o := .cells #[.int .i64 a0_0, .int .i64 a0_1, .slice A0_2 l0_2.length c0_2] 24 (0, 0)) BK627.out hb); have n1_ := Aside0.mk (below_step HB.out hb); clear BK627; clear HB; have BK627 := n0_; have HB := n1_; clear n0_ n1_; ((clear hb)); (skip); (skip); (skip))))
     go_roundg k1
     case measure => have := HK1.out; omega
     case rel => exact ⟨(t630), (t631), (wrap64 (x9_1 + 1)), (by rfl), (by rfl), (by rfl), H', ⟨by have := HK1.out; omega⟩, ⟨BK627.out⟩, ⟨by exact HB.out⟩⟩
    ·rw [if_neg c6] at H
     exact absurd H (by simp)
   ·rw [if_neg c5] at H
    have c5b0 : decide (x9_1 < (l1.length : Int)) = false := decide_eq_false c5
    clear c5
    obtain rfl := Option.some.inj H
    go_wp2
    go_ret
    exact ⟨by rfl, by exact HB.out⟩
end Go.Proofs.Ytiejggpmjapajaa.PA
end
section
namespace Go.Proofs.Ytiejggpmjapajaa.PA
open Go.RowKit Go.Proofs.YtiejggpmjapajaaW.PrintWords Go.Proofs.YtiejggpmjapajaaW.PrintLast Go.Proofs.YtiejggpmjapajaaW.PrintMore
set_option linter.unusedVariables false
theorem step_append_fresh {P : Program} {ops : Array Oper} {o : Oper} {a : Act} {w : World} {K : Act → World → Prop} {Q : Exit → Act → World → Prop}
    (hgd : o.guard = none) (s x : Operand) (t e : TypeId) (ho : o.op = Op.call { callee := Callee.builtin Builtin.append, args := #[s, x], argTypes := #[t, t] })
    (ht : P.underlying t = some (.slice e)) (hinfo : (P.info? e).map (fun i => (i.zero, i.size, i.bytes)) = some (some (.int .i64 0), 1, 8))
    (g : Nat) (A : Option Addr) (c : Nat) (md : List Int) (hs : a.eval s = .slice (some ⟨g, 0, none⟩) 0 0) (hx : a.eval x = .slice A md.length c)
    (hg : w.heap[g]? = some (.cells #[] e (0, 0))) (HC : Kd.C (Kd.int .i64) w A md.length md) (hl : md.length ≤ 8)
    (h : ∀ A1 c1 w1, Aside0 (Kd.C (Kd.int .i64) w1 A1 md.length md ∧ md.length ≤ c1 ∧ g < w.heap.size ∧ w.grownBy w1 (some g) ∧ ∀ ad, A1 = some ad → ad.block = g ∨ w.heap.size ≤ ad.block) → K (a.put o.dst (.slice A1 md.length c1)) w1) :
    if Region.wanted o (yielded ops a.tmps) = true then Oper.wp P o a w K Q else K (a.put o.dst undef) w := by
  have hw : Region.wanted o (yielded ops a.tmps) = true := by simp [Region.wanted, hgd]
  have hR : Kd.R (Kd.int .i64) e w 0 (fun _ => True) (.slice (some ⟨g, 0, none⟩) 0 0) [] := by
    refine Kd.R_of_own ⟨rfl, .inr ⟨g, 0, #[], rfl, Nat.zero_le _, hg, Nat.le_refl _, by decide, rfl, rfl⟩⟩ (fun _ _ => trivial)
  refine Kd.R_append_rows_step (Kd.int .i64) (w0 := w) 0 hw s x t e (.int .i64 0) 8 ho ht hinfo rfl (by decide) (by decide) (.slice (some ⟨g, 0, none⟩) 0 0) [] md A md.length c (fun _ => True) (fun _ => False) hs hx hR HC (fun x cs hk => hk) (fun _ hk => hk.elim) (fun _ _ => trivial) (Below.refl _ _) (Nat.zero_le _) ?_ ?_
  · simp only [List.length_nil]; omega
  · intro v1 w1 h1 _ hgr hat
    obtain ⟨A1, c1, rfl, hc, hC⟩ := Kd.R_reads h1
    refine h A1 c1 w1 ⟨hC, hc, blk_lt hg, hgr, ?_⟩
    rintro ad rfl
    rcases hat with hat | ⟨b, hb, hl⟩
    · exact .inl (by simpa [Value.ownBlock] using hat)
    · exact .inr (by have hb' : ad.block = b := (by simpa [Value.ownBlock] using hb); omega)
theorem grown_below {w0 W w1 : World} {g : Nat} (h : Below w0.heap.size w0 W) (hg : w0.heap.size ≤ g) (HG : g ≤ W.heap.size) (k : W.grownBy w1 (some g)) : Below w0.heap.size w0 w1 :=
  below_weaken h hg ⟨k.os, k.tape, k.output, k.size, fun j hj => k.block j (Nat.lt_of_lt_of_le hj HG) (fun e => by injection e with e; omega)⟩
theorem blk_new1 (w : World) (a b : Obj) : ((w.alloc a).alloc b).heap[w.heap.size + 1]? = some b := by
  have h := blk_new (w.alloc a) b
  have e : (w.alloc a).heap.size = w.heap.size + 1 := by unfold World.alloc; exact Array.size_push _
  rwa [e] at h
end Go.Proofs.Ytiejggpmjapajaa.PA
end
section
namespace Go.Proofs.Ytiejggpmjapajaa.PA
open Go.RowKit Go.Proofs.YtiejggpmjapajaaW.PrintWords Go.Proofs.YtiejggpmjapajaaW.PrintLast Go.Proofs.YtiejggpmjapajaaW.PrintMore
attribute [local go_sem] max2_int min2_int max_two min_two max_three min_three max_four min_four
set_option linter.unusedVariables false
set_option linter.unusedSimpArgs false
end Go.Proofs.Ytiejggpmjapajaa.PA
end
section
namespace Go.Proofs.Ytiejggpmjapajaa.PA
open Go.RowKit Go.Proofs.YtiejggpmjapajaaW.PrintWords Go.Proofs.YtiejggpmjapajaaW.PrintLast Go.Proofs.YtiejggpmjapajaaW.PrintMore
attribute [local go_sem] max2_int min2_int max_two min_two max_three min_three max_four min_four
set_option linter.unusedVariables false
set_option linter.unusedSimpArgs false
end Go.Proofs.Ytiejggpmjapajaa.PA
end
section
namespace Go.Proofs.Ytiejggpmjapajaa.PA
open Go.RowKit Go.Proofs.YtiejggpmjapajaaW.PrintWords Go.Proofs.YtiejggpmjapajaaW.PrintLast Go.Proofs.YtiejggpmjapajaaW.PrintMore
attribute [local go_sem] max2_int min2_int max_two min_two max_three min_three max_four min_four
set_option linter.unusedVariables false
set_option linter.unusedSimpArgs false
def poly_Eval.l0 : Nat → List Int → Int → Int → Int → Int → Int → List Int → Int → List Int → List Int → Option (Int × Int × Int × Int)
 | 0, _, _, _, _, _, _, _, _, _, _ => none
 | k + 1, x1, x2, x7, x8, x1000, x1001, x1002, x1003, x1004, x1005 => if x8 ≥ 0 then ((field_GF_Mul.f x1000 x1001 x1002 x1003 x1004 x1005 x7 x2).bind fun bt730 => (if 0 ≤ x8 then (if x8 < (x1.length : Int) then ((field_GF_Add.f k bt730.2.1 bt730.2.2.1 x1002 bt730.2.2.2 x1004 x1005 bt730.1 (rd x1 x8)).bind fun bt735 => (poly_Eval.l0 k x1 x2 bt735.1 (wrap64 (x8 - 1)) bt735.2.1 bt735.2.2.1 x1002 bt735.2.2.2 x1004 x1005)) else (none)) else (none))) else (some (x7, x1000, x1001, x1003))
def poly_Eval.f (k : Nat) (s0_0 : Int) (s0_1 : Int) (s0_2 : List Int) (s0_3 : Int) (s0_4 : List Int) (s0_5 : List Int) (l1 : List Int) (a2 : Int) : Option (Int × Int × Int × Int) := poly_Eval.l0 k l1 a2 0 (wrap64 ((l1.length : Int) - 1)) s0_0 s0_1 s0_2 s0_3 s0_4 s0_5
def poly_Eval.T5 : Bool × List (List Nat × List Nat) := (true, [([], []), ([], []), ([], []), ([], []), ([1, 2, 3], [1, 2, 3]), ([], []), ([], []), ([5, 6], [5, 6]), ([7], [7]), ([0, 4, 8, 4], [0, 4, 8]), ([9, 9, 0, 1, 2, 3, 4, 5, 6, 7, 8, 9], [2, 9])])
def poly_Eval.B5 : List Nat := [0, 0, 0, 0, 14, 0, 0, 96, 224, 511, 1023]
theorem poly_Eval.tab5 : rtab .any (opsOf Try.f54 5) = poly_Eval.T5 := by kernel_rfl
theorem poly_Eval.bits5 : waitsOk poly_Eval.T5.2 poly_Eval.B5 = true := by kernel_rfl
set_option maxHeartbeats 8000000 in
set_option maxRecDepth 100000 in
theorem poly_Eval.calls (k : Nat) (g : Nat) (s0_0 : Int) (s0_1 : Int) (s0_2 : List Int) (s0_3 : Int) (s0_4 : List Int) (s0_5 : List Int) (A1 : Option Addr) (c1 : Nat) (l1 : List Int) (a2 : Int) (r1 : Int) (r2 : Int) (r3 : Int) (r4 : Int) (w0 w : World) (hI : IsS85 w0 w g s0_0 s0_1 s0_2 s0_3 s0_4 s0_5) (hB : Below w0.heap.size w0 w) (hr1 : Kd.C (Kd.int .i64) w A1 l1.length l1) (hc1 : l1.length ≤ c1) (hf1 : ∀ ad, A1 = some ad → 0 < l1.length → ad.block ≠ g) (h : poly_Eval.f k s0_0 s0_1 s0_2 s0_3 s0_4 s0_5 l1 a2 = some (r1, r2, r3, r4)) :
  Calls Try.prog 54 #[.pointer (some ⟨g, 0, none⟩), .slice A1 l1.length c1, .int .i64 a2] w fun e w' => e = .returned (.int .i64 r1) ∧ IsS85 w0 w' g r2 r3 s0_2 r4 s0_4 s0_5 ∧ Below w0.heap.size w0 w' ∧ KeepBut w w' g none := by
 have HR1 := Aside0.mk hr1
 have HC1 := Aside0.mk hc1
 clear hr1 hc1
 have HI0 := Aside0.mk hI
 have HK := Aside0.mk (KeepBut.refl w g none)
 have HL := Aside0.mk hB.size
 clear hI
 have HW0 := Aside0.mk hB.size
 have HB := Aside0.mk hB
 clear hB
 have H : (poly_Eval.l0 k l1 a2 0 (wrap64 ((l1.length : Int) - 1)) s0_0 s0_1 s0_2 s0_3 s0_4 s0_5) = some (r1, r2, r3, r4) := h
 clear h
 have H' := Aside0.mk H
 clear H
 go_enter Try.func54, Try.ntmps54
 go_wp2
 go_loopg [7, 8] k (fun kq v7 v8 w' => ∃ (x7_1 : Int) (x8_1 : Int) (x1000_1 : Int) (x1001_1 : Int) (x1003_1 : Int), v7 = .int .i64 x7_1 ∧ v8 = .int .i64 x8_1 ∧ Aside0 (poly_Eval.l0 kq l1 a2 x7_1 x8_1 x1000_1 x1001_1 s0_2 x1003_1 s0_4 s0_5 = some (r1, r2, r3, r4)) ∧ Aside0 (kq ≤ k) ∧ Aside0 (IsS85 w0 w' g x1000_1 x1001_1 s0_2 x1003_1 s0_4 s0_5) ∧ Aside0 (KeepBut w w' g none) ∧ Aside0 (Below w0.heap.size w0 w'))
 case atStart => exact ⟨(0), (wrap64 ((l1.length : Int) - 1)), (s0_0), (s0_1), (s0_3), (by rfl), (by rfl), H', ⟨Nat.le_refl _⟩, ⟨by exact HI0.out⟩, ⟨by exact HK.out⟩, ⟨by exact HB.out⟩⟩
 case round =>
  clear H'
  obtain ⟨x7_1, x8_1, x1000_1, x1001_1, x1003_1, rfl, rfl, HA, HK1, HI0, HK, HB⟩ := hrel
  cases gk with
  | zero => exact absurd HA.out (by simp [poly_Eval.l0])
  | succ k1 =>
   have H := HA.out
   clear HA
   simp only [poly_Eval.l0] at H
   by_cases c4 : x8_1 ≥ 0
   ·rw [if_pos c4] at H
    have c4b0 : decide (0 ≤ x8_1) = true := decide_eq_true c4
    clear c4
    replace H := Option.bind_eq_some_iff.mp H
    obtain ⟨⟨t730, t731, t732, t733⟩, A50, H⟩ := H
    replace H : (if 0 ≤ x8_1 then (if x8_1 < (l1.length : Int) then ((field_GF_Add.f k1 t731 t732 s0_2 t733 s0_4 s0_5 t730 (rd l1 x8_1)).bind fun bt735 => (poly_Eval.l0 k1 l1 a2 bt735.1 (wrap64 (x8_1 - 1)) bt735.2.1 bt735.2.2.1 s0_2 bt735.2.2.2 s0_4 s0_5)) else (none)) else (none)) = some (r1, r2, r3, r4) := H
    have A5 := Aside0.mk A50
    clear A50
    by_cases c6 : 0 ≤ x8_1
    ·rw [if_pos c6] at H
     have c6b0 : decide (0 ≤ x8_1) = true := decide_eq_true c6
     clear c6
     by_cases c7 : x8_1 < (l1.length : Int)
     ·rw [if_pos c7] at H
      have c7b0 : decide (x8_1 < (l1.length : Int)) = true := decide_eq_true c7
      clear c7
      replace H := Option.bind_eq_some_iff.mp H
      obtain ⟨⟨t735, t736, t737, t738⟩, A80, H⟩ := H
      replace H : (poly_Eval.l0 k1 l1 a2 t735 (wrap64 (x8_1 - 1)) t736 t737 s0_2 t738 s0_4 s0_5) = some (r1, r2, r3, r4) := H
      have A8 := Aside0.mk A80
      clear A80
      have H' := Aside0.mk H
      clear H
      (go_wp2)
      have n0_ := Aside0.mk (IsS85.drew HI0.out)
      have n1_ := Aside0.mk (keep_drew HK.out)
      have n2_ := Aside0.mk (below_drew1 HB.out)
      clear HI0 HK HB
      have HI0 := n0_
      have HK := n1_
      have HB := n2_
      clear n0_ n1_ n2_
      have p734 : 0 ≤ (x8_1 : Int) := of_decide_eq_true (by (with_reducible assumption))
      have q734 : x8_1 < (l1.length : Int) := of_decide_eq_true (by (with_reducible assumption))
      obtain ⟨ad734, e734, hx734_0⟩ := Kd.at_int HR1.out x8_1 p734 q734
      have hw734_0 := hx734_0
      cases e734
      have hne734_0 := (show ((ad734.add (x8_1).toNat) : Addr).block ≠ g from by (rw [add_block]; exact hf1 ad734 rfl (by omega)))
      replace hx734_0 := keep_cell HK.out hx734_0 (by (rw [add_block]; exact hf1 _ rfl (by omega)))
      replace p734 := eq_true p734
      replace q734 := eq_true q734
      refine start_ (n := 11) (S := fun w' => w'.cell? (ad734.add (x8_1).toNat) = some (.int .i64 (rd l1 x8_1))) (ds := []) (bm 11 0) (by kernel_rfl) rfl rfl ((keep_cell HK.out hw734_0 hne734_0)) (fun hHeld => ?_); refine with_tabW poly_Eval.tab5 poly_Eval.bits5 (fun HT_ HW_ => ?_)
      generalize wr.drew = w9 at HI0 HK HB hx734_0 hHeld ⊢
      refine pure_ (i := 0) (N := some 16) (v := ?_) (a' := ?_) (bm 11 1) rfl rfl (any_of HT_.out (by kernel_rfl)) (fun _ _ _ h => h) (Or.inl ⟨by rfl, ?_⟩) ?_ ?_;rotate_left;(intro w';go_simp;with_reducible rfl);rotate_left;(simp only [ps_];rfl)
      refine pure_ (i := 1) (N := some 17) (v := ?_) (a' := ?_) (bm 11 3) rfl rfl (any_of HT_.out (by kernel_rfl)) (fun _ _ _ h => h) (Or.inl ⟨by rfl, ?_⟩) ?_ ?_;rotate_left;(intro w';go_simp;with_reducible rfl);rotate_left;(simp only [ps_];rfl)
      refine pure_ (i := 2) (N := some 18) (v := ?_) (a' := ?_) (bm 11 7) rfl rfl (any_of HT_.out (by kernel_rfl)) (fun _ _ _ h => h) (Or.inl ⟨by rfl, ?_⟩) ?_ ?_;rotate_left;(intro w';go_simp;with_reducible rfl);rotate_left;(simp only [ps_];rfl)
      refine pure_ (i := 3) (N := some 19) (v := ?_) (a' := ?_) (bm 11 15) rfl rfl (any_of HT_.out (by kernel_rfl)) (fun _ _ _ h => h) (Or.inl ⟨by rfl, ?_⟩) ?_ ?_;rotate_left;(intro w';go_simp;with_reducible rfl);rotate_left;(simp only [ps_];rfl)
      refine pure_ (i := 5) (N := some 21) (v := ?_) (a' := ?_) (bm 11 47) rfl rfl (any_of HT_.out (by kernel_rfl)) (fun _ _ _ h => h) (Or.inl ⟨by rfl, ?_⟩) ?_ ?_;rotate_left;(intro w';go_simp;with_reducible rfl);rotate_left;(simp only [ps_];rfl)
      refine pure_ (i := 6) (N := some 22) (v := ?_) (a' := ?_) (bm 11 111) rfl rfl (any_of HT_.out (by kernel_rfl)) (fun _ _ _ h => h) (Or.inl ⟨by rfl, ?_⟩) ?_ ?_;rotate_left;(intro w';go_simp;with_reducible rfl);rotate_left;(simp only [ps_];rfl)
      refine pure_ (i := 7) (N := some 23) (v := ?_) (a' := ?_) (bm 11 239) rfl rfl (any_of HT_.out (by kernel_rfl)) (fun _ _ _ h => h) (Or.inl ⟨by rfl, ?_⟩) ?_ ?_;rotate_left;(intro w';go_simp;with_reducible rfl);rotate_left;(simp only [ps_];rfl)
      refine take_ (i := 8) (N := some 24) (v := ?_) (a' := ?_) (bm 11 495) rfl rfl (take_ofW HT_.out HW_.out (by kernel_rfl)) (fun _ _ _ h => h) (Or.inl ⟨by rfl, ?_⟩) hHeld ?_ ?_
      rotate_left
      ·intro w' s0
       go_simp
       with_reducible rfl
      rotate_left
      ·simp only [Act.put, List.setIfInBounds_toArray, List.set_cons_zero, List.set_cons_succ, i64_w, i32_w]
       rfl
      refine one_ (i := 4) (N := some 20) (bm 11 511) rfl rfl (one_of HT_.out (by kernel_rfl)) (by decide) (fun K hK => ?_)
      refine goes_ Try.func49 (by kernel_rfl) rfl #[.pointer (some ⟨g, 0, none⟩), .int .i64 x7_1, .int .i64 a2] (by rfl) rfl rfl (by ((simp only [List.map_toArray, List.map_cons, List.map_nil])); (rfl)) ?_
      with_reducible refine (field_GF_Mul.calls g x1000_1 x1001_1 s0_2 x1003_1 s0_4 s0_5 x7_1 a2 t730 t731 t732 t733 w0 _ ?side1 ?side2 A5.out).mono ?_
      (case side1 => repeat ((with_reducible (exact HI0.out))))
      (case side2 => repeat ((with_reducible (exact HB.out))))
      rintro e w10 ⟨rfl, hi, hb, hk⟩
      refine ⟨_, rfl, ?_⟩
      have n0_ := Aside0.mk (KeepBut.trans HK.out hk (.inl rfl))
      have n1_ := Aside0.mk (hb)
      have n2_ := Aside0.mk (hi)
      clear HK HB HI0
      have HK := n0_
      have HB := n1_
      have HI0 := n2_
      clear n0_ n1_ n2_
      ((clear hb))
      ((clear hk))
      ((clear hi))
      refine hK.out _ _ ((keep_cell HK.out hw734_0 hne734_0)) (fun hHeld => ?_)
      clear hK K
      refine norm_ (a' := ?_) ?_ ?_
      rotate_left
      ·show Act.put _ (some 20) _ = _
       simp only [Act.put, List.setIfInBounds_toArray, List.set_cons_zero, List.set_cons_succ, i64_w, i32_w]
       rfl
      refine one_ (i := 9) (N := some 25) (bm 11 1023) rfl rfl (one_of HT_.out (by kernel_rfl)) (by decide) (fun K hK => ?_)
      refine goes_ Try.func58 (by kernel_rfl) rfl #[.pointer (some ⟨g, 0, none⟩), .int .i64 t730, .int .i64 (rd l1 x8_1)] (by rfl) rfl rfl (by ((simp only [List.map_toArray, List.map_cons, List.map_nil])); (rfl)) ?_
      with_reducible refine (field_GF_Add.calls k1 g t731 t732 s0_2 t733 s0_4 s0_5 t730 (rd l1 x8_1) t735 t736 t737 t738 w0 _ ?side1 ?side2 A8.out).mono ?_
      (case side1 => repeat ((with_reducible (exact HI0.out))))
      (case side2 => repeat ((with_reducible (exact HB.out))))
      rintro e w11 ⟨rfl, hi, hb, hk⟩
      refine ⟨_, rfl, ?_⟩
      have n0_ := Aside0.mk (KeepBut.trans HK.out hk (.inl rfl))
      have n1_ := Aside0.mk (hb)
      have n2_ := Aside0.mk (hi)
      clear HK HB HI0
      have HK := n0_
      have HB := n1_
      have HI0 := n2_
      clear n0_ n1_ n2_
      ((clear hb))
      ((clear hk))
      ((clear hi))
      refine hK.out _ _ ((keep_cell HK.out hw734_0 hne734_0)) (fun hHeld => ?_)
      clear hK K
      refine norm_ (a' := ?_) ?_ ?_
      rotate_left
      ·show Act.put _ (some 25) _ = _
       simp only [Act.put, List.setIfInBounds_toArray, List.set_cons_zero, List.set_cons_succ, i64_w, i32_w]
       rfl
      refine pure_ (i := 10) (N := some 7) (v := ?_) (a' := ?_) (bm 11 2047) rfl rfl (any_of HT_.out (by kernel_rfl)) (fun _ _ _ h => h) (Or.inl ⟨by rfl, ?_⟩) ?_ ?_;rotate_left;(intro w';go_simp;with_reducible rfl);rotate_left;(simp only [ps_];rfl)
      refine done_ (done_of HT_.out (by kernel_rfl)) ?_
      (go_wp2)
      go_roundg k1
      case measure => have := HK1.out; omega
      case rel => exact ⟨(t735), (wrap64 (x8_1 - 1)), (t736), (t737), (t738), (by rfl), (by rfl), H', ⟨by have := HK1.out; omega⟩, ⟨by exact HI0.out⟩, ⟨by exact HK.out⟩, ⟨by exact HB.out⟩⟩
     ·rw [if_neg c7] at H
      exact absurd H (by simp)
    ·rw [if_neg c6] at H
     exact absurd H (by simp)
   ·rw [if_neg c4] at H
    have c4b0 : decide (0 ≤ x8_1) = false := decide_eq_false c4
    clear c4
    simp only [Option.some.injEq, Prod.mk.injEq] at H
    obtain ⟨rfl, rfl, rfl, rfl⟩ := H
    go_wp2
    go_ret
    exact ⟨by rfl, by exact HI0.out, by exact HB.out, by exact HK.out⟩
def codewrightref05_Roots.l0 : Nat → List Int → List Int → Int → Int → Int → List Int → Option (List Int)
 | 0, _, _, _, _, _, _ => none
 | k + 1, x1, x5, x6, x740000, x740001, x740002 => (codewrightref04_Order.f k x740000 x740001 x740002).bind fun t740 => (if x6 < t740 then ((codewrightref05_Eval.f k x740000 x740001 x740002 x1 x6).bind fun t741 => (if t741 = 0 then (if x5.length < 17592186044416 then (codewrightref05_Roots.l0 k x1 (x5 ++ [x6]) (wrap64 (x6 + 1)) x740000 x740001 x740002) else (none)) else (codewrightref05_Roots.l0 k x1 x5 (wrap64 (x6 + 1)) x740000 x740001 x740002))) else (some x5))
def codewrightref05_Roots.f (k : Nat) (a0_0 : Int) (a0_1 : Int) (l0_2 : List Int) (l1 : List Int) : Option (List Int) := codewrightref05_Roots.l0 k l1 ([] : List Int) 0 a0_0 a0_1 l0_2
set_option maxHeartbeats 8000000 in
set_option maxRecDepth 100000 in
theorem codewrightref05_Roots.calls (k : Nat) (a0_0 : Int) (a0_1 : Int) (A0_2 : Option Addr) (c0_2 : Nat) (l0_2 : List Int) (A1 : Option Addr) (c1 : Nat) (l1 : List Int) (r : List Int) (w : World) (hr0_2 : Kd.C (Kd.int .i64) w A0_2 l0_2.length l0_2) (hc0_2 : l0_2.length ≤ c0_2) (hr1 : Kd.C (Kd.int .i64) w A1 l1.length l1) (hc1 : l1.length ≤ c1) (h : codewrightref05_Roots.f k a0_0 a0_1 l0_2 l1 = some r) :
  Calls Try.prog 28 #[.agg #[.int .i64 a0_0, .int .i64 a0_1, .slice A0_2 l0_2.length c0_2], .slice A1 l1.length c1] w fun e w' => ∃ v0_ : Value, e = .returned (v0_) ∧ Kd.R (Kd.int .i64) 3 w' w.heap.size (fun _ => True) v0_ r ∧ Below w.heap.size w w' := by
 have hu24 := Try.underlying24
 have HR0_2 := Aside0.mk hr0_2
 have HC0_2 := Aside0.mk hc0_2
 clear hr0_2 hc0_2
 have HR1 := Aside0.mk hr1
 have HC1 := Aside0.mk hc1
 clear hr1 hc1
 have HB := Aside0.mk (Below.refl w.heap.size w)
 have H : (codewrightref05_Roots.l0 k l1 ([] : List Int) 0 a0_0 a0_1 l0_2) = some r := h
 clear h
 have H' := Aside0.mk H
 clear H
 go_enter Try.func28, Try.ntmps28
 go_wp2_with (((with_reducible refine gate_dst (N := 2) rfl ?_); refine box_event ?hg (N := 2) ?hd (cs := #[.int .i64 a0_0, .int .i64 a0_1, .slice A0_2 l0_2.length c0_2]) (t := 24) ?hr ?_; (case hd => rfl); (case hg => rfl); (case hr => (go_simp; done)); intro gb739 hg w3 hbox hb; have n0_ := Aside0.mk (below_step HB.out hb); have n1_ := Aside0.mk (hbox); have n2_ := Aside0.mk ((by rw [hg]; exact (below_size HB.out) : w.heap.size ≤ gb739)); have n3_ := Aside0.mk ((by rw [hg]; exact (below_size HB.out) : w.heap.size ≤ gb739)); clear HB; have HB := n0_; have BK739 := n1_; have GW739 := n2_; have GE739 := n3_; clear n0_ n1_ n2_ n3_; clear hb hbox hg))
 go_loopg [5, 6] k (fun kq v5 v6 w' => ∃ (x5_1 : List Int) (x6_1 : Int), v6 = .int .i64 x6_1 ∧ Aside0 (codewrightref05_Roots.l0 kq l1 x5_1 x6_1 a0_0 a0_1 l0_2 = some r) ∧ Aside0 (kq ≤ k) ∧ Aside0 (Kd.R (Kd.int .i64) 3 w' w.heap.size (fun _ => True) v5 x5_1) ∧ Aside0 (w'.heap[gb739]? = some (.cells #[.int .i64 a0_0, .int .i64 a0_1, (.slice A0_2 l0_2.length c0_2)] 24 (0, 0))) ∧ Aside0 (Below w.heap.size w w'))
 case atStart => exact ⟨(([] : List Int)), (0), (by rfl), H', ⟨Nat.le_refl _⟩, ⟨by (exact Kd.R_nil _ _ _ _ _)⟩, ⟨BK739.out⟩, ⟨by exact HB.out⟩⟩
 case round =>
  clear H'
  obtain ⟨x5_1, x6_1, rfl, HA, HK1, HO_5, BK739, HB⟩ := hrel
  cases gk with
  | zero => exact absurd HA.out (by simp [codewrightref05_Roots.l0])
  | succ k1 =>
   have H := HA.out
   clear HA
   simp only [codewrightref05_Roots.l0] at H
   obtain ⟨t740, A40, H⟩ := Option.bind_eq_some_iff.mp H
   replace H : (if x6_1 < t740 then ((codewrightref05_Eval.f k1 a0_0 a0_1 l0_2 l1 x6_1).bind fun t741 => (if t741 = 0 then (if x5_1.length < 17592186044416 then (codewrightref05_Roots.l0 k1 l1 (x5_1 ++ [x6_1]) (wrap64 (x6_1 + 1)) a0_0 a0_1 l0_2) else (none)) else (codewrightref05_Roots.l0 k1 l1 x5_1 (wrap64 (x6_1 + 1)) a0_0 a0_1 l0_2))) else (some x5_1)) = some r := H
   have A4 := Aside0.mk A40
   clear A40
   by_cases c5 : x6_1 < t740
   ·rw [if_pos c5] at H
    have c5b0 : decide (x6_1 < t740) = true := decide_eq_true c5
    clear c5
    obtain ⟨t741, A60, H⟩ := Option.bind_eq_some_iff.mp H
    replace H : (if t741 = 0 then (if x5_1.length < 17592186044416 then (codewrightref05_Roots.l0 k1 l1 (x5_1 ++ [x6_1]) (wrap64 (x6_1 + 1)) a0_0 a0_1 l0_2) else (none)) else (codewrightref05_Roots.l0 k1 l1 x5_1 (wrap64 (x6_1 + 1)) a0_0 a0_1 l0_2)) = some r := H
    have A6 := Aside0.mk A60
    clear A60
    by_cases c7 : t741 = 0
    ·rw [if_pos c7] at H
     have c7b0 : (t741 == 0) = true := beq_iff_eq.mpr c7
     have c7b1 : (t741 != 0) = false := bne_eq_false_iff_eq.mpr c7
     clear c7
     by_cases c8 : x5_1.length < 17592186044416
     ·rw [if_pos c8] at H
      have LMc8 := Aside0.mk c8
      clear c8
      obtain ⟨y742, hy742⟩ : ∃ y_ : List Int, y_ = (x5_1 ++ [x6_1]) := ⟨_, rfl⟩
      replace H : (codewrightref05_Roots.l0 k1 l1 y742 (wrap64 (x6_1 + 1)) a0_0 a0_1 l0_2) = some r := by (rw [hy742]; with_reducible exact H)
      have Ny742 := Aside0.mk hy742
      clear hy742
      have H' := Aside0.mk H
      clear H
      have hcz9_0 : wr.cell? ⟨gb739, 0, none⟩ = some (.int .i64 a0_0) := (blk_cell BK739.out 0).trans rfl
      have hcz9_1 : wr.cell? ⟨gb739, 1, none⟩ = some (.int .i64 a0_1) := (blk_cell BK739.out 1).trans rfl
      have hcz9_2 : wr.cell? ⟨gb739, 2, none⟩ = some (.slice A0_2 l0_2.length c0_2) := (blk_cell BK739.out 2).trans rfl
      have hfz9_0 := blk_frozen BK739.out 0
      have hfz9_1 := blk_frozen BK739.out 1
      have hfz9_2 := blk_frozen BK739.out 2
      go_wp2_with (first | ((with_reducible refine gate_callee (f := 55) rfl ?_); refine goesL_ (some 9) rfl rfl Try.func55 (by kernel_rfl) rfl #[.agg #[.int .i64 a0_0, .int .i64 a0_1, .slice A0_2 l0_2.length c0_2]] rfl (by ((simp only [List.map_toArray, List.map_cons, List.map_nil])); (rfl)) ?_; (with_reducible refine (codewrightref04_Order.calls k1 a0_0 a0_1 _ _ l0_2 t740 _ ?side1 ?side2 A4.out).mono ?_); (case side1 => repeat ((exact (Kd.C_below HR0_2.out HB.out)))); (case side2 => exact HC0_2.out); rintro e w10 ⟨rfl, hb⟩; refine ⟨_, rfl, ?_⟩; have n0_ := Aside0.mk (Kd.R_below HO_5.out hb); have n1_ := Aside0.mk (blk_below (g := gb739) (o := .cells #[.int .i64 a0_0, .int .i64 a0_1, .slice A0_2 l0_2.length c0_2] 24 (0, 0)) BK739.out hb); have n2_ := Aside0.mk (below_step HB.out hb); clear HO_5; clear BK739; clear HB; have HO_5 := n0_; have BK739 := n1_; have HB := n2_; clear n0_ n1_ n2_; ((clear hb)); (skip); (skip); (skip); have hcz11_0 : w10.cell? ⟨gb739, 0, none⟩ = some (.int .i64 a0_0) := (blk_cell BK739.out 0).trans rfl; have hcz11_1 : w10.cell? ⟨gb739, 1, none⟩ = some (.int .i64 a0_1) := (blk_cell BK739.out 1).trans rfl; have hcz11_2 : w10.cell? ⟨gb739, 2, none⟩ = some (.slice A0_2 l0_2.length c0_2) := (blk_cell BK739.out 2).trans rfl; have hfz11_0 := blk_frozen BK739.out 0; have hfz11_1 := blk_frozen BK739.out 1; have hfz11_2 := blk_frozen BK739.out 2) | ((with_reducible refine gate_callee (f := 19) rfl ?_); refine goesL_ (some 16) rfl rfl Try.func19 (by kernel_rfl) rfl #[.agg #[.int .i64 a0_0, .int .i64 a0_1, .slice A0_2 l0_2.length c0_2], .slice A1 l1.length c1, .int .i64 x6_1] rfl (by ((simp only [List.map_toArray, List.map_cons, List.map_nil])); (rfl)) ?_; (with_reducible refine (codewrightref05_Eval.calls k1 a0_0 a0_1 _ _ l0_2 _ _ l1 x6_1 t741 _ ?side1 ?side2 ?side3 ?side4 A6.out).mono ?_); (case side1 => repeat ((exact (Kd.C_below HR0_2.out HB.out)))); (case side2 => exact HC0_2.out); (case side3 => repeat ((exact (Kd.C_below HR1.out HB.out)))); (case side4 => exact HC1.out); rintro e w12 ⟨rfl, hb⟩; refine ⟨_, rfl, ?_⟩; have n0_ := Aside0.mk (Kd.R_below HO_5.out hb); have n1_ := Aside0.mk (blk_below (g := gb739) (o := .cells #[.int .i64 a0_0, .int .i64 a0_1, .slice A0_2 l0_2.length c0_2] 24 (0, 0)) BK739.out hb); have n2_ := Aside0.mk (below_step HB.out hb); clear HO_5; clear BK739; clear HB; have HO_5 := n0_; have BK739 := n1_; have HB := n2_; clear n0_ n1_ n2_; ((clear hb)); (skip); (skip); (skip)) | ((with_reducible refine gate_builtin (b := .append) (xs := #[.tmp 18, .tmp 20]) rfl ?_); at_builtin; refine Kd.R_append (Kd.int .i64) (w0 := w) w.heap.size rfl (.tmp 18) (.tmp 20) 22 3 (.int .i64 0) 8 rfl Try.underlying22 info3 rfl (by decide) (by omega) u5 x5_1 x6_1 [.int .i64 x6_1] (fun _ => True) (fun _ => False) rfl rfl ?aP (fun _ hk => hk.elim) ?aF ?aO ?aB ?aS ?aL ?_; (case aP => exact rfl); (case aB => exact HB.out); (case aF => exact (fun _ _ => trivial)); (case aO => exact HO_5.out); (case aS => exact (below_size HB.out)); (case aL => have := LMc8.out; omega); intro v743 w13 ho hb hg hat; rw [← Ny742.out] at ho; have n0_ := Aside0.mk (blk_grown (g := gb739) (o := .cells #[.int .i64 a0_0, .int .i64 a0_1, .slice A0_2 l0_2.length c0_2] 24 (0, 0)) BK739.out hg (Kd.R_ne HO_5.out BK739.out (by decide))); have n1_ := Aside0.mk (hb); have n2_ := Aside0.mk (ho); clear BK739; clear HB; clear HO_5; have BK739 := n0_; have HB := n1_; have HO744 := n2_; clear n0_ n1_ n2_; clear ho hb hg hat))
      go_roundg k1
      case measure => have := HK1.out; omega
      case rel => exact ⟨(y742), (wrap64 (x6_1 + 1)), (by rfl), H', ⟨by have := HK1.out; omega⟩, ⟨HO744.out⟩, ⟨BK739.out⟩, ⟨by exact HB.out⟩⟩
     ·rw [if_neg c8] at H
      exact absurd H (by simp)
    ·rw [if_neg c7] at H
     have c7b0 : (t741 == 0) = false := beq_eq_false_iff_ne.mpr c7
     have c7b1 : (t741 != 0) = true := bne_iff_ne.mpr c7
     have H' := Aside0.mk H
     clear H
     have hcz14_0 : wr.cell? ⟨gb739, 0, none⟩ = some (.int .i64 a0_0) := (blk_cell BK739.out 0).trans rfl
     have hcz14_1 : wr.cell? ⟨gb739, 1, none⟩ = some (.int .i64 a0_1) := (blk_cell BK739.out 1).trans rfl
     have hcz14_2 : wr.cell? ⟨gb739, 2, none⟩ = some (.slice A0_2 l0_2.length c0_2) := (blk_cell BK739.out 2).trans rfl
     have hfz14_0 := blk_frozen BK739.out 0
     have hfz14_1 := blk_frozen BK739.out 1
     have hfz14_2 := blk_frozen BK739.out 2
     go_wp2_with (first | ((with_reducible refine gate_callee (f := 55) rfl ?_); refine goesL_ (some 9) rfl rfl Try.func55 (by kernel_rfl) rfl #[.agg #[.int .i64 a0_0, .int .i64 a0_1, .slice A0_2 l0_2.length c0_2]] rfl (by ((simp only [List.map_toArray, List.map_cons, List.map_nil])); (rfl)) ?_; (with_reducible refine (codewrightref04_Order.calls k1 a0_0 a0_1 _ _ l0_2 t740 _ ?side1 ?side2 A4.out).mono ?_); (case side1 => repeat ((exact (Kd.C_below HR0_2.out HB.out)))); (case side2 => exact HC0_2.out); rintro e w15 ⟨rfl, hb⟩; refine ⟨_, rfl, ?_⟩; have n0_ := Aside0.mk (Kd.R_below HO_5.out hb); have n1_ := Aside0.mk (blk_below (g := gb739) (o := .cells #[.int .i64 a0_0, .int .i64 a0_1, .slice A0_2 l0_2.length c0_2] 24 (0, 0)) BK739.out hb); have n2_ := Aside0.mk (below_step HB.out hb); clear HO_5; clear BK739; clear HB; have HO_5 := n0_; have BK739 := n1_; have HB := n2_; clear n0_ n1_ n2_; ((clear hb)); (skip); (skip); (skip); have hcz16_0 : w15.cell? ⟨gb739, 0, none⟩ = some (.int .i64 a0_0) := (blk_cell BK739.out 0).trans rfl; have hcz16_1 : w15.cell? ⟨gb739, 1, none⟩ = some (.int .i64 a0_1) := (blk_cell BK739.out 1).trans rfl; have hcz16_2 : w15.cell? ⟨gb739, 2, none⟩ = some (.slice A0_2 l0_2.length c0_2) := (blk_cell BK739.out 2).trans rfl; have hfz16_0 := blk_frozen BK739.out 0; have hfz16_1 := blk_frozen BK739.out 1; have hfz16_2 := blk_frozen BK739.out 2) | ((with_reducible refine gate_callee (f := 19) rfl ?_); refine goesL_ (some 16) rfl rfl Try.func19 (by kernel_rfl) rfl #[.agg #[.int .i64 a0_0, .int .i64 a0_1, .slice A0_2 l0_2.length c0_2], .slice A1 l1.length c1, .int .i64 x6_1] rfl (by ((simp only [List.map_toArray, List.map_cons, List.map_nil])); (rfl)) ?_; (with_reducible refine (codewrightref05_Eval.calls k1 a0_0 a0_1 _ _ l0_2 _ _ l1 x6_1 t741 _ ?side1 ?side2 ?side3 ?side4 A6.out).mono ?_); (case side1 => repeat ((exact (Kd.C_below HR0_2.out HB.out)))); (case side2 => exact HC0_2.out); (case side3 => repeat ((exact (Kd.C_below HR1.out HB.out)))); (case side4 => exact HC1.out); rintro e w17 ⟨rfl, hb⟩; refine ⟨_, rfl, ?_⟩; have n0_ := Aside0.mk (Kd.R_below HO_5.out hb); have n1_ := Aside0.mk (blk_below (g := gb739) (o := .cells #[.int .i64 a0_0, .int .i64 a0_1, .slice A0_2 l0_2.length c0_2] 24 (0, 0)) BK739.out hb); have n2_ := Aside0.mk (below_step HB.out hb); clear HO_5; clear BK739; clear HB; have HO_5 := n0_; have BK739 := n1_; have HB := n2_; clear n0_ n1_ n2_; ((clear hb)); (skip); (skip); (skip)))
     go_roundg k1
     case measure => have := HK1.out; omega
     case rel => exact ⟨(x5_1), (wrap64 (x6_1 + 1)), (by rfl), H', ⟨by have := HK1.out; omega⟩, ⟨HO_5.out⟩, ⟨BK739.out⟩, ⟨by exact HB.out⟩⟩
   ·rw [if_neg c5] at H
    have c5b0 : decide (x6_1 < t740) = false := decide_eq_false c5
    clear c5
    obtain rfl := Option.some.inj H
    have hcz18_0 : wr.cell? ⟨gb739, 0, none⟩ = some (.int .i64 a0_0) := (blk_cell BK739.out 0).trans rfl
    have hcz18_1 : wr.cell? ⟨gb739, 1, none⟩ = some (.int .i64 a0_1) := (blk_cell BK739.out 1).trans rfl
    have hcz18_2 : wr.cell? ⟨gb739, 2, none⟩ = some (.slice A0_2 l0_2.length c0_2) := (blk_cell BK739.out 2).trans rfl
    have hfz18_0 := blk_frozen BK739.out 0
    have hfz18_1 := blk_frozen BK739.out 1
    have hfz18_2 := blk_frozen BK739.out 2
    go_wp2_with (((with_reducible refine gate_callee (f := 55) rfl ?_); refine goesL_ (some 9) rfl rfl Try.func55 (by kernel_rfl) rfl #[.agg #[.int .i64 a0_0, .int .i64 a0_1, .slice A0_2 l0_2.length c0_2]] rfl (by ((simp only [List.map_toArray, List.map_cons, List.map_nil])); (rfl)) ?_; (with_reducible refine (codewrightref04_Order.calls k1 a0_0 a0_1 _ _ l0_2 t740 _ ?side1 ?side2 A4.out).mono ?_); (case side1 => repeat ((exact (Kd.C_below HR0_2.out HB.out)))); (case side2 => exact HC0_2.out); rintro e w19 ⟨rfl, hb⟩; refine ⟨_, rfl, ?_⟩; have n0_ := Aside0.mk (Kd.R_below HO_5.out hb); have n1_ := Aside0.mk (blk_below (g := gb739) (o := .cells #[.int .i64 a0_0, .int .i64 a0_1, .slice A0_2 l0_2.length c0_2] 24 (0, 0)) BK739.out hb); have n2_ := Aside0.mk (below_step HB.out hb); clear HO_5; clear BK739; clear HB; have HO_5 := n0_; have BK739 := n1_; have HB := n2_; clear n0_ n1_ n2_; ((clear hb)); (skip); (skip); (skip)))
    go_ret
    exact ⟨_, by rfl, by exact HO_5.out, by exact HB.out⟩
def poly_FromRoots.l0 : Nat → List Int → List Int → Int → Int → Int → Int → List Int → Int → List Int → List Int → Option (List Int × Int × Int × Int)
 | 0, _, _, _, _, _, _, _, _, _, _ => none
 | k + 1, x5, x9, x10, x11, x1000, x1001, x1002, x1003, x1004, x1005 => if x11 < x10 then (if 0 ≤ x11 then (if x11 < (x9.length : Int) then ((field_GF_Neg.f k x1000 x1001 x1002 x1003 x1004 x1005 (rd x9 x11)).bind fun bt749 => ((poly_product.f k bt749.2.1 bt749.2.2.1 x1002 bt749.2.2.2 x1004 x1005 x5 (([bt749.1, 1] : List Int))).bind fun bt756 => (poly_FromRoots.l0 k bt756.1 x9 x10 (wrap64 (x11 + 1)) bt756.2.1 bt756.2.2.1 x1002 bt756.2.2.2 x1004 x1005))) else (none)) else (none)) else (some (x5, x1000, x1001, x1003))
def poly_FromRoots.f (k : Nat) (s0_0 : Int) (s0_1 : Int) (s0_2 : List Int) (s0_3 : Int) (s0_4 : List Int) (s0_5 : List Int) (l1 : List Int) : Option (List Int × Int × Int × Int) := poly_FromRoots.l0 k (([1] : List Int)) l1 (l1.length : Int) 0 s0_0 s0_1 s0_2 s0_3 s0_4 s0_5
set_option maxHeartbeats 8000000 in
set_option maxRecDepth 100000 in
theorem poly_FromRoots.calls (k : Nat) (g : Nat) (s0_0 : Int) (s0_1 : Int) (s0_2 : List Int) (s0_3 : Int) (s0_4 : List Int) (s0_5 : List Int) (A1 : Option Addr) (c1 : Nat) (l1 : List Int) (r1 : List Int) (r2 : Int) (r3 : Int) (r4 : Int) (w0 w : World) (hI : IsS85 w0 w g s0_0 s0_1 s0_2 s0_3 s0_4 s0_5) (hB : Below w0.heap.size w0 w) (hr1 : Kd.C (Kd.int .i64) w A1 l1.length l1) (hc1 : l1.length ≤ c1) (hf1 : ∀ ad, A1 = some ad → 0 < l1.length → ad.block ≠ g) (h : poly_FromRoots.f k s0_0 s0_1 s0_2 s0_3 s0_4 s0_5 l1 = some (r1, r2, r3, r4)) :
  Calls Try.prog 29 #[.pointer (some ⟨g, 0, none⟩), .slice A1 l1.length c1] w fun e w' => ∃ v0_ : Value, e = .returned (v0_) ∧ Kd.R (Kd.int .i64) 3 w' w.heap.size (fun _ => True) v0_ r1 ∧ IsS85 w0 w' g r2 r3 s0_2 r4 s0_4 s0_5 ∧ Below w0.heap.size w0 w' ∧ KeepBut w w' g none := by
 have HR1 := Aside0.mk hr1
 have HC1 := Aside0.mk hc1
 clear hr1 hc1
 have HI0 := Aside0.mk hI
 have HK := Aside0.mk (KeepBut.refl w g none)
 have HL := Aside0.mk hB.size
 clear hI
 have HW0 := Aside0.mk hB.size
 have HB := Aside0.mk hB
 clear hB
 have H : (poly_FromRoots.l0 k (([1] : List Int)) l1 (l1.length : Int) 0 s0_0 s0_1 s0_2 s0_3 s0_4 s0_5) = some (r1, r2, r3, r4) := h
 clear h
 obtain ⟨y745, hy745⟩ : ∃ y_ : List Int, y_ = (([1] : List Int)) := ⟨_, rfl⟩
 replace H : (poly_FromRoots.l0 k y745 l1 (l1.length : Int) 0 s0_0 s0_1 s0_2 s0_3 s0_4 s0_5) = some (r1, r2, r3, r4) := by (rw [hy745]; with_reducible exact H)
 have Ny745 := Aside0.mk hy745
 clear hy745
 have H' := Aside0.mk H
 clear H
 go_enter Try.func29, Try.ntmps29
 go_wp2_with (((with_reducible refine gate_dst (N := 8) rfl ?_); refine Kd.R_lit (Kd.int .i64) _ 3 ?hg (N := 8) ?hd (xs := ([1] : List Int)) (inner := [.int .i64 1]) (ok := fun _ => True) (okp := fun _ => True) ?hr ?hp (fun _ hk => hk) trivial (Below.refl _ _) (Nat.le_refl _) (by simp) ?_; (case hd => rfl); (case hg => rfl); (case hr => (go_simp; done)); (case hp => exact (Reps.one (show Kd.M (Kd.int .i64) _ _ _ 1 [.int .i64 1] from rfl) (Reps.none _ _))); intro v746 w3 ho4 hb hg_ hnew_; clear hg_ hnew_; ((rw [← Ny745.out] at ho4)); have n0_ := Aside0.mk (Kd.R_lower ho4 (keep_size (w := w) (g := g) (row := none) HK.out)); have n1_ := Aside0.mk (IsS85.below HI0.out hb); have n2_ := Aside0.mk (KeepBut.trans HK.out (KeepBut.of_below hb g none) (.inl rfl)); have n3_ := Aside0.mk (below_step HB.out hb); clear HI0; clear HK; clear HB; have HO747 := n0_; have HI0 := n1_; have HK := n2_; have HB := n3_; clear n0_ n1_ n2_ n3_; clear hb ho4))
 go_loopg [5, 11] k (fun kq v5 v11 w' => ∃ (x5_1 : List Int) (x11_1 : Int) (x1000_1 : Int) (x1001_1 : Int) (x1003_1 : Int), v11 = .int .i64 x11_1 ∧ Aside0 (poly_FromRoots.l0 kq x5_1 l1 (l1.length : Int) x11_1 x1000_1 x1001_1 s0_2 x1003_1 s0_4 s0_5 = some (r1, r2, r3, r4)) ∧ Aside0 (kq ≤ k) ∧ Aside0 (Kd.R (Kd.int .i64) 3 w' w.heap.size (fun _ => True) v5 x5_1) ∧ Aside0 (IsS85 w0 w' g x1000_1 x1001_1 s0_2 x1003_1 s0_4 s0_5) ∧ Aside0 (KeepBut w w' g none) ∧ Aside0 (Below w0.heap.size w0 w'))
 case atStart => exact ⟨(y745), (0), (s0_0), (s0_1), (s0_3), (by rfl), H', ⟨Nat.le_refl _⟩, ⟨HO747.out⟩, ⟨by exact HI0.out⟩, ⟨by exact HK.out⟩, ⟨by exact HB.out⟩⟩
 case round =>
  clear H'
  obtain ⟨x5_1, x11_1, x1000_1, x1001_1, x1003_1, rfl, HA, HK1, HO_5, HI0, HK, HB⟩ := hrel
  cases gk with
  | zero => exact absurd HA.out (by simp [poly_FromRoots.l0])
  | succ k1 =>
   have H := HA.out
   clear HA
   simp only [poly_FromRoots.l0] at H
   by_cases c5 : x11_1 < (l1.length : Int)
   ·rw [if_pos c5] at H
    have c5b0 : decide (x11_1 < (l1.length : Int)) = true := decide_eq_true c5
    clear c5
    by_cases c6 : 0 ≤ x11_1
    ·rw [if_pos c6] at H
     have c6b0 : decide (0 ≤ x11_1) = true := decide_eq_true c6
     clear c6
     by_cases c7 : x11_1 < (l1.length : Int)
     ·rw [if_pos c7] at H
      have c7b0 : decide (x11_1 < (l1.length : Int)) = true := decide_eq_true c7
      clear c7
      replace H := Option.bind_eq_some_iff.mp H
      obtain ⟨⟨t749, t750, t751, t752⟩, A80, H⟩ := H
      replace H : ((poly_product.f k1 t750 t751 s0_2 t752 s0_4 s0_5 x5_1 (([t749, 1] : List Int))).bind fun bt756 => (poly_FromRoots.l0 k1 bt756.1 l1 (l1.length : Int) (wrap64 (x11_1 + 1)) bt756.2.1 bt756.2.2.1 s0_2 bt756.2.2.2 s0_4 s0_5)) = some (r1, r2, r3, r4) := H
      have A8 := Aside0.mk A80
      clear A80
      obtain ⟨y753, hy753⟩ : ∃ y_ : List Int, y_ = (([t749, 1] : List Int)) := ⟨_, rfl⟩
      replace H : ((poly_product.f k1 t750 t751 s0_2 t752 s0_4 s0_5 x5_1 y753).bind fun bt756 => (poly_FromRoots.l0 k1 bt756.1 l1 (l1.length : Int) (wrap64 (x11_1 + 1)) bt756.2.1 bt756.2.2.1 s0_2 bt756.2.2.2 s0_4 s0_5)) = some (r1, r2, r3, r4) := by (rw [hy753]; with_reducible exact H)
      have Ny753 := Aside0.mk hy753
      clear hy753
      replace H := Option.bind_eq_some_iff.mp H
      obtain ⟨⟨t756, t759, t760, t761⟩, A90, H⟩ := H
      replace H : (poly_FromRoots.l0 k1 t756 l1 (l1.length : Int) (wrap64 (x11_1 + 1)) t759 t760 s0_2 t761 s0_4 s0_5) = some (r1, r2, r3, r4) := H
      have A9 := Aside0.mk A90
      clear A90
      have H' := Aside0.mk H
      clear H
      have p748 : 0 ≤ (x11_1 : Int) := of_decide_eq_true (by (with_reducible assumption))
      have q748 : x11_1 < (l1.length : Int) := of_decide_eq_true (by (with_reducible assumption))
      obtain ⟨ad748, e748, hx748_0⟩ := Kd.at_int HR1.out x11_1 p748 q748
      cases e748
      replace hx748_0 := keep_cell HK.out hx748_0 (by (rw [add_block]; exact hf1 _ rfl (by omega)))
      replace p748 := eq_true p748
      replace q748 := eq_true q748
      go_wp2_with (first | ((with_reducible refine gate_callee (f := 56) rfl ?_); refine goesL_ (some 19) rfl rfl Try.func56 (by kernel_rfl) rfl #[.pointer (some ⟨g, 0, none⟩), .int .i64 (rd l1 x11_1)] rfl (by ((simp only [List.map_toArray, List.map_cons, List.map_nil])); (rfl)) ?_; (with_reducible refine (field_GF_Neg.calls k1 g x1000_1 x1001_1 s0_2 x1003_1 s0_4 s0_5 (rd l1 x11_1) t749 t750 t751 t752 w0 _ ?side1 ?side2 A8.out).mono ?_); (case side1 => repeat ((with_reducible (exact HI0.out)))); (case side2 => repeat ((with_reducible (exact HB.out)))); rintro e w10 ⟨rfl, hi, hb, hk⟩; refine ⟨_, rfl, ?_⟩; have n0_ := Aside0.mk (Kd.R_mono (Kd.R_keep (IsS85.apart (show IsS85 w0 _ g x1000_1 x1001_1 s0_2 x1003_1 s0_4 s0_5 from by exact HI0.out) HO_5.out (by decide)) hk (fun _ h => h.2)) (fun _ h => h.1)); have n1_ := Aside0.mk (KeepBut.trans HK.out hk (.inl rfl)); have n2_ := Aside0.mk (hb); have n3_ := Aside0.mk (hi); clear HO_5; clear HK; clear HB; clear HI0; have HO_5 := n0_; have HK := n1_; have HB := n2_; have HI0 := n3_; clear n0_ n1_ n2_ n3_; ((clear hb)); (skip); ((clear hk)); ((clear hi))) | ((with_reducible refine gate_dst (N := 20) rfl ?_); refine Kd.R_lit (Kd.int .i64) _ 3 ?hg (N := 20) ?hd (xs := ([t749, 1] : List Int)) (inner := [.int .i64 t749, .int .i64 1]) (ok := fun _ => True) (okp := fun _ => True) ?hr ?hp (fun _ hk => hk) trivial (Below.refl _ _) (Nat.le_refl _) (by simp) ?_; (case hd => rfl); (case hg => rfl); (case hr => (go_simp; done)); (case hp => exact (Reps.one (show Kd.M (Kd.int .i64) _ _ _ t749 [.int .i64 t749] from rfl) (Reps.one (show Kd.M (Kd.int .i64) _ _ _ 1 [.int .i64 1] from rfl) (Reps.none _ _)))); intro v754 w11 ho12 hb hg_ hnew_; clear hg_ hnew_; ((rw [← Ny753.out] at ho12)); have n0_ := Aside0.mk (Kd.R_elder' HO_5.out (Kd.R_base ho12) hb); have n1_ := Aside0.mk (Kd.R_lower (Kd.R_new' ho12 (Kd.R_lt HO_5.out)) (keep_size (w := w) (g := g) (row := none) HK.out)); have n2_ := Aside0.mk (IsS85.below HI0.out hb); have n3_ := Aside0.mk (KeepBut.trans HK.out (KeepBut.of_below hb g none) (.inl rfl)); have n4_ := Aside0.mk (below_step HB.out hb); clear HO_5; clear HI0; clear HK; clear HB; have HO_5 := n0_; have HO755 := n1_; have HI0 := n2_; have HK := n3_; have HB := n4_; clear n0_ n1_ n2_ n3_ n4_; clear hb ho12; obtain ⟨Ao13, co13, eo13⟩ := Kd.R_slice HO_5.out; subst eo13; obtain ⟨Ao14, co14, eo14⟩ := Kd.R_slice HO755.out; subst eo14) | ((with_reducible refine gate_callee (f := 41) rfl ?_); refine goesL_ (some 21) rfl rfl Try.func41 (by kernel_rfl) rfl #[.pointer (some ⟨g, 0, none⟩), .slice Ao13 x5_1.length co13, .slice Ao14 y753.length co14] rfl (by ((simp only [List.map_toArray, List.map_cons, List.map_nil])); (rfl)) ?_; (with_reducible refine (poly_product.calls k1 g t750 t751 s0_2 t752 s0_4 s0_5 _ _ x5_1 _ _ y753 t756 t759 t760 t761 w0 _ ?side1 ?side2 ?side3 ?side4 ?side5 ?side6 ?side7 ?side8 A9.out).mono ?_); (case side1 => repeat ((with_reducible (exact HI0.out)))); (case side2 => repeat ((with_reducible (exact HB.out)))); (case side3 => repeat ((exact (Kd.R_reads' HO_5.out).2.2))); (case side4 => exact (Kd.R_reads' HO_5.out).2.1); (case side5 => exact far_slice (IsS85.own_ne HI0.out HO_5.out (by decide))); (case side6 => repeat ((exact (Kd.R_reads' HO755.out).2.2))); (case side7 => exact (Kd.R_reads' HO755.out).2.1); (case side8 => exact far_slice (IsS85.own_ne HI0.out HO755.out (by decide))); rintro e w15 ⟨v757, rfl, ho0, hi, hb, hk⟩; refine ⟨_, rfl, ?_⟩; have n0_ := Aside0.mk (Kd.R_mono (Kd.R_told (Kd.R_oldK (IsS85.apart (show IsS85 w0 _ g t750 t751 s0_2 t752 s0_4 s0_5 from by exact HI0.out) HO_5.out (by decide)) hk) (Kd.R_base ho0)) (fun _ h_ => h_.1)); have n1_ := Aside0.mk (Kd.R_mono (Kd.R_told (Kd.R_oldK (IsS85.apart (show IsS85 w0 _ g t750 t751 s0_2 t752 s0_4 s0_5 from by exact HI0.out) HO755.out (by decide)) hk) (Kd.R_base ho0)) (fun _ h_ => h_.1)); have n2_ := Aside0.mk (Kd.R_lower (Kd.R_new' (Kd.R_new' ho0 (Kd.R_lt HO_5.out)) (Kd.R_lt HO755.out)) (keep_size (w := w) (g := g) (row := none) HK.out)); have n3_ := Aside0.mk (KeepBut.trans HK.out hk (.inl rfl)); have n4_ := Aside0.mk (hb); have n5_ := Aside0.mk (hi); clear HO_5; clear HO755; clear HK; clear HB; clear HI0; have HO_5 := n0_; have HO755 := n1_; have HO758 := n2_; have HK := n3_; have HB := n4_; have HI0 := n5_; clear n0_ n1_ n2_ n3_ n4_ n5_; ((clear hb)); (skip); ((clear hk)); ((clear hi)); ((clear ho0))))
      go_roundg k1
      case measure => have := HK1.out; omega
      case rel => exact ⟨(t756), (wrap64 (x11_1 + 1)), (t759), (t760), (t761), (by rfl), H', ⟨by have := HK1.out; omega⟩, ⟨by exact Kd.R_mono HO758.out (fun _ hk => trivial)⟩, ⟨by exact HI0.out⟩, ⟨by exact HK.out⟩, ⟨by exact HB.out⟩⟩
     ·rw [if_neg c7] at H
      exact absurd H (by simp)
    ·rw [if_neg c6] at H
     exact absurd H (by simp)
   ·rw [if_neg c5] at H
    have c5b0 : decide (x11_1 < (l1.length : Int)) = false := decide_eq_false c5
    clear c5
    simp only [Option.some.injEq, Prod.mk.injEq] at H
    obtain ⟨rfl, rfl, rfl, rfl⟩ := H
    go_wp2
    go_ret
    exact ⟨_, by rfl, by exact HO_5.out, by exact HI0.out, by exact HB.out, by exact HK.out⟩
end Go.Proofs.Ytiejggpmjapajaa.PA
end
section
namespace Go.Proofs.Ytiejggpmjapajaa.PA
open Go.RowKit Go.Proofs.YtiejggpmjapajaaW.PrintWords Go.Proofs.YtiejggpmjapajaaW.PrintLast Go.Proofs.YtiejggpmjapajaaW.PrintMore
attribute [local go_sem] max2_int min2_int max_two min_two max_three min_three max_four min_four
set_option linter.unusedVariables false
set_option linter.unusedSimpArgs false
end Go.Proofs.Ytiejggpmjapajaa.PA
end
section
namespace Go.Proofs.Ytiejggpmjapajaa.PA
open Go.RowKit Go.Proofs.YtiejggpmjapajaaW.PrintWords Go.Proofs.YtiejggpmjapajaaW.PrintLast Go.Proofs.YtiejggpmjapajaaW.PrintMore
attribute [local go_sem] max2_int min2_int max_two min_two max_three min_three max_four min_four
set_option linter.unusedVariables false
set_option linter.unusedSimpArgs false
end Go.Proofs.Ytiejggpmjapajaa.PA
end
section
namespace Go.Proofs.Ytiejggpmjapajaa.PA
open Go.RowKit Go.Proofs.YtiejggpmjapajaaW.PrintWords Go.Proofs.YtiejggpmjapajaaW.PrintLast Go.Proofs.YtiejggpmjapajaaW.PrintMore
theorem Ev.succ {α : Type} {g : Nat → Option α} {r : α} (h : Ev (fun k => g (k + 1)) r) : Ev g r := Ev.step (fun _ => rfl) h
theorem Ev.ifp {α : Type} {c : Prop} [Decidable c] {f g : Nat → Option α} {r : α} (h : c) (e : Ev f r) : Ev (fun k => if c then f k else g k) r := by simp only [if_pos h]; exact e
theorem Ev.ifn {α : Type} {c : Prop} [Decidable c] {f g : Nat → Option α} {r : α} (h : ¬ c) (e : Ev g r) : Ev (fun k => if c then f k else g k) r := by simp only [if_neg h]; exact e
theorem Ev.val {α : Type} {a r : α} (h : a = r) : Ev (fun _ => some a) r := h ▸ Ev.now a
theorem Ev.some_bind {α β : Type} {a : α} {f : Nat → α → Option β} {r : β} (h : Ev (fun k => f k a) r) : Ev (fun k => (some a).bind (f k)) r := h
theorem Ev.opt_bind {α β : Type} {o : Option α} {a : α} {f : Nat → α → Option β} {r : β} (h0 : o = some a) (h : Ev (fun k => f k a) r) : Ev (fun k => o.bind (f k)) r := by subst h0; exact h
theorem w64 {n : Int} (h : -4000000000000000000 ≤ n ∧ n ≤ 4000000000000000000) : wrap64 n = n := by unfold wrap64; omega
theorem rd_nat (xs : List Int) (j : Nat) : rd xs (j : Int) = xs.getD j 0 := by unfold rd; rw [Int.toNat_natCast]
theorem rd_set (xs : List Int) (i j : Nat) (v : Int) (h : i < xs.length) : (xs.set i v).getD j 0 = if i = j then v else xs.getD j 0 := by
  rw [List.getD_eq_getElem?_getD, List.getElem?_set]
  split
  · rename_i e; subst e; simp [h]
  · rw [List.getD_eq_getElem?_getD]
theorem tdiv_pos {a b : Int} (h : 0 ≤ a) : Int.tdiv a b = a / b := Int.tdiv_eq_ediv_of_nonneg h
theorem tmod_pos {a b : Int} (h : 0 ≤ a) : Int.tmod a b = a % b := Int.tmod_eq_emod_of_nonneg h
theorem getD_nat_lt (xs : List Int) (j : Nat) (h : xs.length ≤ j) : xs.getD j 0 = 0 := by
  rw [List.getD_eq_getElem?_getD, List.getElem?_eq_none h]; rfl
theorem getD_zeros (n j : Nat) : (List.replicate n (0 : Int)).getD j 0 = 0 := by
  rw [List.getD_eq_getElem?_getD, List.getElem?_replicate]; split <;> rfl
end Go.Proofs.Ytiejggpmjapajaa.PA
end
