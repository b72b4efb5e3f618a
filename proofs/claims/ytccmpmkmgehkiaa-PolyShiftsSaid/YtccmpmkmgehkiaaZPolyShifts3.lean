/- Proved: for every input the law PolyShifts returns true and leaves its arguments as they were; no conditions. Part 4 of 5 of the proof. -/
import Derived.Test.YtccmpmkmgehkiaaZPolyShifts2
set_option linter.unusedSectionVars false
set_option linter.unusedSimpArgs false
set_option linter.unusedVariables false
section
namespace Go.Proofs.Ytccmpmkmgehkiaa.PA
open Go.RowKit Go.Proofs.YtccmpmkmgehkiaaW.PrintWords Go.Proofs.YtccmpmkmgehkiaaW.PrintLast Go.Proofs.YtccmpmkmgehkiaaW.PrintMore
attribute [local go_sem] max2_int min2_int max_two min_two max_three min_three max_four min_four
set_option linter.unusedVariables false
set_option linter.unusedSimpArgs false
mutual
def poly_product.j0 : Nat → List Int → List Int → Bool → Int → Int → List Int → Int → List Int → List Int → Option (List Int × Int × Int × Int)
 | 0, _, _, _, _, _, _, _, _, _ => none
 | k + 1, x1, x2, x25, x1000, x1001, x1002, x1003, x1004, x1005 => if x25 = true then (some (([] : List Int), x1000, x1001, x1003)) else (if 0 ≤ (wrap64 ((wrap64 ((x1.length : Int) + (x2.length : Int))) - 1)) then (if (wrap64 ((wrap64 ((x1.length : Int) + (x2.length : Int))) - 1) : Int).toNat ≤ 35184372088832 then (poly_product.l0 k x2 (List.replicate (wrap64 ((wrap64 ((x1.length : Int) + (x2.length : Int))) - 1) : Int).toNat 0) x1 (x1.length : Int) 0 x1000 x1001 x1002 x1003 x1004 x1005) else (none)) else (none))
def poly_product.l0 : Nat → List Int → List Int → List Int → Int → Int → Int → Int → List Int → Int → List Int → List Int → Option (List Int × Int × Int × Int)
 | 0, _, _, _, _, _, _, _, _, _, _, _ => none
 | k + 1, x2, x7, x33, x34, x35, x1000, x1001, x1002, x1003, x1004, x1005 => if x35 < x34 then (if 0 ≤ x35 then (if x35 < (x33.length : Int) then (poly_product.l1 k x2 x7 x35 (rd x33 x35) x33 x34 x35 x2 (x2.length : Int) 0 x1000 x1001 x1002 x1003 x1004 x1005) else (none)) else (none)) else (some (x7, x1000, x1001, x1003))
def poly_product.l1 : Nat → List Int → List Int → Int → Int → List Int → Int → Int → List Int → Int → Int → Int → Int → List Int → Int → List Int → List Int → Option (List Int × Int × Int × Int)
 | 0, _, _, _, _, _, _, _, _, _, _, _, _, _, _, _, _ => none
 | k + 1, x2, x7, x8, x9, x33, x34, x35, x40, x41, x42, x1000, x1001, x1002, x1003, x1004, x1005 => if x42 < x41 then (if 0 ≤ x42 then (if x42 < (x40.length : Int) then (if 0 ≤ (wrap64 (x8 + x42)) then (if (wrap64 (x8 + x42)) < (x7.length : Int) then ((field_GF_Mul.f x1000 x1001 x1002 x1003 x1004 x1005 x9 (rd x40 x42)).bind fun bt305 => ((field_GF_Add.f k bt305.2.1 bt305.2.2.1 x1002 bt305.2.2.2 x1004 x1005 (rd x7 (wrap64 (x8 + x42))) bt305.1).bind fun bt309 => (poly_product.l1 k x2 (x7.set ((wrap64 (x8 + x42)) : Int).toNat bt309.1) x8 x9 x33 x34 x35 x40 x41 (wrap64 (x42 + 1)) bt309.2.1 bt309.2.2.1 x1002 bt309.2.2.2 x1004 x1005))) else (none)) else (none)) else (none)) else (none)) else (poly_product.l0 k x2 x7 x33 x34 (wrap64 (x35 + 1)) x1000 x1001 x1002 x1003 x1004 x1005)
end
def poly_product.f (k : Nat) (s0_0 : Int) (s0_1 : Int) (s0_2 : List Int) (s0_3 : Int) (s0_4 : List Int) (s0_5 : List Int) (l1 : List Int) (l2 : List Int) : Option (List Int × Int × Int × Int) := (poly_Canon.f k s0_0 s0_1 s0_2 s0_3 s0_4 s0_5 l1).bind fun bt287 => ((poly_Canon.f k bt287.2.1 bt287.2.2.1 s0_2 bt287.2.2.2 s0_4 s0_5 l2).bind fun bt293 => (if (bt287.1.length : Int) = 0 then (poly_product.j0 k bt287.1 bt293.1 true bt293.2.1 bt293.2.2.1 s0_2 bt293.2.2.2 s0_4 s0_5) else (poly_product.j0 k bt287.1 bt293.1 ((bt293.1.length : Int) == 0) bt293.2.1 bt293.2.2.1 s0_2 bt293.2.2.2 s0_4 s0_5)))
def poly_product.T11 : Bool × List (List Nat × List Nat) := (true, [([], []), ([], []), ([], []), ([1, 2], [1, 2]), ([], []), ([], []), ([], []), ([], []), ([6, 7], [6, 7]), ([5, 8], [5, 8]), ([9], [9]), ([], []), ([], []), ([], []), ([11, 12, 13], [11, 12, 13]), ([4, 10, 14, 14], [4, 10, 14]), ([0, 3, 0, 1, 2, 3, 4, 5, 6, 7, 8, 9, 10, 11, 12, 13, 14, 15], [0, 3]), ([16, 15, 15, 0, 1, 2, 3, 4, 5, 6, 7, 8, 9, 10, 11, 12, 13, 14, 15], [15, 16])])
def poly_product.B11 : List Nat := [0, 0, 0, 6, 0, 0, 0, 0, 192, 480, 992, 0, 0, 0, 14336, 32752, 65535, 131071]
theorem poly_product.tab11 : rtab .any (opsOf Try.f48 11) = poly_product.T11 := by kernel_rfl
theorem poly_product.bits11 : waitsOk poly_product.T11.2 poly_product.B11 = true := by kernel_rfl
set_option maxHeartbeats 8000000 in
set_option maxRecDepth 100000 in
theorem poly_product.calls (k : Nat) (g : Nat) (s0_0 : Int) (s0_1 : Int) (s0_2 : List Int) (s0_3 : Int) (s0_4 : List Int) (s0_5 : List Int) (A1 : Option Addr) (c1 : Nat) (l1 : List Int) (A2 : Option Addr) (c2 : Nat) (l2 : List Int) (r1 : List Int) (r2 : Int) (r3 : Int) (r4 : Int) (w0 w : World) (hI : IsS74 w0 w g s0_0 s0_1 s0_2 s0_3 s0_4 s0_5) (hB : Below w0.heap.size w0 w) (hr1 : Kd.C (Kd.int .i64) w A1 l1.length l1) (hc1 : l1.length ≤ c1) (hf1 : ∀ ad, A1 = some ad → 0 < l1.length → ad.block ≠ g) (hr2 : Kd.C (Kd.int .i64) w A2 l2.length l2) (hc2 : l2.length ≤ c2) (hf2 : ∀ ad, A2 = some ad → 0 < l2.length → ad.block ≠ g) (h : poly_product.f k s0_0 s0_1 s0_2 s0_3 s0_4 s0_5 l1 l2 = some (r1, r2, r3, r4)) :
  Calls Try.prog 48 #[.pointer (some ⟨g, 0, none⟩), .slice A1 l1.length c1, .slice A2 l2.length c2] w fun e w' => ∃ v0_ : Value, e = .returned (v0_) ∧ Kd.R (Kd.int .i64) 3 w' w.heap.size (fun _ => True) v0_ r1 ∧ IsS74 w0 w' g r2 r3 s0_2 r4 s0_4 s0_5 ∧ Below w0.heap.size w0 w' ∧ KeepBut w w' g none := by
 have HR1 := Aside0.mk hr1
 have HC1 := Aside0.mk hc1
 clear hr1 hc1
 have HR2 := Aside0.mk hr2
 have HC2 := Aside0.mk hc2
 clear hr2 hc2
 have HI0 := Aside0.mk hI
 have HK := Aside0.mk (KeepBut.refl w g none)
 have HL := Aside0.mk hB.size
 clear hI
 have HW0 := Aside0.mk hB.size
 have HB := Aside0.mk hB
 clear hB
 have H : ((poly_Canon.f k s0_0 s0_1 s0_2 s0_3 s0_4 s0_5 l1).bind fun bt287 => ((poly_Canon.f k bt287.2.1 bt287.2.2.1 s0_2 bt287.2.2.2 s0_4 s0_5 l2).bind fun bt293 => (if (bt287.1.length : Int) = 0 then (poly_product.j0 k bt287.1 bt293.1 true bt293.2.1 bt293.2.2.1 s0_2 bt293.2.2.2 s0_4 s0_5) else (poly_product.j0 k bt287.1 bt293.1 ((bt293.1.length : Int) == 0) bt293.2.1 bt293.2.2.1 s0_2 bt293.2.2.2 s0_4 s0_5)))) = some (r1, r2, r3, r4) := h
 clear h
 replace H := Option.bind_eq_some_iff.mp H
 obtain ⟨⟨t287, t290, t291, t292⟩, A40, H⟩ := H
 replace H : ((poly_Canon.f k t290 t291 s0_2 t292 s0_4 s0_5 l2).bind fun bt293 => (if (t287.length : Int) = 0 then (poly_product.j0 k t287 bt293.1 true bt293.2.1 bt293.2.2.1 s0_2 bt293.2.2.2 s0_4 s0_5) else (poly_product.j0 k t287 bt293.1 ((bt293.1.length : Int) == 0) bt293.2.1 bt293.2.2.1 s0_2 bt293.2.2.2 s0_4 s0_5))) = some (r1, r2, r3, r4) := H
 have A4 := Aside0.mk A40
 clear A40
 replace H := Option.bind_eq_some_iff.mp H
 obtain ⟨⟨t293, t296, t297, t298⟩, A50, H⟩ := H
 replace H : (if (t287.length : Int) = 0 then (poly_product.j0 k t287 t293 true t296 t297 s0_2 t298 s0_4 s0_5) else (poly_product.j0 k t287 t293 ((t293.length : Int) == 0) t296 t297 s0_2 t298 s0_4 s0_5)) = some (r1, r2, r3, r4) := H
 have A5 := Aside0.mk A50
 clear A50
 have HC6 := Aside0.mk H
 clear H
 go_enter Try.func48, Try.ntmps48
 go_upto_region 2 with (first | ((with_reducible refine gate_callee (f := 22) rfl ?_); refine goesL_ (some 14) rfl rfl Try.func22 (by kernel_rfl) rfl #[.pointer (some ⟨g, 0, none⟩), .slice A1 l1.length c1] rfl (by ((simp only [List.map_toArray, List.map_cons, List.map_nil])); (rfl)) ?_; (with_reducible refine (poly_Canon.calls k g s0_0 s0_1 s0_2 s0_3 s0_4 s0_5 _ _ l1 t287 t290 t291 t292 w0 _ ?side1 ?side2 ?side3 ?side4 ?side5 A4.out).mono ?_); (case side1 => repeat ((with_reducible (exact HI0.out)))); (case side2 => repeat ((with_reducible (exact HB.out)))); (case side3 => exact Kd.C_keep 0 HR1.out HK.out hf1); (case side4 => exact HC1.out); (case side5 => exact hf1); rintro e w7 ⟨v288, rfl, ho0, hi, hb, hk⟩; refine ⟨_, rfl, ?_⟩; have n0_ := Aside0.mk (Kd.R_lower ho0 (keep_size (w := w) (g := g) (row := none) HK.out)); have n1_ := Aside0.mk (KeepBut.trans HK.out hk (.inl rfl)); have n2_ := Aside0.mk (hb); have n3_ := Aside0.mk (hi); clear HK; clear HB; clear HI0; have HO289 := n0_; have HK := n1_; have HB := n2_; have HI0 := n3_; clear n0_ n1_ n2_ n3_; ((clear hb)); (skip); ((clear hk)); ((clear hi)); ((clear ho0))) | ((with_reducible refine gate_callee (f := 22) rfl ?_); refine goesL_ (some 17) rfl rfl Try.func22 (by kernel_rfl) rfl #[.pointer (some ⟨g, 0, none⟩), .slice A2 l2.length c2] rfl (by ((simp only [List.map_toArray, List.map_cons, List.map_nil])); (rfl)) ?_; (with_reducible refine (poly_Canon.calls k g t290 t291 s0_2 t292 s0_4 s0_5 _ _ l2 t293 t296 t297 t298 w0 _ ?side1 ?side2 ?side3 ?side4 ?side5 A5.out).mono ?_); (case side1 => repeat ((with_reducible (exact HI0.out)))); (case side2 => repeat ((with_reducible (exact HB.out)))); (case side3 => exact Kd.C_keep 0 HR2.out HK.out hf2); (case side4 => exact HC2.out); (case side5 => exact hf2); rintro e w8 ⟨v294, rfl, ho0, hi, hb, hk⟩; refine ⟨_, rfl, ?_⟩; have n0_ := Aside0.mk (Kd.R_mono (Kd.R_told (Kd.R_oldK (IsS74.apart (show IsS74 w0 _ g t290 t291 s0_2 t292 s0_4 s0_5 from by exact HI0.out) HO289.out (by decide)) hk) (Kd.R_base ho0)) (fun _ h_ => h_.1)); have n1_ := Aside0.mk (Kd.R_lower (Kd.R_new' ho0 (Kd.R_lt HO289.out)) (keep_size (w := w) (g := g) (row := none) HK.out)); have n2_ := Aside0.mk (KeepBut.trans HK.out hk (.inl rfl)); have n3_ := Aside0.mk (hb); have n4_ := Aside0.mk (hi); clear HO289; clear HK; clear HB; clear HI0; have HO289 := n0_; have HO295 := n1_; have HK := n2_; have HB := n3_; have HI0 := n4_; clear n0_ n1_ n2_ n3_ n4_; ((clear hb)); (skip); ((clear hk)); ((clear hi)); ((clear ho0))))
 go_cut [25] (fun v25 wc => ∃ (kq : Nat) (x25_5 : Bool), v25 = .bool x25_5 ∧ Aside0 (poly_product.j0 kq t287 t293 x25_5 t296 t297 s0_2 t298 s0_4 s0_5 = some (r1, r2, r3, r4)) ∧ Aside0 (kq ≤ k) ∧ Aside0 (Kd.R (Kd.int .i64) 3 wc w.heap.size (fun k_ => some k_ ≠ (v294 : Value).ownBlock) v288 t287) ∧ Aside0 (Kd.R (Kd.int .i64) 3 wc w.heap.size (fun k_ => some k_ ≠ (v288 : Value).ownBlock) v294 t293) ∧ Aside0 (IsS74 w0 wc g t296 t297 s0_2 t298 s0_4 s0_5) ∧ Aside0 (KeepBut w wc g none) ∧ Aside0 (Below w0.heap.size w0 wc))
 case first =>
  have H := HC6.out
  clear HC6
  by_cases c9 : (t287.length : Int) = 0
  ·rw [if_pos c9] at H
   have c9b0 : ((t287.length : Int) == 0) = true := beq_iff_eq.mpr c9
   have c9b1 : ((t287.length : Int) != 0) = false := bne_eq_false_iff_eq.mpr c9
   clear c9
   ((skip))
   have H' := Aside0.mk H
   clear H
   obtain ⟨Ao10, co10, eo10⟩ := Kd.R_slice HO289.out
   subst eo10
   go_wp2
   go_meet
   case rel => exact ⟨_, (true), (by rfl), H', ⟨by (omega)⟩, ⟨by exact Kd.R_mono HO289.out (fun _ hk => hk.2)⟩, ⟨by exact Kd.R_mono HO295.out (fun _ hk => hk.2)⟩, ⟨by exact HI0.out⟩, ⟨by exact HK.out⟩, ⟨by exact HB.out⟩⟩
  ·rw [if_neg c9] at H
   have c9b0 : ((t287.length : Int) == 0) = false := beq_eq_false_iff_ne.mpr c9
   have c9b1 : ((t287.length : Int) != 0) = true := bne_iff_ne.mpr c9
   have c9b2 : ¬ (t287 = []) := fun h_ => c9 (by rw [h_]; rfl)
   ((skip))
   have H' := Aside0.mk H
   clear H
   obtain ⟨Ao11, co11, eo11⟩ := Kd.R_slice HO289.out
   subst eo11
   obtain ⟨Ao12, co12, eo12⟩ := Kd.R_slice HO295.out
   subst eo12
   go_wp2
   go_meet
   case rel => exact ⟨_, (((t293.length : Int) == 0)), (by rfl), H', ⟨by (omega)⟩, ⟨by exact Kd.R_mono HO289.out (fun _ hk => hk.2)⟩, ⟨by exact Kd.R_mono HO295.out (fun _ hk => hk.2)⟩, ⟨by exact HI0.out⟩, ⟨by exact HK.out⟩, ⟨by exact HB.out⟩⟩
 case rest =>
  clear HC6
  obtain ⟨kq, x25_5, rfl, HA, HJ5, HO_1, HO_2, HI0, HK, HB⟩ := hcut
  cases kq with
  | zero => exact absurd HA.out (by simp [poly_product.j0])
  | succ kj5 =>
   have H := HA.out
   clear HA
   simp only [poly_product.j0] at H
   by_cases c13 : x25_5 = true
   ·subst c13
    have H1 : (some (([] : List Int), t296, t297, t298)) = some (r1, r2, r3, r4) := by rw [if_pos rfl] at H; exact H
    clear H
    have H := H1
    clear H1
    simp only [Option.some.injEq, Prod.mk.injEq] at H
    obtain ⟨rfl, rfl, rfl, rfl⟩ := H
    go_wp2
    go_ret
    exact ⟨_, by rfl, by (exact Kd.R_nil _ _ _ _ _), by exact HI0.out, by exact HB.out, by exact HK.out⟩
   ·replace c13 := Bool.eq_false_iff.mpr c13
    subst c13
    have H1 : (if 0 ≤ (wrap64 ((wrap64 ((t287.length : Int) + (t293.length : Int))) - 1)) then (if (wrap64 ((wrap64 ((t287.length : Int) + (t293.length : Int))) - 1) : Int).toNat ≤ 35184372088832 then (poly_product.l0 kj5 t293 (List.replicate (wrap64 ((wrap64 ((t287.length : Int) + (t293.length : Int))) - 1) : Int).toNat 0) t287 (t287.length : Int) 0 t296 t297 s0_2 t298 s0_4 s0_5) else (none)) else (none)) = some (r1, r2, r3, r4) := by rw [if_neg (show ¬ (false = true) by decide)] at H; exact H
    clear H
    have H := H1
    clear H1
    obtain ⟨ji14, hji14⟩ : ∃ j_ : Int, (wrap64 ((wrap64 ((t287.length : Int) + (t293.length : Int))) - 1)) = j_ := ⟨_, rfl⟩
    replace H : (if 0 ≤ (ji14) then (if (ji14 : Int).toNat ≤ 35184372088832 then (poly_product.l0 kj5 t293 (List.replicate (ji14 : Int).toNat 0) t287 (t287.length : Int) 0 t296 t297 s0_2 t298 s0_4 s0_5) else (none)) else (none)) = some (r1, r2, r3, r4) := by (rw [hji14] at H; exact H)
    have hji14w : (IntKind.i64.wrap ((wrap64 ((t287.length : Int) + (t293.length : Int))) - 1)) = ji14 := (i64_w _).trans hji14
    by_cases c15 : 0 ≤ (ji14)
    ·rw [if_pos c15] at H
     have c15b0 := eq_true c15
     have c15b1 : decide (0 ≤ (ji14)) = true := decide_eq_true c15
     clear c15
     by_cases c16 : (ji14 : Int).toNat ≤ 35184372088832
     ·rw [if_pos c16] at H
      have c16b0 := eq_true c16
      have c16b1 : decide ((ji14 : Int).toNat ≤ 35184372088832) = true := decide_eq_true c16
      clear c16
      obtain ⟨y299, hy299⟩ : ∃ y_ : List Int, y_ = (List.replicate (ji14 : Int).toNat 0) := ⟨_, rfl⟩
      replace H : (poly_product.l0 kj5 t293 y299 t287 (t287.length : Int) 0 t296 t297 s0_2 t298 s0_4 s0_5) = some (r1, r2, r3, r4) := by (rw [hy299]; with_reducible exact H)
      have Ny299 := Aside0.mk hy299
      clear hy299
      have H' := Aside0.mk H
      clear H
      obtain ⟨Ao17, co17, eo17⟩ := Kd.R_slice HO_1.out
      subst eo17
      obtain ⟨Ao18, co18, eo18⟩ := Kd.R_slice HO_2.out
      subst eo18
      go_wp2_with (((with_reducible refine gate_dst (N := 32) rfl ?_); ((refine gate_guard (by rfl) ?_; dsimp only)); refine Kd.R_make (Kd.int .i64) _ 3 rfl (N := 32) rfl 22 _ _ rfl ji14 rfl rfl Try.underlying22 (.int .i64 0) 8 info3 rfl (by decide) (by omega) 0 (ok := fun _ => True) (okp := fun _ => True) rfl (fun _ hk => hk) trivial (of_decide_eq_true (by (with_reducible assumption))) (Nat.le_trans (Nat.mul_le_mul_right _ (of_decide_eq_true (by (with_reducible assumption)) : ji14.toNat ≤ 35184372088832)) (by omega)) (Below.refl _ _) (Nat.le_refl _) ?_; intro v300 w19 ho20 hb hg_ hnew_; clear hg_ hnew_; ((rw [← Ny299.out] at ho20)); have n0_ := Aside0.mk (Kd.R_elder' HO_1.out (Kd.R_base ho20) hb); have n1_ := Aside0.mk (Kd.R_elder' HO_2.out (Kd.R_base ho20) hb); have n2_ := Aside0.mk (Kd.R_lower (Kd.R_new' (Kd.R_new' ho20 (Kd.R_lt HO_1.out)) (Kd.R_lt HO_2.out)) (keep_size (w := w) (g := g) (row := none) HK.out)); have n3_ := Aside0.mk (IsS74.below HI0.out hb); have n4_ := Aside0.mk (KeepBut.trans HK.out (KeepBut.of_below hb g none) (.inl rfl)); have n5_ := Aside0.mk (below_step HB.out hb); clear HO_1; clear HO_2; clear HI0; clear HK; clear HB; have HO_1 := n0_; have HO_2 := n1_; have HO301 := n2_; have HI0 := n3_; have HK := n4_; have HB := n5_; clear n0_ n1_ n2_ n3_ n4_ n5_; clear hb ho20))
      go_loopg [35] kj5 (fun kq v35 w' => ∃ (x7_2 : List Int) (x35_2 : Int) (x1000_2 : Int) (x1001_2 : Int) (x1003_2 : Int), v35 = .int .i64 x35_2 ∧ Aside0 (poly_product.l0 kq t293 x7_2 t287 (t287.length : Int) x35_2 x1000_2 x1001_2 s0_2 x1003_2 s0_4 s0_5 = some (r1, r2, r3, r4)) ∧ Aside0 (kq ≤ kj5) ∧ Aside0 (Kd.R (Kd.int .i64) 3 w' w.heap.size (fun k_ => some k_ ≠ (v300 : Value).ownBlock ∧ some k_ ≠ ((.slice Ao17 t287.length co17) : Value).ownBlock) (.slice Ao18 t293.length co18) t293) ∧ Aside0 (Kd.R (Kd.int .i64) 3 w' w.heap.size (fun k_ => some k_ ≠ ((.slice Ao18 t293.length co18) : Value).ownBlock ∧ some k_ ≠ ((.slice Ao17 t287.length co17) : Value).ownBlock) v300 x7_2) ∧ Aside0 (Kd.R (Kd.int .i64) 3 w' w.heap.size (fun k_ => some k_ ≠ ((.slice Ao18 t293.length co18) : Value).ownBlock ∧ some k_ ≠ (v300 : Value).ownBlock) (.slice Ao17 t287.length co17) t287) ∧ Aside0 (IsS74 w0 w' g x1000_2 x1001_2 s0_2 x1003_2 s0_4 s0_5) ∧ Aside0 (KeepBut w w' g none) ∧ Aside0 (Below w0.heap.size w0 w'))
      case atStart => exact ⟨(y299), (0), (t296), (t297), (t298), (by rfl), H', ⟨Nat.le_refl _⟩, ⟨by exact Kd.R_mono HO_2.out (fun _ hk => ⟨hk.2, hk.1⟩)⟩, ⟨by exact Kd.R_mono HO301.out (fun _ hk => ⟨hk.2, hk.1.2⟩)⟩, ⟨HO_1.out⟩, ⟨by exact HI0.out⟩, ⟨by exact HK.out⟩, ⟨by exact HB.out⟩⟩
      case round =>
       clear H' c15b0 c15b1 c16b0 c16b1
       obtain ⟨x7_2, x35_2, x1000_2, x1001_2, x1003_2, rfl, HA, HK2, HO_2, HO_7, HO_33, HI0, HK, HB⟩ := hrel
       cases gk with
       | zero => exact absurd HA.out (by simp [poly_product.l0])
       | succ k2 =>
        have H := HA.out
        clear HA
        simp only [poly_product.l0] at H
        by_cases c21 : x35_2 < (t287.length : Int)
        ·rw [if_pos c21] at H
         have c21b0 : decide (x35_2 < (t287.length : Int)) = true := decide_eq_true c21
         clear c21
         by_cases c22 : 0 ≤ x35_2
         ·rw [if_pos c22] at H
          have c22b0 : decide (0 ≤ x35_2) = true := decide_eq_true c22
          clear c22
          by_cases c23 : x35_2 < (t287.length : Int)
          ·rw [if_pos c23] at H
           have c23b0 : decide (x35_2 < (t287.length : Int)) = true := decide_eq_true c23
           clear c23
           have H' := Aside0.mk H
           clear H
           have p302 : 0 ≤ (x35_2 : Int) := of_decide_eq_true (by (with_reducible assumption))
           have q302 : x35_2 < (t287.length : Int) := of_decide_eq_true (by (with_reducible assumption))
           obtain ⟨ad302, e302, hx302_0⟩ := Kd.at_int (Kd.R_reads' HO_33.out).2.2 x35_2 p302 q302
           cases e302
           replace p302 := eq_true p302
           replace q302 := eq_true q302
           go_wp2
           go_loopg [42] k2 (fun kq v42 w' => ∃ (x7_3 : List Int) (x42_3 : Int) (x1000_3 : Int) (x1001_3 : Int) (x1003_3 : Int), v42 = .int .i64 x42_3 ∧ Aside0 (poly_product.l1 kq t293 x7_3 x35_2 (rd t287 x35_2) t287 (t287.length : Int) x35_2 t293 (t293.length : Int) x42_3 x1000_3 x1001_3 s0_2 x1003_3 s0_4 s0_5 = some (r1, r2, r3, r4)) ∧ Aside0 (kq ≤ k2) ∧ Aside0 (Kd.R (Kd.int .i64) 3 w' w.heap.size (fun k_ => some k_ ≠ (v300 : Value).ownBlock ∧ some k_ ≠ ((.slice (some ad302) t287.length co17) : Value).ownBlock) (.slice Ao18 t293.length co18) t293) ∧ Aside0 (Kd.R (Kd.int .i64) 3 w' w.heap.size (fun k_ => some k_ ≠ ((.slice Ao18 t293.length co18) : Value).ownBlock ∧ some k_ ≠ ((.slice (some ad302) t287.length co17) : Value).ownBlock ∧ some k_ ≠ ((.slice Ao18 t293.length co18) : Value).ownBlock) v300 x7_3) ∧ Aside0 (Kd.R (Kd.int .i64) 3 w' w.heap.size (fun k_ => some k_ ≠ ((.slice Ao18 t293.length co18) : Value).ownBlock ∧ some k_ ≠ (v300 : Value).ownBlock ∧ some k_ ≠ ((.slice Ao18 t293.length co18) : Value).ownBlock) (.slice (some ad302) t287.length co17) t287) ∧ Aside0 (Kd.R (Kd.int .i64) 3 w' w.heap.size (fun k_ => some k_ ≠ (v300 : Value).ownBlock ∧ some k_ ≠ ((.slice (some ad302) t287.length co17) : Value).ownBlock) (.slice Ao18 t293.length co18) t293) ∧ Aside0 (IsS74 w0 w' g x1000_3 x1001_3 s0_2 x1003_3 s0_4 s0_5) ∧ Aside0 (KeepBut w w' g none) ∧ Aside0 (Below w0.heap.size w0 w'))
           case atStart => exact ⟨(x7_2), (0), (x1000_2), (x1001_2), (x1003_2), (by rfl), H', ⟨Nat.le_refl _⟩, ⟨HO_2.out⟩, ⟨by exact Kd.R_mono HO_7.out (fun _ hk => ⟨hk.1, ⟨hk.2, hk.1⟩⟩)⟩, ⟨by exact Kd.R_mono HO_33.out (fun _ hk => ⟨hk.1, ⟨hk.2, hk.1⟩⟩)⟩, ⟨HO_2.out⟩, ⟨by exact HI0.out⟩, ⟨by exact HK.out⟩, ⟨by exact HB.out⟩⟩
           case round =>
            clear H' c21b0 c22b0 c23b0 hx302_0 p302 q302
            obtain ⟨x7_3, x42_3, x1000_3, x1001_3, x1003_3, rfl, HA, HK3, HO_2, HO_7, HO_33, HO_40, HI0, HK, HB⟩ := hrel
            cases gk with
            | zero => exact absurd HA.out (by simp [poly_product.l1])
            | succ k3 =>
             have H := HA.out
             clear HA
             simp only [poly_product.l1] at H
             by_cases c24 : x42_3 < (t293.length : Int)
             ·rw [if_pos c24] at H
              have c24b0 : decide (x42_3 < (t293.length : Int)) = true := decide_eq_true c24
              clear c24
              by_cases c25 : 0 ≤ x42_3
              ·rw [if_pos c25] at H
               have c25b0 : decide (0 ≤ x42_3) = true := decide_eq_true c25
               clear c25
               by_cases c26 : x42_3 < (t293.length : Int)
               ·rw [if_pos c26] at H
                have c26b0 : decide (x42_3 < (t293.length : Int)) = true := decide_eq_true c26
                clear c26
                obtain ⟨ji27, hji27⟩ : ∃ j_ : Int, (wrap64 (x35_2 + x42_3)) = j_ := ⟨_, rfl⟩
                replace H : (if 0 ≤ (ji27) then (if (ji27) < (x7_3.length : Int) then ((field_GF_Mul.f x1000_3 x1001_3 s0_2 x1003_3 s0_4 s0_5 (rd t287 x35_2) (rd t293 x42_3)).bind fun bt305 => ((field_GF_Add.f k3 bt305.2.1 bt305.2.2.1 s0_2 bt305.2.2.2 s0_4 s0_5 (rd x7_3 (ji27)) bt305.1).bind fun bt309 => (poly_product.l1 k3 t293 (x7_3.set ((ji27) : Int).toNat bt309.1) x35_2 (rd t287 x35_2) t287 (t287.length : Int) x35_2 t293 (t293.length : Int) (wrap64 (x42_3 + 1)) bt309.2.1 bt309.2.2.1 s0_2 bt309.2.2.2 s0_4 s0_5))) else (none)) else (none)) = some (r1, r2, r3, r4) := by (rw [hji27] at H; exact H)
                have hji27w : (IntKind.i64.wrap (x35_2 + x42_3)) = ji27 := (i64_w _).trans hji27
                by_cases c28 : 0 ≤ (ji27)
                ·rw [if_pos c28] at H
                 have c28b0 : decide (0 ≤ (ji27)) = true := decide_eq_true c28
                 clear c28
                 by_cases c29 : (ji27) < (x7_3.length : Int)
                 ·rw [if_pos c29] at H
                  have c29b0 : decide ((ji27) < (x7_3.length : Int)) = true := decide_eq_true c29
                  clear c29
                  replace H := Option.bind_eq_some_iff.mp H
                  obtain ⟨⟨t305, t306, t307, t308⟩, A300, H⟩ := H
                  replace H : ((field_GF_Add.f k3 t306 t307 s0_2 t308 s0_4 s0_5 (rd x7_3 (ji27)) t305).bind fun bt309 => (poly_product.l1 k3 t293 (x7_3.set ((ji27) : Int).toNat bt309.1) x35_2 (rd t287 x35_2) t287 (t287.length : Int) x35_2 t293 (t293.length : Int) (wrap64 (x42_3 + 1)) bt309.2.1 bt309.2.2.1 s0_2 bt309.2.2.2 s0_4 s0_5)) = some (r1, r2, r3, r4) := H
                  have A30 := Aside0.mk A300
                  clear A300
                  replace H := Option.bind_eq_some_iff.mp H
                  obtain ⟨⟨t309, t310, t311, t312⟩, A310, H⟩ := H
                  replace H : (poly_product.l1 k3 t293 (x7_3.set ((ji27) : Int).toNat t309) x35_2 (rd t287 x35_2) t287 (t287.length : Int) x35_2 t293 (t293.length : Int) (wrap64 (x42_3 + 1)) t310 t311 s0_2 t312 s0_4 s0_5) = some (r1, r2, r3, r4) := H
                  have A31 := Aside0.mk A310
                  clear A310
                  obtain ⟨y313, hy313⟩ : ∃ y_ : List Int, y_ = (x7_3.set ((ji27) : Int).toNat t309) := ⟨_, rfl⟩
                  replace H : (poly_product.l1 k3 t293 y313 x35_2 (rd t287 x35_2) t287 (t287.length : Int) x35_2 t293 (t293.length : Int) (wrap64 (x42_3 + 1)) t310 t311 s0_2 t312 s0_4 s0_5) = some (r1, r2, r3, r4) := by (rw [hy313]; with_reducible exact H)
                  have Ny313 := Aside0.mk hy313
                  clear hy313
                  have H' := Aside0.mk H
                  clear H
                  have p303 : 0 ≤ (x42_3 : Int) := of_decide_eq_true (by (with_reducible assumption))
                  have q303 : x42_3 < (t293.length : Int) := of_decide_eq_true (by (with_reducible assumption))
                  obtain ⟨ad303, e303, hx303_0⟩ := Kd.at_int (Kd.R_reads' HO_40.out).2.2 x42_3 p303 q303
                  cases e303
                  replace p303 := eq_true p303
                  replace q303 := eq_true q303
                  (go_wp2)
                  have n0_ := Aside0.mk (Kd.R_drew HO_2.out)
                  have n1_ := Aside0.mk (Kd.R_drew HO_7.out)
                  have n2_ := Aside0.mk (Kd.R_drew HO_33.out)
                  have n3_ := Aside0.mk (Kd.R_drew HO_40.out)
                  have n4_ := Aside0.mk (IsS74.drew HI0.out)
                  have n5_ := Aside0.mk (keep_drew HK.out)
                  have n6_ := Aside0.mk (below_drew1 HB.out)
                  clear HO_2 HO_7 HO_33 HO_40 HI0 HK HB
                  have HO_2 := n0_
                  have HO_7 := n1_
                  have HO_33 := n2_
                  have HO_40 := n3_
                  have HI0 := n4_
                  have HK := n5_
                  have HB := n6_
                  clear n0_ n1_ n2_ n3_ n4_ n5_ n6_
                  obtain ⟨Ao34, co34, eo34⟩ := Kd.R_slice HO_7.out
                  ((subst eo34))
                  have p304 : 0 ≤ ((ji27) : Int) := of_decide_eq_true (by (with_reducible assumption))
                  have q304 : (ji27) < (x7_3.length : Int) := of_decide_eq_true (by (with_reducible assumption))
                  obtain ⟨ad304, e304, hx304_0⟩ := Kd.at_int (Kd.R_reads' HO_7.out).2.2 (ji27) p304 q304
                  cases e304
                  replace p304 := eq_true p304
                  replace q304 := eq_true q304
                  refine start_ (n := 18) (S := fun w' => w'.cell? (ad304.add ((ji27)).toNat) = some (.int .i64 (rd x7_3 (ji27)))) (ds := [17]) #[false, false, false, false, false, false, false, false, false, false, false, false, false, false, false, false, false, false] (by kernel_rfl) rfl rfl (hx304_0) (fun hHeld => ?_); refine with_tabW poly_product.tab11 poly_product.bits11 (fun HT_ HW_ => ?_)
                  generalize wr.drew = w33 at HO_2 HO_7 HO_33 HO_40 HI0 HK HB hx304_0 hHeld ⊢
                  refine pure_ (i := 0) (N := some 47) (v := ?_) (a' := ?_) #[true, false, false, false, false, false, false, false, false, false, false, false, false, false, false, false, false, false] rfl rfl (any_of HT_.out (by kernel_rfl)) (fun _ _ _ h => h) (Or.inl ⟨by rfl, ?_⟩) ?_ ?_
                  rotate_left
                  ·intro w'
                   go_simp
                   with_reducible rfl
                  rotate_left
                  ·simp only [Act.put, List.setIfInBounds_toArray, List.set_cons_zero, List.set_cons_succ, i64_w, i32_w]
                   rfl
                  refine pure_ (i := 1) (N := some 48) (v := ?_) (a' := ?_) #[true, true, false, false, false, false, false, false, false, false, false, false, false, false, false, false, false, false] rfl rfl (any_of HT_.out (by kernel_rfl)) (fun _ _ _ h => h) (Or.inl ⟨by rfl, ?_⟩) ?_ ?_
                  rotate_left
                  ·intro w'
                   go_simp
                   with_reducible rfl
                  rotate_left
                  ·simp only [Act.put, List.setIfInBounds_toArray, List.set_cons_zero, List.set_cons_succ, i64_w, i32_w]
                   rfl
                  refine pure_ (i := 2) (N := some 49) (v := ?_) (a' := ?_) #[true, true, true, false, false, false, false, false, false, false, false, false, false, false, false, false, false, false] rfl rfl (any_of HT_.out (by kernel_rfl)) (fun _ _ _ h => h) (Or.inl ⟨by rfl, ?_⟩) ?_ ?_
                  rotate_left
                  ·intro w'
                   go_simp
                   with_reducible rfl
                  rotate_left
                  ·simp only [Act.put, List.setIfInBounds_toArray, List.set_cons_zero, List.set_cons_succ, i64_w, i32_w]
                   rfl
                  refine pure_ (i := 3) (N := some 50) (v := ?_) (a' := ?_) #[true, true, true, true, false, false, false, false, false, false, false, false, false, false, false, false, false, false] rfl rfl (any_of HT_.out (by kernel_rfl)) (fun _ _ _ h => h) (Or.inl ⟨by rfl, ?_⟩) ?_ ?_
                  rotate_left
                  ·intro w'
                   go_simp
                   with_reducible rfl
                  rotate_left
                  ·simp only [Act.put, List.setIfInBounds_toArray, List.set_cons_zero, List.set_cons_succ, i64_w, i32_w]
                   rfl
                  refine pure_ (i := 4) (N := some 51) (v := ?_) (a' := ?_) #[true, true, true, true, true, false, false, false, false, false, false, false, false, false, false, false, false, false] rfl rfl (any_of HT_.out (by kernel_rfl)) (fun _ _ _ h => h) (Or.inl ⟨by rfl, ?_⟩) ?_ ?_
                  rotate_left
                  ·intro w'
                   go_simp
                   with_reducible rfl
                  rotate_left
                  ·simp only [Act.put, List.setIfInBounds_toArray, List.set_cons_zero, List.set_cons_succ, i64_w, i32_w]
                   rfl
                  refine pure_ (i := 5) (N := some 52) (v := ?_) (a' := ?_) #[true, true, true, true, true, true, false, false, false, false, false, false, false, false, false, false, false, false] rfl rfl (any_of HT_.out (by kernel_rfl)) (fun _ _ _ h => h) (Or.inl ⟨by rfl, ?_⟩) ?_ ?_
                  rotate_left
                  ·intro w'
                   go_simp
                   with_reducible rfl
                  rotate_left
                  ·simp only [Act.put, List.setIfInBounds_toArray, List.set_cons_zero, List.set_cons_succ, i64_w, i32_w]
                   rfl
                  refine pure_ (i := 6) (N := some 53) (v := ?_) (a' := ?_) #[true, true, true, true, true, true, true, false, false, false, false, false, false, false, false, false, false, false] rfl rfl (any_of HT_.out (by kernel_rfl)) (fun _ _ _ h => h) (Or.inl ⟨by rfl, ?_⟩) ?_ ?_
                  rotate_left
                  ·intro w'
                   go_simp
                   with_reducible rfl
                  rotate_left
                  ·simp only [Act.put, List.setIfInBounds_toArray, List.set_cons_zero, List.set_cons_succ, i64_w, i32_w]
                   rfl
                  refine pure_ (i := 7) (N := some 54) (v := ?_) (a' := ?_) #[true, true, true, true, true, true, true, true, false, false, false, false, false, false, false, false, false, false] rfl rfl (any_of HT_.out (by kernel_rfl)) (fun _ _ _ h => h) (Or.inl ⟨by rfl, ?_⟩) ?_ ?_
                  rotate_left
                  ·intro w'
                   go_simp
                   with_reducible rfl
                  rotate_left
                  ·simp only [Act.put, List.setIfInBounds_toArray, List.set_cons_zero, List.set_cons_succ, i64_w, i32_w]
                   rfl
                  refine pure_ (i := 8) (N := some 55) (v := ?_) (a' := ?_) #[true, true, true, true, true, true, true, true, true, false, false, false, false, false, false, false, false, false] rfl rfl (any_of HT_.out (by kernel_rfl)) (fun _ _ _ h => h) (Or.inl ⟨by rfl, ?_⟩) ?_ ?_
                  rotate_left
                  ·intro w'
                   go_simp
                   with_reducible rfl
                  rotate_left
                  ·simp only [Act.put, List.setIfInBounds_toArray, List.set_cons_zero, List.set_cons_succ, i64_w, i32_w]
                   rfl
                  refine pure_ (i := 9) (N := some 56) (v := ?_) (a' := ?_) #[true, true, true, true, true, true, true, true, true, true, false, false, false, false, false, false, false, false] rfl rfl (any_of HT_.out (by kernel_rfl)) (fun _ _ _ h => h) (Or.inl ⟨by rfl, ?_⟩) ?_ ?_
                  rotate_left
                  ·intro w'
                   go_simp
                   with_reducible rfl
                  rotate_left
                  ·simp only [Act.put, List.setIfInBounds_toArray, List.set_cons_zero, List.set_cons_succ, i64_w, i32_w]
                   rfl
                  refine pure_ (i := 11) (N := some 58) (v := ?_) (a' := ?_) #[true, true, true, true, true, true, true, true, true, true, false, true, false, false, false, false, false, false] rfl rfl (any_of HT_.out (by kernel_rfl)) (fun _ _ _ h => h) (Or.inl ⟨by rfl, ?_⟩) ?_ ?_
                  rotate_left
                  ·intro w'
                   go_simp
                   with_reducible rfl
                  rotate_left
                  ·simp only [Act.put, List.setIfInBounds_toArray, List.set_cons_zero, List.set_cons_succ, i64_w, i32_w]
                   rfl
                  refine pure_ (i := 12) (N := some 59) (v := ?_) (a' := ?_) #[true, true, true, true, true, true, true, true, true, true, false, true, true, false, false, false, false, false] rfl rfl (any_of HT_.out (by kernel_rfl)) (fun _ _ _ h => h) (Or.inl ⟨by rfl, ?_⟩) ?_ ?_
                  rotate_left
                  ·intro w'
                   go_simp
                   with_reducible rfl
                  rotate_left
                  ·simp only [Act.put, List.setIfInBounds_toArray, List.set_cons_zero, List.set_cons_succ, i64_w, i32_w]
                   rfl
                  refine pure_ (i := 13) (N := some 60) (v := ?_) (a' := ?_) #[true, true, true, true, true, true, true, true, true, true, false, true, true, true, false, false, false, false] rfl rfl (any_of HT_.out (by kernel_rfl)) (fun _ _ _ h => h) (Or.inl ⟨by rfl, ?_⟩) ?_ ?_
                  rotate_left
                  ·intro w'
                   go_simp
                   with_reducible rfl
                  rotate_left
                  ·simp only [Act.put, List.setIfInBounds_toArray, List.set_cons_zero, List.set_cons_succ, i64_w, i32_w]
                   rfl
                  refine take_ (i := 10) (N := some 57) (v := ?_) (a' := ?_) #[true, true, true, true, true, true, true, true, true, true, true, true, true, true, false, false, false, false] rfl rfl (take_ofW HT_.out HW_.out (by kernel_rfl)) (fun _ _ _ h => h) (Or.inl ⟨by rfl, ?_⟩) hHeld ?_ ?_
                  rotate_left
                  ·intro w' s0
                   go_simp
                   with_reducible rfl
                  rotate_left
                  ·simp only [Act.put, List.setIfInBounds_toArray, List.set_cons_zero, List.set_cons_succ, i64_w, i32_w]
                   rfl
                  refine one_ (i := 14) (N := some 61) #[true, true, true, true, true, true, true, true, true, true, true, true, true, true, true, false, false, false] rfl rfl (one_of HT_.out (by kernel_rfl)) (by decide) (fun K hK => ?_)
                  refine goes_ Try.func44 (by kernel_rfl) rfl #[.pointer (some ⟨g, 0, none⟩), .int .i64 (rd t287 x35_2), .int .i64 (rd t293 x42_3)] (by rfl) rfl rfl (by ((simp only [List.map_toArray, List.map_cons, List.map_nil])); (rfl)) ?_
                  with_reducible refine (field_GF_Mul.calls g x1000_3 x1001_3 s0_2 x1003_3 s0_4 s0_5 (rd t287 x35_2) (rd t293 x42_3) t305 t306 t307 t308 w0 _ ?side1 ?side2 A30.out).mono ?_
                  (case side1 => repeat ((with_reducible (exact HI0.out))))
                  (case side2 => repeat ((with_reducible (exact HB.out))))
                  rintro e w35 ⟨rfl, hi, hb, hk⟩
                  have HS0_ := keep_cell hk (hHeld) (by (rw [add_block]; exact Kd.own_blk (IsS74.own_ne HI0.out HO_7.out (by decide))))
                  refine ⟨_, rfl, ?_⟩
                  have n0_ := Aside0.mk (Kd.R_mono (Kd.R_keep (IsS74.apart (show IsS74 w0 _ g x1000_3 x1001_3 s0_2 x1003_3 s0_4 s0_5 from by exact HI0.out) HO_2.out (by decide)) hk (fun _ h => h.2)) (fun _ h => h.1))
                  have n1_ := Aside0.mk (Kd.R_mono (Kd.R_keep (IsS74.apart (show IsS74 w0 _ g x1000_3 x1001_3 s0_2 x1003_3 s0_4 s0_5 from by exact HI0.out) HO_7.out (by decide)) hk (fun _ h => h.2)) (fun _ h => h.1))
                  have n2_ := Aside0.mk (Kd.R_mono (Kd.R_keep (IsS74.apart (show IsS74 w0 _ g x1000_3 x1001_3 s0_2 x1003_3 s0_4 s0_5 from by exact HI0.out) HO_33.out (by decide)) hk (fun _ h => h.2)) (fun _ h => h.1))
                  have n3_ := Aside0.mk (Kd.R_mono (Kd.R_keep (IsS74.apart (show IsS74 w0 _ g x1000_3 x1001_3 s0_2 x1003_3 s0_4 s0_5 from by exact HI0.out) HO_40.out (by decide)) hk (fun _ h => h.2)) (fun _ h => h.1))
                  have n4_ := Aside0.mk (KeepBut.trans HK.out hk (.inl rfl))
                  have n5_ := Aside0.mk (hb)
                  have n6_ := Aside0.mk (hi)
                  clear HO_2 HO_7 HO_33 HO_40 HK HB HI0
                  have HO_2 := n0_
                  have HO_7 := n1_
                  have HO_33 := n2_
                  have HO_40 := n3_
                  have HK := n4_
                  have HB := n5_
                  have HI0 := n6_
                  clear n0_ n1_ n2_ n3_ n4_ n5_ n6_
                  ((clear hb))
                  ((clear hk))
                  ((clear hi))
                  refine hK.out _ _ (HS0_) (fun hHeld => ?_)
                  clear hK K
                  refine norm_ (a' := ?_) ?_ ?_
                  rotate_left
                  ·show Act.put _ (some 61) _ = _
                   simp only [Act.put, List.setIfInBounds_toArray, List.set_cons_zero, List.set_cons_succ, i64_w, i32_w]
                   rfl
                  refine one_ (i := 15) (N := some 62) #[true, true, true, true, true, true, true, true, true, true, true, true, true, true, true, true, false, false] rfl rfl (one_of HT_.out (by kernel_rfl)) (by decide) (fun K hK => ?_)
                  refine goes_ Try.func53 (by kernel_rfl) rfl #[.pointer (some ⟨g, 0, none⟩), .int .i64 (rd x7_3 (ji27)), .int .i64 t305] (by rfl) rfl rfl (by ((simp only [List.map_toArray, List.map_cons, List.map_nil])); (rfl)) ?_
                  with_reducible refine (field_GF_Add.calls k3 g t306 t307 s0_2 t308 s0_4 s0_5 (rd x7_3 (ji27)) t305 t309 t310 t311 t312 w0 _ ?side1 ?side2 A31.out).mono ?_
                  (case side1 => repeat ((with_reducible (exact HI0.out))))
                  (case side2 => repeat ((with_reducible (exact HB.out))))
                  rintro e w36 ⟨rfl, hi, hb, hk⟩
                  have HS0_ := keep_cell hk (hHeld) (by (rw [add_block]; exact Kd.own_blk (IsS74.own_ne HI0.out HO_7.out (by decide))))
                  refine ⟨_, rfl, ?_⟩
                  have n0_ := Aside0.mk (Kd.R_mono (Kd.R_keep (IsS74.apart (show IsS74 w0 _ g t306 t307 s0_2 t308 s0_4 s0_5 from by exact HI0.out) HO_2.out (by decide)) hk (fun _ h => h.2)) (fun _ h => h.1))
                  have n1_ := Aside0.mk (Kd.R_mono (Kd.R_keep (IsS74.apart (show IsS74 w0 _ g t306 t307 s0_2 t308 s0_4 s0_5 from by exact HI0.out) HO_7.out (by decide)) hk (fun _ h => h.2)) (fun _ h => h.1))
                  have n2_ := Aside0.mk (Kd.R_mono (Kd.R_keep (IsS74.apart (show IsS74 w0 _ g t306 t307 s0_2 t308 s0_4 s0_5 from by exact HI0.out) HO_33.out (by decide)) hk (fun _ h => h.2)) (fun _ h => h.1))
                  have n3_ := Aside0.mk (Kd.R_mono (Kd.R_keep (IsS74.apart (show IsS74 w0 _ g t306 t307 s0_2 t308 s0_4 s0_5 from by exact HI0.out) HO_40.out (by decide)) hk (fun _ h => h.2)) (fun _ h => h.1))
                  have n4_ := Aside0.mk (KeepBut.trans HK.out hk (.inl rfl))
                  have n5_ := Aside0.mk (hb)
                  have n6_ := Aside0.mk (hi)
                  clear HO_2 HO_7 HO_33 HO_40 HK HB HI0
                  have HO_2 := n0_
                  have HO_7 := n1_
                  have HO_33 := n2_
                  have HO_40 := n3_
                  have HK := n4_
                  have HB := n5_
                  have HI0 := n6_
                  clear n0_ n1_ n2_ n3_ n4_ n5_ n6_
                  ((clear hb))
                  ((clear hk))
                  ((clear hi))
                  have p32 : 0 ≤ ((ji27) : Int) := of_decide_eq_true (by (with_reducible assumption))
                  have q32 : ((ji27) : Int) < ((x7_3.length : Int) : Int) := of_decide_eq_true (by (with_reducible assumption))
                  obtain ⟨go32, co32, eo32, gb32, gl32, cl32, HG32⟩ := Kd.R_form HO_7.out (by omega)
                  ((cases eo32))
                  have GB32 := Aside0.mk gb32
                  have GG32 := Aside0.mk HG32
                  clear gb32 gl32 HG32
                  ((simp only [add_plain] at hx304_0))
                  obtain ⟨hx32_0, hf32_0⟩ := Kd.R_celln 0 HO_7.out ((ji27) : Int) p32 q32
                  replace p32 := eq_true p32
                  replace q32 := eq_true q32
                  have HN0_go32 := Aside0.mk (show g ≠ go32 from by have h_ := IsS74.own_ne HI0.out HO_7.out (by decide); intro e_; exact h_ (by rw [e_]; rfl))
                  have HP37 := Kd.R_putn HO_7.out ((ji27) : Int) t309
                  rw [← Ny313.out] at HP37
                  have HQ37 := Aside0.mk HP37
                  clear HP37
                  refine hK.out _ _ (HS0_) (fun hHeld => ?_)
                  clear hK K
                  refine norm_ (a' := ?_) ?_ ?_
                  rotate_left
                  ·show Act.put _ (some 62) _ = _
                   simp only [Act.put, List.setIfInBounds_toArray, List.set_cons_zero, List.set_cons_succ, i64_w, i32_w]
                   rfl
                  refine pure_ (i := 16) (N := some 63) (v := ?_) (a' := ?_) #[true, true, true, true, true, true, true, true, true, true, true, true, true, true, true, true, true, false] rfl rfl (any_of HT_.out (by kernel_rfl)) (fun _ _ _ h => h) (Or.inl ⟨by rfl, ?_⟩) ?_ ?_
                  rotate_left
                  ·intro w'
                   go_simp
                   with_reducible rfl
                  rotate_left
                  ·simp only [Act.put, List.setIfInBounds_toArray, List.set_cons_zero, List.set_cons_succ, i64_w, i32_w]
                   rfl
                  refine last_ (i := 17) (N := none) #[true, true, true, true, true, true, true, true, true, true, true, true, true, true, true, true, true, true] rfl rfl (one_of HT_.out (by kernel_rfl)) (by decide) (fun K hK => ?_)
                  refine skip_ (w1 := ?_) (by rfl) rfl ?_ ?_
                  rotate_left
                  ·go_simp
                   rfl
                  refine hK.out _ _ ?_
                  clear hK K
                  refine done_ (done_of HT_.out (by kernel_rfl)) ?_
                  (go_wp2)
                  go_roundg k3
                  case measure => have := HJ5.out; have := HK2.out; have := HK3.out; omega
                  case rel => exact ⟨(y313), (wrap64 (x42_3 + 1)), (t310), (t311), (t312), (by rfl), H', ⟨by have := HJ5.out; have := HK2.out; have := HK3.out; omega⟩, ⟨by exact Kd.R_mono (Kd.R_far (p := ⟨go32, ((ji27) : Int).toNat, none⟩) (Kd.R_mono HO_2.out (fun k_ hk => (⟨hk, fun e_ => hk.1 (by rw [e_]; rfl)⟩ : _ ∧ k_ ≠ go32))) (fun _ hk => hk.2) (.int .i64 t309)) (fun _ hk => ⟨hk.1.1, hk.1.2⟩)⟩, ⟨HQ37.out⟩, ⟨by exact Kd.R_mono (Kd.R_far (p := ⟨go32, ((ji27) : Int).toNat, none⟩) (Kd.R_mono HO_33.out (fun k_ hk => (⟨hk, fun e_ => hk.2.1 (by rw [e_]; rfl)⟩ : _ ∧ k_ ≠ go32))) (fun _ hk => hk.2) (.int .i64 t309)) (fun _ hk => ⟨hk.1.1, ⟨hk.1.2.1, hk.1.2.2⟩⟩)⟩, ⟨by exact Kd.R_mono (Kd.R_far (p := ⟨go32, ((ji27) : Int).toNat, none⟩) (Kd.R_mono HO_40.out (fun k_ hk => (⟨hk, fun e_ => hk.1 (by rw [e_]; rfl)⟩ : _ ∧ k_ ≠ go32))) (fun _ hk => hk.2) (.int .i64 t309)) (fun _ hk => ⟨hk.1.1, hk.1.2⟩)⟩, ⟨by repeat ((with_reducible first | (exact HI0.out) | (refine IsS74.far ?_ HN0_go32.out _)))⟩, ⟨by repeat ((with_reducible first | (exact HK.out) | (refine keep_far ?_ GB32.out _)))⟩, ⟨by repeat ((with_reducible first | (exact HB.out) | (refine below_set ?_ (Nat.le_trans HL.out GB32.out))))⟩⟩
                 ·rw [if_neg c29] at H
                  exact absurd H (by simp)
                ·rw [if_neg c28] at H
                 exact absurd H (by simp)
               ·rw [if_neg c26] at H
                exact absurd H (by simp)
              ·rw [if_neg c25] at H
               exact absurd H (by simp)
             ·rw [if_neg c24] at H
              have c24b0 : decide (x42_3 < (t293.length : Int)) = false := decide_eq_false c24
              clear c24
              have H' := Aside0.mk H
              clear H
              go_wp2
              go_roundg k3
              case measure => have := HJ5.out; have := HK2.out; have := HK3.out; omega
              case rel => exact ⟨(x7_3), (wrap64 (x35_2 + 1)), (x1000_3), (x1001_3), (x1003_3), (by rfl), H', ⟨by have := HJ5.out; have := HK2.out; have := HK3.out; omega⟩, ⟨HO_2.out⟩, ⟨by exact Kd.R_mono HO_7.out (fun _ hk => ⟨hk.1, hk.2.1⟩)⟩, ⟨by exact Kd.R_mono HO_33.out (fun _ hk => ⟨hk.1, hk.2.1⟩)⟩, ⟨by exact HI0.out⟩, ⟨by exact HK.out⟩, ⟨by exact HB.out⟩⟩
          ·rw [if_neg c23] at H
           exact absurd H (by simp)
         ·rw [if_neg c22] at H
          exact absurd H (by simp)
        ·rw [if_neg c21] at H
         have c21b0 : decide (x35_2 < (t287.length : Int)) = false := decide_eq_false c21
         clear c21
         simp only [Option.some.injEq, Prod.mk.injEq] at H
         obtain ⟨rfl, rfl, rfl, rfl⟩ := H
         go_wp2
         go_ret
         exact ⟨_, by rfl, by exact Kd.R_mono HO_7.out (fun _ hk => trivial), by exact HI0.out, by exact HB.out, by exact HK.out⟩
     ·rw [if_neg c16] at H
      exact absurd H (by simp)
    ·rw [if_neg c15] at H
     exact absurd H (by simp)
def codewrightlaw05_short.l0 : Nat → List (List Int) → Int → Int → Option (Bool)
 | 0, _, _, _ => none
 | k + 1, x5, x6, x7 => if x7 < x6 then (if 0 ≤ x7 then (if x7 < (x5.length : Int) then (if ((rd_L2 x5 x7).length : Int) > 24 then (some false) else (codewrightlaw05_short.l0 k x5 x6 (wrap64 (x7 + 1)))) else (none)) else (none)) else (some true)
def codewrightlaw05_short.f (k : Nat) (l0 : List (List Int)) : Option (Bool) := codewrightlaw05_short.l0 k l0 (l0.length : Int) 0
set_option maxHeartbeats 8000000 in
set_option maxRecDepth 100000 in
theorem codewrightlaw05_short.calls (k : Nat) (A0 : Option Addr) (c0 : Nat) (l0 : List (List Int)) (r : Bool) (w : World) (hr0 : Kd.C (Kd.slice 3 (Kd.int .i64)) w A0 l0.length l0) (hc0 : l0.length ≤ c0) (h : codewrightlaw05_short.f k l0 = some r) :
  Calls Try.prog 15 #[.slice A0 l0.length c0] w fun e w' => e = .returned (.bool r) ∧ Drawn0 w w' := by
 have HR0 := Aside0.mk hr0
 have HC0 := Aside0.mk hc0
 clear hr0 hc0
 have H : (codewrightlaw05_short.l0 k l0 (l0.length : Int) 0) = some r := h
 clear h
 have H' := Aside0.mk H
 clear H
 go_enter Try.func15, Try.ntmps15
 go_wp2
 go_loopg [7] k (fun kq v7 w' => ∃ (x7_1 : Int), v7 = .int .i64 x7_1 ∧ Aside0 (codewrightlaw05_short.l0 kq l0 (l0.length : Int) x7_1 = some r) ∧ Aside0 (kq ≤ k) ∧ Drawn0 w w')
 case atStart => exact ⟨(0), (by rfl), H', ⟨Nat.le_refl _⟩, by repeat ((exact Drawn0.refl _))⟩
 case round =>
  clear H'
  obtain ⟨x7_1, rfl, HA, HK1, ⟨m1, rfl⟩⟩ := hrel
  cases gk with
  | zero => exact absurd HA.out (by simp [codewrightlaw05_short.l0])
  | succ k1 =>
   have H := HA.out
   clear HA
   simp only [codewrightlaw05_short.l0] at H
   by_cases c2 : x7_1 < (l0.length : Int)
   ·rw [if_pos c2] at H
    have c2b0 : decide (x7_1 < (l0.length : Int)) = true := decide_eq_true c2
    clear c2
    by_cases c3 : 0 ≤ x7_1
    ·rw [if_pos c3] at H
     have c3b0 : decide (0 ≤ x7_1) = true := decide_eq_true c3
     clear c3
     by_cases c4 : x7_1 < (l0.length : Int)
     ·rw [if_pos c4] at H
      have c4b0 : decide (x7_1 < (l0.length : Int)) = true := decide_eq_true c4
      clear c4
      by_cases c5 : ((rd_L2 l0 x7_1).length : Int) > 24
      ·rw [if_pos c5] at H
       have c5b0 : decide (24 < ((rd_L2 l0 x7_1).length : Int)) = true := decide_eq_true c5
       have c5b1 : decide (24 < (rd_L2 l0 x7_1).length) = true := decide_eq_true (by omega)
       clear c5
       obtain rfl := Option.some.inj H
       have p314 : 0 ≤ (x7_1 : Int) := of_decide_eq_true (by (with_reducible assumption))
       have q314 : x7_1 < (l0.length : Int) := of_decide_eq_true (by (with_reducible assumption))
       obtain ⟨ad314, A314_0, c314_0, e314, hx314_0, hl314_0, hi314_0⟩ := at_L2 HR0.out x7_1 p314 q314
       cases e314
       have HR314_0 := Aside0.mk hi314_0
       have HC314_0 := Aside0.mk hl314_0
       clear hi314_0 hl314_0
       replace p314 := eq_true p314
       replace q314 := eq_true q314
       go_wp2
       go_ret
       exact ⟨by rfl, by repeat (first | (exact Drawn0.refl _) | (apply Drawn0.step))⟩
      ·rw [if_neg c5] at H
       have c5b0 : decide (24 < ((rd_L2 l0 x7_1).length : Int)) = false := decide_eq_false c5
       have c5b1 : decide (24 < (rd_L2 l0 x7_1).length) = false := decide_eq_false (by omega)
       clear c5
       have H' := Aside0.mk H
       clear H
       have p314 : 0 ≤ (x7_1 : Int) := of_decide_eq_true (by (with_reducible assumption))
       have q314 : x7_1 < (l0.length : Int) := of_decide_eq_true (by (with_reducible assumption))
       obtain ⟨ad314, A314_0, c314_0, e314, hx314_0, hl314_0, hi314_0⟩ := at_L2 HR0.out x7_1 p314 q314
       cases e314
       have HR314_0 := Aside0.mk hi314_0
       have HC314_0 := Aside0.mk hl314_0
       clear hi314_0 hl314_0
       replace p314 := eq_true p314
       replace q314 := eq_true q314
       go_wp2
       go_roundg k1
       case measure => have := HK1.out; omega
       case rel => exact ⟨(wrap64 (x7_1 + 1)), (by rfl), H', ⟨by have := HK1.out; omega⟩, by repeat (first | (exact Drawn0.refl _) | (apply Drawn0.step))⟩
     ·rw [if_neg c4] at H
      exact absurd H (by simp)
    ·rw [if_neg c3] at H
     exact absurd H (by simp)
   ·rw [if_neg c2] at H
    have c2b0 : decide (x7_1 < (l0.length : Int)) = false := decide_eq_false c2
    clear c2
    obtain rfl := Option.some.inj H
    go_wp2
    go_ret
    exact ⟨by rfl, by repeat (first | (exact Drawn0.refl _) | (apply Drawn0.step))⟩
def codewrightref04_Is.f (k : Nat) (a0_0 : Int) (a0_1 : Int) (l0_2 : List Int) (a1 : Int) : Option (Bool) := if a1 ≥ 0 then ((codewrightref04_Order.f k a0_0 a0_1 l0_2).bind fun t316 => (some (decide (a1 < t316)))) else (some false)
set_option maxHeartbeats 8000000 in
set_option maxRecDepth 100000 in
theorem codewrightref04_Is.calls (k : Nat) (a0_0 : Int) (a0_1 : Int) (A0_2 : Option Addr) (c0_2 : Nat) (l0_2 : List Int) (a1 : Int) (r : Bool) (w : World) (hr0_2 : Kd.C (Kd.int .i64) w A0_2 l0_2.length l0_2) (hc0_2 : l0_2.length ≤ c0_2) (h : codewrightref04_Is.f k a0_0 a0_1 l0_2 a1 = some r) :
  Calls Try.prog 54 #[.agg #[.int .i64 a0_0, .int .i64 a0_1, .slice A0_2 l0_2.length c0_2], .int .i64 a1] w fun e w' => e = .returned (.bool r) ∧ Below w.heap.size w w' := by
 have hu24 := Try.underlying24
 have HR0_2 := Aside0.mk hr0_2
 have HC0_2 := Aside0.mk hc0_2
 clear hr0_2 hc0_2
 have HB := Aside0.mk (Below.refl w.heap.size w)
 have H : (if a1 ≥ 0 then ((codewrightref04_Order.f k a0_0 a0_1 l0_2).bind fun t316 => (some (decide (a1 < t316)))) else (some false)) = some r := h
 clear h
 by_cases c3 : a1 ≥ 0
 ·rw [if_pos c3] at H
  have c3b0 : decide (0 ≤ a1) = true := decide_eq_true c3
  clear c3
  obtain ⟨t316, A40, H⟩ := Option.bind_eq_some_iff.mp H
  replace H : (some (decide (a1 < t316))) = some r := H
  have A4 := Aside0.mk A40
  clear A40
  obtain rfl := Option.some.inj H
  go_enter Try.func54, Try.ntmps54
  go_wp2_with (first | ((with_reducible refine gate_dst (N := 2) rfl ?_); refine box_event ?hg (N := 2) ?hd (cs := #[.int .i64 a0_0, .int .i64 a0_1, .slice A0_2 l0_2.length c0_2]) (t := 24) ?hr ?_; (case hd => rfl); (case hg => rfl); (case hr => (go_simp; done)); intro gb315 hg w5 hbox hb; have n0_ := Aside0.mk (below_step HB.out hb); have n1_ := Aside0.mk (hbox); have n2_ := Aside0.mk ((by rw [hg]; exact (below_size HB.out) : w.heap.size ≤ gb315)); have n3_ := Aside0.mk ((by rw [hg]; exact (below_size HB.out) : w.heap.size ≤ gb315)); clear HB; have HB := n0_; have BK315 := n1_; have GW315 := n2_; have GE315 := n3_; clear n0_ n1_ n2_ n3_; clear hb hbox hg; have hcz6_0 : w5.cell? ⟨gb315, 0, none⟩ = some (.int .i64 a0_0) := (blk_cell BK315.out 0).trans rfl; have hcz6_1 : w5.cell? ⟨gb315, 1, none⟩ = some (.int .i64 a0_1) := (blk_cell BK315.out 1).trans rfl; have hcz6_2 : w5.cell? ⟨gb315, 2, none⟩ = some (.slice A0_2 l0_2.length c0_2) := (blk_cell BK315.out 2).trans rfl; have hfz6_0 := blk_frozen BK315.out 0; have hfz6_1 := blk_frozen BK315.out 1; have hfz6_2 := blk_frozen BK315.out 2) | (go_at_call 57; (with_reducible refine (codewrightref04_Order.calls k a0_0 a0_1 _ _ l0_2 t316 _ ?side1 ?side2 A4.out).mono ?_); (case side1 => repeat ((exact (Kd.C_below HR0_2.out HB.out)))); (case side2 => exact HC0_2.out); rintro e w7 ⟨rfl, hb⟩; have n0_ := Aside0.mk (blk_below (g := gb315) (o := .cells #[.int .i64 a0_0, .int .i64 a0_1, .slice A0_2 l0_2.length c0_2] 24 (0, 0)) BK315.out hb); have n1_ := Aside0.mk (below_step HB.out hb); clear BK315; clear HB; have BK315 := n0_; have HB := n1_; clear n0_ n1_; ((clear hb)); (skip); (skip); (skip)))
  go_ret
  exact ⟨by rfl, by exact HB.out⟩
 ·rw [if_neg c3] at H
  have c3b0 : decide (0 ≤ a1) = false := decide_eq_false c3
  clear c3
  obtain rfl := Option.some.inj H
  go_enter Try.func54, Try.ntmps54
  go_wp2_with (((with_reducible refine gate_dst (N := 2) rfl ?_); refine box_event ?hg (N := 2) ?hd (cs := #[.int .i64 a0_0, .int .i64 a0_1, .slice A0_2 l0_2.length c0_2]) (t := 24) ?hr ?_; (case hd => rfl); (case hg => rfl); (case hr => (go_simp; done)); intro gb315 hg w8 hbox hb; have n0_ := Aside0.mk (below_step HB.out hb); have n1_ := Aside0.mk (hbox); have n2_ := Aside0.mk ((by rw [hg]; exact (below_size HB.out) : w.heap.size ≤ gb315)); have n3_ := Aside0.mk ((by rw [hg]; exact (below_size HB.out) : w.heap.size ≤ gb315)); clear HB; have HB := n0_; have BK315 := n1_; have GW315 := n2_; have GE315 := n3_; clear n0_ n1_ n2_ n3_; clear hb hbox hg))
  go_ret
  exact ⟨by rfl, by exact HB.out⟩
def codewrightref04_In.f (k : Nat) (a0_0 : Int) (a0_1 : Int) (l0_2 : List Int) (a1 : Int) : Option (Int) := (codewrightref04_Is.f k a0_0 a0_1 l0_2 a1).bind fun t318 => (if t318 = true then (some a1) else (some 0))
set_option maxHeartbeats 8000000 in
set_option maxRecDepth 100000 in
theorem codewrightref04_In.calls (k : Nat) (a0_0 : Int) (a0_1 : Int) (A0_2 : Option Addr) (c0_2 : Nat) (l0_2 : List Int) (a1 : Int) (r : Int) (w : World) (hr0_2 : Kd.C (Kd.int .i64) w A0_2 l0_2.length l0_2) (hc0_2 : l0_2.length ≤ c0_2) (h : codewrightref04_In.f k a0_0 a0_1 l0_2 a1 = some r) :
  Calls Try.prog 36 #[.agg #[.int .i64 a0_0, .int .i64 a0_1, .slice A0_2 l0_2.length c0_2], .int .i64 a1] w fun e w' => e = .returned (.int .i64 r) ∧ Below w.heap.size w w' := by
 have hu24 := Try.underlying24
 have HR0_2 := Aside0.mk hr0_2
 have HC0_2 := Aside0.mk hc0_2
 clear hr0_2 hc0_2
 have HB := Aside0.mk (Below.refl w.heap.size w)
 have H : ((codewrightref04_Is.f k a0_0 a0_1 l0_2 a1).bind fun t318 => (if t318 = true then (some a1) else (some 0))) = some r := h
 clear h
 obtain ⟨t318, A30, H⟩ := Option.bind_eq_some_iff.mp H
 replace H : (if t318 = true then (some a1) else (some 0)) = some r := H
 have A3 := Aside0.mk A30
 clear A30
 by_cases c4 : t318 = true
 ·subst c4
  have H1 : (some a1) = some r := by rw [if_pos rfl] at H; exact H
  clear H
  have H := H1
  clear H1
  obtain rfl := Option.some.inj H
  go_enter Try.func36, Try.ntmps36
  go_wp2_with (first | ((with_reducible refine gate_dst (N := 2) rfl ?_); refine box_event ?hg (N := 2) ?hd (cs := #[.int .i64 a0_0, .int .i64 a0_1, .slice A0_2 l0_2.length c0_2]) (t := 24) ?hr ?_; (case hd => rfl); (case hg => rfl); (case hr => (go_simp; done)); intro gb317 hg w5 hbox hb; have n0_ := Aside0.mk (below_step HB.out hb); have n1_ := Aside0.mk (hbox); have n2_ := Aside0.mk ((by rw [hg]; exact (below_size HB.out) : w.heap.size ≤ gb317)); have n3_ := Aside0.mk ((by rw [hg]; exact (below_size HB.out) : w.heap.size ≤ gb317)); clear HB; have HB := n0_; have BK317 := n1_; have GW317 := n2_; have GE317 := n3_; clear n0_ n1_ n2_ n3_; clear hb hbox hg; have hcz6_0 : w5.cell? ⟨gb317, 0, none⟩ = some (.int .i64 a0_0) := (blk_cell BK317.out 0).trans rfl; have hcz6_1 : w5.cell? ⟨gb317, 1, none⟩ = some (.int .i64 a0_1) := (blk_cell BK317.out 1).trans rfl; have hcz6_2 : w5.cell? ⟨gb317, 2, none⟩ = some (.slice A0_2 l0_2.length c0_2) := (blk_cell BK317.out 2).trans rfl; have hfz6_0 := blk_frozen BK317.out 0; have hfz6_1 := blk_frozen BK317.out 1; have hfz6_2 := blk_frozen BK317.out 2) | ((with_reducible refine gate_callee (f := 54) rfl ?_); refine goesL_ (some 7) rfl rfl Try.func54 (by kernel_rfl) rfl #[.agg #[.int .i64 a0_0, .int .i64 a0_1, .slice A0_2 l0_2.length c0_2], .int .i64 a1] rfl (by ((simp only [List.map_toArray, List.map_cons, List.map_nil])); (rfl)) ?_; (with_reducible refine (codewrightref04_Is.calls k a0_0 a0_1 _ _ l0_2 a1 true _ ?side1 ?side2 A3.out).mono ?_); (case side1 => repeat ((exact (Kd.C_below HR0_2.out HB.out)))); (case side2 => exact HC0_2.out); rintro e w7 ⟨rfl, hb⟩; refine ⟨_, rfl, ?_⟩; have n0_ := Aside0.mk (blk_below (g := gb317) (o := .cells #[.int .i64 a0_0, .int .i64 a0_1, .slice A0_2 l0_2.length c0_2] 24 (0, 0)) BK317.out hb); have n1_ := Aside0.mk (below_step HB.out hb); clear BK317; clear HB; have BK317 := n0_; have HB := n1_; clear n0_ n1_; ((clear hb)); (skip); (skip); (skip)))
  go_ret
  exact ⟨by rfl, by exact HB.out⟩
 ·replace c4 := Bool.eq_false_iff.mpr c4
  subst c4
  have H1 : (some 0) = some r := by rw [if_neg (show ¬ (false = true) by decide)] at H; exact H
  clear H
  have H := H1
  clear H1
  obtain rfl := Option.some.inj H
  go_enter Try.func36, Try.ntmps36
  go_wp2_with (first | ((with_reducible refine gate_dst (N := 2) rfl ?_); refine box_event ?hg (N := 2) ?hd (cs := #[.int .i64 a0_0, .int .i64 a0_1, .slice A0_2 l0_2.length c0_2]) (t := 24) ?hr ?_; (case hd => rfl); (case hg => rfl); (case hr => (go_simp; done)); intro gb317 hg w8 hbox hb; have n0_ := Aside0.mk (below_step HB.out hb); have n1_ := Aside0.mk (hbox); have n2_ := Aside0.mk ((by rw [hg]; exact (below_size HB.out) : w.heap.size ≤ gb317)); have n3_ := Aside0.mk ((by rw [hg]; exact (below_size HB.out) : w.heap.size ≤ gb317)); clear HB; have HB := n0_; have BK317 := n1_; have GW317 := n2_; have GE317 := n3_; clear n0_ n1_ n2_ n3_; clear hb hbox hg; have hcz9_0 : w8.cell? ⟨gb317, 0, none⟩ = some (.int .i64 a0_0) := (blk_cell BK317.out 0).trans rfl; have hcz9_1 : w8.cell? ⟨gb317, 1, none⟩ = some (.int .i64 a0_1) := (blk_cell BK317.out 1).trans rfl; have hcz9_2 : w8.cell? ⟨gb317, 2, none⟩ = some (.slice A0_2 l0_2.length c0_2) := (blk_cell BK317.out 2).trans rfl; have hfz9_0 := blk_frozen BK317.out 0; have hfz9_1 := blk_frozen BK317.out 1; have hfz9_2 := blk_frozen BK317.out 2) | ((with_reducible refine gate_callee (f := 54) rfl ?_); refine goesL_ (some 7) rfl rfl Try.func54 (by kernel_rfl) rfl #[.agg #[.int .i64 a0_0, .int .i64 a0_1, .slice A0_2 l0_2.length c0_2], .int .i64 a1] rfl (by ((simp only [List.map_toArray, List.map_cons, List.map_nil])); (rfl)) ?_; (with_reducible refine (codewrightref04_Is.calls k a0_0 a0_1 _ _ l0_2 a1 false _ ?side1 ?side2 A3.out).mono ?_); (case side1 => repeat ((exact (Kd.C_below HR0_2.out HB.out)))); (case side2 => exact HC0_2.out); rintro e w10 ⟨rfl, hb⟩; refine ⟨_, rfl, ?_⟩; have n0_ := Aside0.mk (blk_below (g := gb317) (o := .cells #[.int .i64 a0_0, .int .i64 a0_1, .slice A0_2 l0_2.length c0_2] 24 (0, 0)) BK317.out hb); have n1_ := Aside0.mk (below_step HB.out hb); clear BK317; clear HB; have BK317 := n0_; have HB := n1_; clear n0_ n1_; ((clear hb)); (skip); (skip); (skip)))
  go_ret
  exact ⟨by rfl, by exact HB.out⟩
end Go.Proofs.Ytccmpmkmgehkiaa.PA
end
section
namespace Go.Proofs.Ytccmpmkmgehkiaa.PA
open Go.RowKit Go.Proofs.YtccmpmkmgehkiaaW.PrintWords Go.Proofs.YtccmpmkmgehkiaaW.PrintLast Go.Proofs.YtccmpmkmgehkiaaW.PrintMore
attribute [local go_sem] max2_int min2_int max_two min_two max_three min_three max_four min_four
set_option linter.unusedVariables false
set_option linter.unusedSimpArgs false
mutual
def codewrightref05_Canon.l0 : Nat → List Int → Int → Int → Int → Int → List Int → Option (List Int)
 | 0, _, _, _, _, _, _ => none
 | k + 1, x1, x5, x6, x320000, x320001, x320002 => if x6 < (x1.length : Int) then (if 0 ≤ x6 then ((codewrightref04_In.f k x320000 x320001 x320002 (rd x1 x6)).bind fun t321 => (if t321 = 0 then (codewrightref05_Canon.l0 k x1 x5 (wrap64 (x6 + 1)) x320000 x320001 x320002) else (codewrightref05_Canon.l0 k x1 (wrap64 (x6 + 1)) (wrap64 (x6 + 1)) x320000 x320001 x320002))) else (none)) else (if 0 ≤ x5 then (if (x5 : Int).toNat ≤ 35184372088832 then (codewrightref05_Canon.l1 k x1 x5 (List.replicate (x5 : Int).toNat 0) 0 x320000 x320001 x320002) else (none)) else (none))
def codewrightref05_Canon.l1 : Nat → List Int → Int → List Int → Int → Int → Int → List Int → Option (List Int)
 | 0, _, _, _, _, _, _, _ => none
 | k + 1, x1, x5, x7, x8, x320000, x320001, x320002 => if x8 < x5 then (if 0 ≤ x8 then (if x8 < (x1.length : Int) then ((codewrightref04_In.f k x320000 x320001 x320002 (rd x1 x8)).bind fun t326 => (if x8 < (x7.length : Int) then (codewrightref05_Canon.l1 k x1 x5 (x7.set (x8 : Int).toNat t326) (wrap64 (x8 + 1)) x320000 x320001 x320002) else (none))) else (none)) else (none)) else (some x7)
end
def codewrightref05_Canon.f (k : Nat) (a0_0 : Int) (a0_1 : Int) (l0_2 : List Int) (l1 : List Int) : Option (List Int) := codewrightref05_Canon.l0 k l1 0 0 a0_0 a0_1 l0_2
def codewrightref05_Canon.T11 : Bool × List (List Nat × List Nat) := (true, [([], []), ([], []), ([], []), ([], []), ([], []), ([3, 4], [3, 4]), ([5], [5]), ([2, 6], [2, 6]), ([0, 1, 0, 1, 2, 3, 4, 5, 6, 7], [0, 1]), ([8, 7, 7, 0, 1, 2, 3, 4, 5, 6, 7], [7, 8])])
def codewrightref05_Canon.B11 : List Nat := [0, 0, 0, 0, 0, 24, 56, 124, 255, 511]
theorem codewrightref05_Canon.tab11 : rtab .any (opsOf Try.f21 11) = codewrightref05_Canon.T11 := by kernel_rfl
theorem codewrightref05_Canon.bits11 : waitsOk codewrightref05_Canon.T11.2 codewrightref05_Canon.B11 = true := by kernel_rfl
set_option maxHeartbeats 8000000 in
set_option maxRecDepth 100000 in
theorem codewrightref05_Canon.calls (k : Nat) (a0_0 : Int) (a0_1 : Int) (A0_2 : Option Addr) (c0_2 : Nat) (l0_2 : List Int) (A1 : Option Addr) (c1 : Nat) (l1 : List Int) (r : List Int) (w : World) (hr0_2 : Kd.C (Kd.int .i64) w A0_2 l0_2.length l0_2) (hc0_2 : l0_2.length ≤ c0_2) (hr1 : Kd.C (Kd.int .i64) w A1 l1.length l1) (hc1 : l1.length ≤ c1) (h : codewrightref05_Canon.f k a0_0 a0_1 l0_2 l1 = some r) :
  Calls Try.prog 21 #[.agg #[.int .i64 a0_0, .int .i64 a0_1, .slice A0_2 l0_2.length c0_2], .slice A1 l1.length c1] w fun e w' => ∃ v0_ : Value, e = .returned (v0_) ∧ Kd.R (Kd.int .i64) 3 w' w.heap.size (fun _ => True) v0_ r ∧ Below w.heap.size w w' := by
 have hu24 := Try.underlying24
 have HR0_2 := Aside0.mk hr0_2
 have HC0_2 := Aside0.mk hc0_2
 clear hr0_2 hc0_2
 have HR1 := Aside0.mk hr1
 have HC1 := Aside0.mk hc1
 clear hr1 hc1
 have HB := Aside0.mk (Below.refl w.heap.size w)
 have H : (codewrightref05_Canon.l0 k l1 0 0 a0_0 a0_1 l0_2) = some r := h
 clear h
 have H' := Aside0.mk H
 clear H
 go_enter Try.func21, Try.ntmps21
 go_wp2_with (((with_reducible refine gate_dst (N := 2) rfl ?_); refine box_event ?hg (N := 2) ?hd (cs := #[.int .i64 a0_0, .int .i64 a0_1, .slice A0_2 l0_2.length c0_2]) (t := 24) ?hr ?_; (case hd => rfl); (case hg => rfl); (case hr => (go_simp; done)); intro gb319 hg w3 hbox hb; have n0_ := Aside0.mk (below_step HB.out hb); have n1_ := Aside0.mk (hbox); have n2_ := Aside0.mk ((by rw [hg]; exact (below_size HB.out) : w.heap.size ≤ gb319)); have n3_ := Aside0.mk ((by rw [hg]; exact (below_size HB.out) : w.heap.size ≤ gb319)); clear HB; have HB := n0_; have BK319 := n1_; have GW319 := n2_; have GE319 := n3_; clear n0_ n1_ n2_ n3_; clear hb hbox hg))
 go_loopg [5, 6] k (fun kq v5 v6 w' => ∃ (x5_1 : Int) (x6_1 : Int), v5 = .int .i64 x5_1 ∧ v6 = .int .i64 x6_1 ∧ Aside0 (codewrightref05_Canon.l0 kq l1 x5_1 x6_1 a0_0 a0_1 l0_2 = some r) ∧ Aside0 (kq ≤ k) ∧ Aside0 (w'.heap[gb319]? = some (.cells #[.int .i64 a0_0, .int .i64 a0_1, (.slice A0_2 l0_2.length c0_2)] 24 (0, 0))) ∧ Aside0 (Below w.heap.size w w'))
 case atStart => exact ⟨(0), (0), (by rfl), (by rfl), H', ⟨Nat.le_refl _⟩, ⟨BK319.out⟩, ⟨by exact HB.out⟩⟩
 case round =>
  clear H'
  obtain ⟨x5_1, x6_1, rfl, rfl, HA, HK1, BK319, HB⟩ := hrel
  cases gk with
  | zero => exact absurd HA.out (by simp [codewrightref05_Canon.l0])
  | succ k1 =>
   have H := HA.out
   clear HA
   simp only [codewrightref05_Canon.l0] at H
   by_cases c4 : x6_1 < (l1.length : Int)
   ·rw [if_pos c4] at H
    have c4b0 : decide (x6_1 < (l1.length : Int)) = true := decide_eq_true c4
    clear c4
    by_cases c5 : 0 ≤ x6_1
    ·rw [if_pos c5] at H
     have c5b0 : decide (0 ≤ x6_1) = true := decide_eq_true c5
     clear c5
     obtain ⟨t321, A60, H⟩ := Option.bind_eq_some_iff.mp H
     replace H : (if t321 = 0 then (codewrightref05_Canon.l0 k1 l1 x5_1 (wrap64 (x6_1 + 1)) a0_0 a0_1 l0_2) else (codewrightref05_Canon.l0 k1 l1 (wrap64 (x6_1 + 1)) (wrap64 (x6_1 + 1)) a0_0 a0_1 l0_2)) = some r := H
     have A6 := Aside0.mk A60
     clear A60
     by_cases c7 : t321 = 0
     ·rw [if_pos c7] at H
      have c7b0 : (t321 == 0) = true := beq_iff_eq.mpr c7
      have c7b1 : (t321 != 0) = false := bne_eq_false_iff_eq.mpr c7
      clear c7
      have H' := Aside0.mk H
      clear H
      (go_wp2)
      have n0_ := Aside0.mk (blk_drew BK319.out)
      have n1_ := Aside0.mk (below_drew1 HB.out)
      clear BK319 HB
      have BK319 := n0_
      have HB := n1_
      clear n0_ n1_
      have p320 : 0 ≤ (x6_1 : Int) := of_decide_eq_true (by (with_reducible assumption))
      have q320 : x6_1 < (l1.length : Int) := of_decide_eq_true (by (with_reducible assumption))
      obtain ⟨ad320, e320, hx320_0⟩ := Kd.at_int HR1.out x6_1 p320 q320
      have hw320_0 := hx320_0
      cases e320
      replace hx320_0 := (HB.out.cell (World.block_lt_of_cell? w _ hx320_0)).trans hx320_0
      replace p320 := eq_true p320
      replace q320 := eq_true q320
      refine start_ (n := 7) (S := fun w' => w'.cell? ⟨gb319, 0, none⟩ = some (.int .i64 a0_0) ∧ w'.cell? ⟨gb319, 1, none⟩ = some (.int .i64 a0_1) ∧ w'.cell? ⟨gb319, 2, none⟩ = some (.slice A0_2 l0_2.length c0_2) ∧ w'.cell? (ad320.add (x6_1).toNat) = some (.int .i64 (rd l1 x6_1))) (ds := []) #[false, false, false, false, false, false, false] (by kernel_rfl) rfl rfl ⟨(blk_cell BK319.out 0).trans rfl, (blk_cell BK319.out 1).trans rfl, (blk_cell BK319.out 2).trans rfl, ((HB.out.cell (World.block_lt_of_cell? w _ hw320_0)).trans hw320_0)⟩ (fun hHeld => ?_)
      generalize wr.drew = w8 at BK319 HB hx320_0 hHeld ⊢
      refine pure_ (i := 1) (N := some 16) (v := ?_) (a' := ?_) #[false, true, false, false, false, false, false] rfl rfl (by kernel_rfl) (fun _ _ _ h => h) (Or.inl ⟨by rfl, ?_⟩) ?_ ?_
      rotate_left
      ·intro w'
       go_simp
       with_reducible rfl
      rotate_left
      ·simp only [Act.put, List.setIfInBounds_toArray, List.set_cons_zero, List.set_cons_succ, i64_w, i32_w]
       rfl
      refine pure_ (i := 2) (N := some 17) (v := ?_) (a' := ?_) #[false, true, true, false, false, false, false] rfl rfl (by kernel_rfl) (fun _ _ _ h => h) (Or.inl ⟨by rfl, ?_⟩) ?_ ?_
      rotate_left
      ·intro w'
       go_simp
       with_reducible rfl
      rotate_left
      ·simp only [Act.put, List.setIfInBounds_toArray, List.set_cons_zero, List.set_cons_succ, i64_w, i32_w]
       rfl
      refine pure_ (i := 3) (N := some 18) (v := ?_) (a' := ?_) #[false, true, true, true, false, false, false] rfl rfl (by kernel_rfl) (fun _ _ _ h => h) (Or.inl ⟨by rfl, ?_⟩) ?_ ?_
      rotate_left
      ·intro w'
       go_simp
       with_reducible rfl
      rotate_left
      ·simp only [Act.put, List.setIfInBounds_toArray, List.set_cons_zero, List.set_cons_succ, i64_w, i32_w]
       rfl
      refine take_ (i := 0) (N := some 15) (v := ?_) (a' := ?_) #[true, true, true, true, false, false, false] rfl rfl (by kernel_rfl) (fun _ _ _ h => h) (Or.inl ⟨by rfl, ?_⟩) hHeld ?_ ?_
      rotate_left
      ·rintro w' ⟨s0, s1, s2, s3⟩
       go_simp
       with_reducible rfl
      rotate_left
      ·simp only [Act.put, List.setIfInBounds_toArray, List.set_cons_zero, List.set_cons_succ, i64_w, i32_w]
       rfl
      refine take_ (i := 4) (N := some 19) (v := ?_) (a' := ?_) #[true, true, true, true, true, false, false] rfl rfl (by kernel_rfl) (fun _ _ _ h => h) (Or.inl ⟨by rfl, ?_⟩) hHeld ?_ ?_
      rotate_left
      ·rintro w' ⟨s0, s1, s2, s3⟩
       go_simp
       with_reducible rfl
      rotate_left
      ·simp only [Act.put, List.setIfInBounds_toArray, List.set_cons_zero, List.set_cons_succ, i64_w, i32_w]
       rfl
      refine one_ (i := 5) (N := some 20) #[true, true, true, true, true, true, false] rfl rfl (by kernel_rfl) (by decide) (fun K hK => ?_)
      refine goes_ Try.func36 (by kernel_rfl) rfl #[.agg #[.int .i64 a0_0, .int .i64 a0_1, .slice A0_2 l0_2.length c0_2], .int .i64 (rd l1 x6_1)] (by rfl) rfl rfl (by ((simp only [List.map_toArray, List.map_cons, List.map_nil])); (rfl)) ?_
      with_reducible refine (codewrightref04_In.calls k1 a0_0 a0_1 _ _ l0_2 (rd l1 x6_1) t321 _ ?side1 ?side2 A6.out).mono ?_
      (case side1 => repeat ((exact (Kd.C_below HR0_2.out HB.out))))
      (case side2 => exact HC0_2.out)
      rintro e w9 ⟨rfl, hb⟩
      refine ⟨_, rfl, ?_⟩
      have n0_ := Aside0.mk (blk_below (g := gb319) (o := .cells #[.int .i64 a0_0, .int .i64 a0_1, .slice A0_2 l0_2.length c0_2] 24 (0, 0)) BK319.out hb)
      have n1_ := Aside0.mk (below_step HB.out hb)
      clear BK319 HB
      have BK319 := n0_
      have HB := n1_
      clear n0_ n1_
      ((clear hb))
      refine hK.out _ _ ⟨(blk_cell BK319.out 0).trans rfl, (blk_cell BK319.out 1).trans rfl, (blk_cell BK319.out 2).trans rfl, ((HB.out.cell (World.block_lt_of_cell? w _ hw320_0)).trans hw320_0)⟩ (fun hHeld => ?_)
      clear hK K
      refine norm_ (a' := ?_) ?_ ?_
      rotate_left
      ·show Act.put _ (some 20) _ = _
       simp only [Act.put, List.setIfInBounds_toArray, List.set_cons_zero, List.set_cons_succ, i64_w, i32_w]
       rfl
      refine pure_ (i := 6) (N := some 21) (v := ?_) (a' := ?_) #[true, true, true, true, true, true, true] rfl rfl (by kernel_rfl) (fun _ _ _ h => h) (Or.inl ⟨by rfl, ?_⟩) ?_ ?_
      rotate_left
      ·intro w'
       go_simp
       with_reducible rfl
      rotate_left
      ·simp only [Act.put, List.setIfInBounds_toArray, List.set_cons_zero, List.set_cons_succ, i64_w, i32_w]
       rfl
      refine done_ (by kernel_rfl) ?_
      (go_wp2)
      go_roundg k1
      case measure => have := HK1.out; omega
      case rel => exact ⟨(x5_1), (wrap64 (x6_1 + 1)), (by rfl), (by rfl), H', ⟨by have := HK1.out; omega⟩, ⟨BK319.out⟩, ⟨by exact HB.out⟩⟩
     ·rw [if_neg c7] at H
      have c7b0 : (t321 == 0) = false := beq_eq_false_iff_ne.mpr c7
      have c7b1 : (t321 != 0) = true := bne_iff_ne.mpr c7
      have H' := Aside0.mk H
      clear H
      (go_wp2)
      have n0_ := Aside0.mk (blk_drew BK319.out)
      have n1_ := Aside0.mk (below_drew1 HB.out)
      clear BK319 HB
      have BK319 := n0_
      have HB := n1_
      clear n0_ n1_
      have p320 : 0 ≤ (x6_1 : Int) := of_decide_eq_true (by (with_reducible assumption))
      have q320 : x6_1 < (l1.length : Int) := of_decide_eq_true (by (with_reducible assumption))
      obtain ⟨ad320, e320, hx320_0⟩ := Kd.at_int HR1.out x6_1 p320 q320
      have hw320_0 := hx320_0
      cases e320
      replace hx320_0 := (HB.out.cell (World.block_lt_of_cell? w _ hx320_0)).trans hx320_0
      replace p320 := eq_true p320
      replace q320 := eq_true q320
      refine start_ (n := 7) (S := fun w' => w'.cell? ⟨gb319, 0, none⟩ = some (.int .i64 a0_0) ∧ w'.cell? ⟨gb319, 1, none⟩ = some (.int .i64 a0_1) ∧ w'.cell? ⟨gb319, 2, none⟩ = some (.slice A0_2 l0_2.length c0_2) ∧ w'.cell? (ad320.add (x6_1).toNat) = some (.int .i64 (rd l1 x6_1))) (ds := []) #[false, false, false, false, false, false, false] (by kernel_rfl) rfl rfl ⟨(blk_cell BK319.out 0).trans rfl, (blk_cell BK319.out 1).trans rfl, (blk_cell BK319.out 2).trans rfl, ((HB.out.cell (World.block_lt_of_cell? w _ hw320_0)).trans hw320_0)⟩ (fun hHeld => ?_)
      generalize wr.drew = w10 at BK319 HB hx320_0 hHeld ⊢
      refine pure_ (i := 1) (N := some 16) (v := ?_) (a' := ?_) #[false, true, false, false, false, false, false] rfl rfl (by kernel_rfl) (fun _ _ _ h => h) (Or.inl ⟨by rfl, ?_⟩) ?_ ?_
      rotate_left
      ·intro w'
       go_simp
       with_reducible rfl
      rotate_left
      ·simp only [Act.put, List.setIfInBounds_toArray, List.set_cons_zero, List.set_cons_succ, i64_w, i32_w]
       rfl
      refine pure_ (i := 2) (N := some 17) (v := ?_) (a' := ?_) #[false, true, true, false, false, false, false] rfl rfl (by kernel_rfl) (fun _ _ _ h => h) (Or.inl ⟨by rfl, ?_⟩) ?_ ?_
      rotate_left
      ·intro w'
       go_simp
       with_reducible rfl
      rotate_left
      ·simp only [Act.put, List.setIfInBounds_toArray, List.set_cons_zero, List.set_cons_succ, i64_w, i32_w]
       rfl
      refine pure_ (i := 3) (N := some 18) (v := ?_) (a' := ?_) #[false, true, true, true, false, false, false] rfl rfl (by kernel_rfl) (fun _ _ _ h => h) (Or.inl ⟨by rfl, ?_⟩) ?_ ?_
      rotate_left
      ·intro w'
       go_simp
       with_reducible rfl
      rotate_left
      ·simp only [Act.put, List.setIfInBounds_toArray, List.set_cons_zero, List.set_cons_succ, i64_w, i32_w]
       rfl
      refine take_ (i := 0) (N := some 15) (v := ?_) (a' := ?_) #[true, true, true, true, false, false, false] rfl rfl (by kernel_rfl) (fun _ _ _ h => h) (Or.inl ⟨by rfl, ?_⟩) hHeld ?_ ?_
      rotate_left
      ·rintro w' ⟨s0, s1, s2, s3⟩
       go_simp
       with_reducible rfl
      rotate_left
      ·simp only [Act.put, List.setIfInBounds_toArray, List.set_cons_zero, List.set_cons_succ, i64_w, i32_w]
       rfl
      refine take_ (i := 4) (N := some 19) (v := ?_) (a' := ?_) #[true, true, true, true, true, false, false] rfl rfl (by kernel_rfl) (fun _ _ _ h => h) (Or.inl ⟨by rfl, ?_⟩) hHeld ?_ ?_
      rotate_left
      ·rintro w' ⟨s0, s1, s2, s3⟩
       go_simp
       with_reducible rfl
      rotate_left
      ·simp only [Act.put, List.setIfInBounds_toArray, List.set_cons_zero, List.set_cons_succ, i64_w, i32_w]
       rfl
      refine one_ (i := 5) (N := some 20) #[true, true, true, true, true, true, false] rfl rfl (by kernel_rfl) (by decide) (fun K hK => ?_)
      refine goes_ Try.func36 (by kernel_rfl) rfl #[.agg #[.int .i64 a0_0, .int .i64 a0_1, .slice A0_2 l0_2.length c0_2], .int .i64 (rd l1 x6_1)] (by rfl) rfl rfl (by ((simp only [List.map_toArray, List.map_cons, List.map_nil])); (rfl)) ?_
      with_reducible refine (codewrightref04_In.calls k1 a0_0 a0_1 _ _ l0_2 (rd l1 x6_1) t321 _ ?side1 ?side2 A6.out).mono ?_
      (case side1 => repeat ((exact (Kd.C_below HR0_2.out HB.out))))
      (case side2 => exact HC0_2.out)
      rintro e w11 ⟨rfl, hb⟩
      refine ⟨_, rfl, ?_⟩
      have n0_ := Aside0.mk (blk_below (g := gb319) (o := .cells #[.int .i64 a0_0, .int .i64 a0_1, .slice A0_2 l0_2.length c0_2] 24 (0, 0)) BK319.out hb)
      have n1_ := Aside0.mk (below_step HB.out hb)
      clear BK319 HB
      have BK319 := n0_
      have HB := n1_
      clear n0_ n1_
      ((clear hb))
      refine hK.out _ _ ⟨(blk_cell BK319.out 0).trans rfl, (blk_cell BK319.out 1).trans rfl, (blk_cell BK319.out 2).trans rfl, ((HB.out.cell (World.block_lt_of_cell? w _ hw320_0)).trans hw320_0)⟩ (fun hHeld => ?_)
      clear hK K
      refine norm_ (a' := ?_) ?_ ?_
      rotate_left
      ·show Act.put _ (some 20) _ = _
       simp only [Act.put, List.setIfInBounds_toArray, List.set_cons_zero, List.set_cons_succ, i64_w, i32_w]
       rfl
      refine pure_ (i := 6) (N := some 21) (v := ?_) (a' := ?_) #[true, true, true, true, true, true, true] rfl rfl (by kernel_rfl) (fun _ _ _ h => h) (Or.inl ⟨by rfl, ?_⟩) ?_ ?_
      rotate_left
      ·intro w'
       go_simp
       with_reducible rfl
      rotate_left
      ·simp only [Act.put, List.setIfInBounds_toArray, List.set_cons_zero, List.set_cons_succ, i64_w, i32_w]
       rfl
      refine done_ (by kernel_rfl) ?_
      (go_wp2)
      go_roundg k1
      case measure => have := HK1.out; omega
      case rel => exact ⟨(wrap64 (x6_1 + 1)), (wrap64 (x6_1 + 1)), (by rfl), (by rfl), H', ⟨by have := HK1.out; omega⟩, ⟨BK319.out⟩, ⟨by exact HB.out⟩⟩
    ·rw [if_neg c5] at H
     exact absurd H (by simp)
   ·rw [if_neg c4] at H
    have c4b0 : decide (x6_1 < (l1.length : Int)) = false := decide_eq_false c4
    clear c4
    by_cases c12 : 0 ≤ x5_1
    ·rw [if_pos c12] at H
     have c12b0 := eq_true c12
     have c12b1 : decide (0 ≤ x5_1) = true := decide_eq_true c12
     clear c12
     by_cases c13 : (x5_1 : Int).toNat ≤ 35184372088832
     ·rw [if_pos c13] at H
      have c13b0 := eq_true c13
      have c13b1 : decide ((x5_1 : Int).toNat ≤ 35184372088832) = true := decide_eq_true c13
      clear c13
      obtain ⟨y322, hy322⟩ : ∃ y_ : List Int, y_ = (List.replicate (x5_1 : Int).toNat 0) := ⟨_, rfl⟩
      replace H : (codewrightref05_Canon.l1 k1 l1 x5_1 y322 0 a0_0 a0_1 l0_2) = some r := by (rw [hy322]; with_reducible exact H)
      have Ny322 := Aside0.mk hy322
      clear hy322
      have H' := Aside0.mk H
      clear H
      go_wp2_with (((with_reducible refine gate_dst (N := 25) rfl ?_); refine Kd.R_make (Kd.int .i64) _ 3 rfl (N := 25) rfl 22 _ _ rfl x5_1 rfl rfl Try.underlying22 (.int .i64 0) 8 info3 rfl (by decide) (by omega) 0 (ok := fun _ => True) (okp := fun _ => True) rfl (fun _ hk => hk) trivial (of_decide_eq_true (by (with_reducible assumption))) (Nat.le_trans (Nat.mul_le_mul_right _ (of_decide_eq_true (by (with_reducible assumption)) : x5_1.toNat ≤ 35184372088832)) (by omega)) (Below.refl _ _) (Nat.le_refl _) ?_; intro v323 w14 ho15 hb hg_ hnew_; clear hg_ hnew_; ((rw [← Ny322.out] at ho15)); have n0_ := Aside0.mk (Kd.R_lower ho15 (below_size HB.out)); have n1_ := Aside0.mk (blk_below (g := gb319) (o := .cells #[.int .i64 a0_0, .int .i64 a0_1, .slice A0_2 l0_2.length c0_2] 24 (0, 0)) BK319.out hb); have n2_ := Aside0.mk (below_step HB.out hb); clear BK319; clear HB; have HO324 := n0_; have BK319 := n1_; have HB := n2_; clear n0_ n1_ n2_; clear hb ho15))
      go_loopg [8] k1 (fun kq v8 w' => ∃ (x7_2 : List Int) (x8_2 : Int), v8 = .int .i64 x8_2 ∧ Aside0 (codewrightref05_Canon.l1 kq l1 x5_1 x7_2 x8_2 a0_0 a0_1 l0_2 = some r) ∧ Aside0 (kq ≤ k1) ∧ Aside0 (Kd.R (Kd.int .i64) 3 w' w.heap.size (fun _ => True) v323 x7_2) ∧ Aside0 (w'.heap[gb319]? = some (.cells #[.int .i64 a0_0, .int .i64 a0_1, (.slice A0_2 l0_2.length c0_2)] 24 (0, 0))) ∧ Aside0 (Below w.heap.size w w'))
      case atStart => exact ⟨(y322), (0), (by rfl), H', ⟨Nat.le_refl _⟩, ⟨HO324.out⟩, ⟨BK319.out⟩, ⟨by exact HB.out⟩⟩
      case round =>
       clear H' c4b0 c12b0 c12b1 c13b0 c13b1
       obtain ⟨x7_2, x8_2, rfl, HA, HK2, HO_7, BK319, HB⟩ := hrel
       cases gk with
       | zero => exact absurd HA.out (by simp [codewrightref05_Canon.l1])
       | succ k2 =>
        have H := HA.out
        clear HA
        simp only [codewrightref05_Canon.l1] at H
        by_cases c16 : x8_2 < x5_1
        ·rw [if_pos c16] at H
         have c16b0 : decide (x8_2 < x5_1) = true := decide_eq_true c16
         clear c16
         by_cases c17 : 0 ≤ x8_2
         ·rw [if_pos c17] at H
          have c17b0 : decide (0 ≤ x8_2) = true := decide_eq_true c17
          clear c17
          by_cases c18 : x8_2 < (l1.length : Int)
          ·rw [if_pos c18] at H
           have c18b0 : decide (x8_2 < (l1.length : Int)) = true := decide_eq_true c18
           clear c18
           obtain ⟨t326, A190, H⟩ := Option.bind_eq_some_iff.mp H
           replace H : (if x8_2 < (x7_2.length : Int) then (codewrightref05_Canon.l1 k2 l1 x5_1 (x7_2.set (x8_2 : Int).toNat t326) (wrap64 (x8_2 + 1)) a0_0 a0_1 l0_2) else (none)) = some r := H
           have A19 := Aside0.mk A190
           clear A190
           by_cases c20 : x8_2 < (x7_2.length : Int)
           ·rw [if_pos c20] at H
            have c20b0 : decide (x8_2 < (x7_2.length : Int)) = true := decide_eq_true c20
            clear c20
            obtain ⟨y327, hy327⟩ : ∃ y_ : List Int, y_ = (x7_2.set (x8_2 : Int).toNat t326) := ⟨_, rfl⟩
            replace H : (codewrightref05_Canon.l1 k2 l1 x5_1 y327 (wrap64 (x8_2 + 1)) a0_0 a0_1 l0_2) = some r := by (rw [hy327]; with_reducible exact H)
            have Ny327 := Aside0.mk hy327
            clear hy327
            have H' := Aside0.mk H
            clear H
            (go_wp2)
            have n0_ := Aside0.mk (Kd.R_drew HO_7.out)
            have n1_ := Aside0.mk (blk_drew BK319.out)
            have n2_ := Aside0.mk (below_drew1 HB.out)
            clear HO_7 BK319 HB
            have HO_7 := n0_
            have BK319 := n1_
            have HB := n2_
            clear n0_ n1_ n2_
            have p325 : 0 ≤ (x8_2 : Int) := of_decide_eq_true (by (with_reducible assumption))
            have q325 : x8_2 < (l1.length : Int) := of_decide_eq_true (by (with_reducible assumption))
            obtain ⟨ad325, e325, hx325_0⟩ := Kd.at_int HR1.out x8_2 p325 q325
            have hw325_0 := hx325_0
            cases e325
            replace hx325_0 := (HB.out.cell (World.block_lt_of_cell? w _ hx325_0)).trans hx325_0
            replace p325 := eq_true p325
            replace q325 := eq_true q325
            refine start_ (n := 10) (S := fun w' => w'.cell? ⟨gb319, 0, none⟩ = some (.int .i64 a0_0) ∧ w'.cell? ⟨gb319, 1, none⟩ = some (.int .i64 a0_1) ∧ w'.cell? ⟨gb319, 2, none⟩ = some (.slice A0_2 l0_2.length c0_2) ∧ w'.cell? (ad325.add (x8_2).toNat) = some (.int .i64 (rd l1 x8_2))) (ds := [9]) #[false, false, false, false, false, false, false, false, false, false] (by kernel_rfl) rfl rfl ⟨(blk_cell BK319.out 0).trans rfl, (blk_cell BK319.out 1).trans rfl, (blk_cell BK319.out 2).trans rfl, ((HB.out.cell (World.block_lt_of_cell? w _ hw325_0)).trans hw325_0)⟩ (fun hHeld => ?_); refine with_tabW codewrightref05_Canon.tab11 codewrightref05_Canon.bits11 (fun HT_ HW_ => ?_)
            generalize wr.drew = w22 at HO_7 BK319 HB hx325_0 hHeld ⊢
            refine pure_ (i := 0) (N := some 31) (v := ?_) (a' := ?_) #[true, false, false, false, false, false, false, false, false, false] rfl rfl (any_of HT_.out (by kernel_rfl)) (fun _ _ _ h => h) (Or.inl ⟨by rfl, ?_⟩) ?_ ?_
            rotate_left
            ·intro w'
             go_simp
             with_reducible rfl
            rotate_left
            ·simp only [Act.put, List.setIfInBounds_toArray, List.set_cons_zero, List.set_cons_succ, i64_w, i32_w]
             rfl
            refine pure_ (i := 1) (N := some 32) (v := ?_) (a' := ?_) #[true, true, false, false, false, false, false, false, false, false] rfl rfl (any_of HT_.out (by kernel_rfl)) (fun _ _ _ h => h) (Or.inl ⟨by rfl, ?_⟩) ?_ ?_
            rotate_left
            ·intro w'
             go_simp
             with_reducible rfl
            rotate_left
            ·simp only [Act.put, List.setIfInBounds_toArray, List.set_cons_zero, List.set_cons_succ, i64_w, i32_w]
             rfl
            refine pure_ (i := 3) (N := some 34) (v := ?_) (a' := ?_) #[true, true, false, true, false, false, false, false, false, false] rfl rfl (any_of HT_.out (by kernel_rfl)) (fun _ _ _ h => h) (Or.inl ⟨by rfl, ?_⟩) ?_ ?_
            rotate_left
            ·intro w'
             go_simp
             with_reducible rfl
            rotate_left
            ·simp only [Act.put, List.setIfInBounds_toArray, List.set_cons_zero, List.set_cons_succ, i64_w, i32_w]
             rfl
            refine pure_ (i := 4) (N := some 35) (v := ?_) (a' := ?_) #[true, true, false, true, true, false, false, false, false, false] rfl rfl (any_of HT_.out (by kernel_rfl)) (fun _ _ _ h => h) (Or.inl ⟨by rfl, ?_⟩) ?_ ?_
            rotate_left
            ·intro w'
             go_simp
             with_reducible rfl
            rotate_left
            ·simp only [Act.put, List.setIfInBounds_toArray, List.set_cons_zero, List.set_cons_succ, i64_w, i32_w]
             rfl
            refine pure_ (i := 5) (N := some 36) (v := ?_) (a' := ?_) #[true, true, false, true, true, true, false, false, false, false] rfl rfl (any_of HT_.out (by kernel_rfl)) (fun _ _ _ h => h) (Or.inl ⟨by rfl, ?_⟩) ?_ ?_
            rotate_left
            ·intro w'
             go_simp
             with_reducible rfl
            rotate_left
            ·simp only [Act.put, List.setIfInBounds_toArray, List.set_cons_zero, List.set_cons_succ, i64_w, i32_w]
             rfl
            refine take_ (i := 2) (N := some 33) (v := ?_) (a' := ?_) #[true, true, true, true, true, true, false, false, false, false] rfl rfl (take_ofW HT_.out HW_.out (by kernel_rfl)) (fun _ _ _ h => h) (Or.inl ⟨by rfl, ?_⟩) hHeld ?_ ?_
            rotate_left
            ·rintro w' ⟨s0, s1, s2, s3⟩
             go_simp
             with_reducible rfl
            rotate_left
            ·simp only [Act.put, List.setIfInBounds_toArray, List.set_cons_zero, List.set_cons_succ, i64_w, i32_w]
             rfl
            refine take_ (i := 6) (N := some 37) (v := ?_) (a' := ?_) #[true, true, true, true, true, true, true, false, false, false] rfl rfl (take_ofW HT_.out HW_.out (by kernel_rfl)) (fun _ _ _ h => h) (Or.inl ⟨by rfl, ?_⟩) hHeld ?_ ?_
            rotate_left
            ·rintro w' ⟨s0, s1, s2, s3⟩
             go_simp
             with_reducible rfl
            rotate_left
            ·simp only [Act.put, List.setIfInBounds_toArray, List.set_cons_zero, List.set_cons_succ, i64_w, i32_w]
             rfl
            refine one_ (i := 7) (N := some 38) #[true, true, true, true, true, true, true, true, false, false] rfl rfl (one_of HT_.out (by kernel_rfl)) (by decide) (fun K hK => ?_)
            refine goes_ Try.func36 (by kernel_rfl) rfl #[.agg #[.int .i64 a0_0, .int .i64 a0_1, .slice A0_2 l0_2.length c0_2], .int .i64 (rd l1 x8_2)] (by rfl) rfl rfl (by ((simp only [List.map_toArray, List.map_cons, List.map_nil])); (rfl)) ?_
            with_reducible refine (codewrightref04_In.calls k2 a0_0 a0_1 _ _ l0_2 (rd l1 x8_2) t326 _ ?side1 ?side2 A19.out).mono ?_
            (case side1 => repeat ((exact (Kd.C_below HR0_2.out HB.out))))
            (case side2 => exact HC0_2.out)
            rintro e w23 ⟨rfl, hb⟩
            refine ⟨_, rfl, ?_⟩
            have n0_ := Aside0.mk (Kd.R_below HO_7.out hb)
            have n1_ := Aside0.mk (blk_below (g := gb319) (o := .cells #[.int .i64 a0_0, .int .i64 a0_1, .slice A0_2 l0_2.length c0_2] 24 (0, 0)) BK319.out hb)
            have n2_ := Aside0.mk (below_step HB.out hb)
            clear HO_7 BK319 HB
            have HO_7 := n0_
            have BK319 := n1_
            have HB := n2_
            clear n0_ n1_ n2_
            ((clear hb))
            have p21 : 0 ≤ (x8_2 : Int) := of_decide_eq_true (by (with_reducible assumption))
            have q21 : (x8_2 : Int) < ((x7_2.length : Int) : Int) := of_decide_eq_true (by (with_reducible assumption))
            obtain ⟨go21, co21, eo21, gb21, gl21, cl21, HG21⟩ := Kd.R_form HO_7.out (by omega)
            ((cases eo21))
            have GB21 := Aside0.mk gb21
            have GG21 := Aside0.mk HG21
            clear gb21 gl21 HG21
            obtain ⟨hx21_0, hf21_0⟩ := Kd.R_celln 0 HO_7.out (x8_2 : Int) p21 q21
            replace p21 := eq_true p21
            replace q21 := eq_true q21
            have HP24 := Kd.R_putn HO_7.out (x8_2 : Int) t326
            rw [← Ny327.out] at HP24
            have HQ24 := Aside0.mk HP24
            clear HP24
            refine hK.out _ _ ⟨(blk_cell BK319.out 0).trans rfl, (blk_cell BK319.out 1).trans rfl, (blk_cell BK319.out 2).trans rfl, ((HB.out.cell (World.block_lt_of_cell? w _ hw325_0)).trans hw325_0)⟩ (fun hHeld => ?_)
            clear hK K
            refine norm_ (a' := ?_) ?_ ?_
            rotate_left
            ·show Act.put _ (some 38) _ = _
             simp only [Act.put, List.setIfInBounds_toArray, List.set_cons_zero, List.set_cons_succ, i64_w, i32_w]
             rfl
            refine pure_ (i := 8) (N := some 39) (v := ?_) (a' := ?_) #[true, true, true, true, true, true, true, true, true, false] rfl rfl (any_of HT_.out (by kernel_rfl)) (fun _ _ _ h => h) (Or.inl ⟨by rfl, ?_⟩) ?_ ?_
            rotate_left
            ·intro w'
             go_simp
             with_reducible rfl
            rotate_left
            ·simp only [Act.put, List.setIfInBounds_toArray, List.set_cons_zero, List.set_cons_succ, i64_w, i32_w]
             rfl
            refine last_ (i := 9) (N := none) #[true, true, true, true, true, true, true, true, true, true] rfl rfl (one_of HT_.out (by kernel_rfl)) (by decide) (fun K hK => ?_)
            refine skip_ (w1 := ?_) (by rfl) rfl ?_ ?_
            rotate_left
            ·go_simp
             rfl
            refine hK.out _ _ ?_
            clear hK K
            refine done_ (done_of HT_.out (by kernel_rfl)) ?_
            (go_wp2)
            go_roundg k2
            case measure => have := HK1.out; have := HK2.out; omega
            case rel => exact ⟨(y327), (wrap64 (x8_2 + 1)), (by rfl), H', ⟨by have := HK1.out; have := HK2.out; omega⟩, ⟨HQ24.out⟩, ⟨by (with_reducible repeat (fail)); refine blk_far ?_ (by have h_ := Kd.R_ne HO_7.out BK319.out (by decide); intro e_; exact h_ (by rw [e_]; rfl)) _; (with_reducible repeat (fail)); exact BK319.out⟩, ⟨by repeat ((with_reducible first | (exact HB.out) | (refine below_set ?_ GB21.out)))⟩⟩
           ·rw [if_neg c20] at H
            exact absurd H (by simp)
          ·rw [if_neg c18] at H
           exact absurd H (by simp)
         ·rw [if_neg c17] at H
          exact absurd H (by simp)
        ·rw [if_neg c16] at H
         have c16b0 : decide (x8_2 < x5_1) = false := decide_eq_false c16
         clear c16
         obtain rfl := Option.some.inj H
         go_wp2
         go_ret
         exact ⟨_, by rfl, by exact HO_7.out, by exact HB.out⟩
     ·rw [if_neg c13] at H
      exact absurd H (by simp)
    ·rw [if_neg c12] at H
     exact absurd H (by simp)
end Go.Proofs.Ytccmpmkmgehkiaa.PA
end
section
namespace Go.Proofs.Ytccmpmkmgehkiaa.PA
open Go.RowKit Go.Proofs.YtccmpmkmgehkiaaW.PrintWords Go.Proofs.YtccmpmkmgehkiaaW.PrintLast Go.Proofs.YtccmpmkmgehkiaaW.PrintMore
attribute [local go_sem] max2_int min2_int max_two min_two max_three min_three max_four min_four
set_option linter.unusedVariables false
set_option linter.unusedSimpArgs false
def codewrightref04_Digits.f (k : Nat) (a0_0 : Int) (a0_1 : Int) (l0_2 : List Int) (a1 : Int) : Option (List Int) := (codewrightref04_In.f k a0_0 a0_1 l0_2 a1).bind fun t336 => ((codewrightref04_digits.f k t336 a0_0 a0_1).bind fun t337 => (some t337))
def codewrightref04_Value.l0 : Nat → List Int → Int → Int → Int → Int → List Int → Option (Int)
 | 0, _, _, _, _, _, _ => none
 | k + 1, x1, x5, x6, x341000, x341001, x341002 => if x6 ≥ 0 then (if 0 ≤ x6 then (if x6 < (x1.length : Int) then (codewrightref04_Value.l0 k x1 (wrap64 ((wrap64 (x5 * x341000)) + (rd x1 x6))) (wrap64 (x6 - 1)) x341000 x341001 x341002) else (none)) else (none)) else (some x5)
def codewrightref04_Value.f (k : Nat) (a0_0 : Int) (a0_1 : Int) (l0_2 : List Int) (l1 : List Int) : Option (Int) := codewrightref04_Value.l0 k l1 0 (wrap64 ((l1.length : Int) - 1)) a0_0 a0_1 l0_2
def codewrightref04_Add.l0 : Nat → List Int → List Int → Int → Int → Int → List Int → Option (Int)
 | 0, _, _, _, _, _, _ => none
 | k + 1, x7, x8, x9, x343000, x343001, x343002 => if x9 < (x7.length : Int) then (if 0 ≤ x9 then (if x9 < (x8.length : Int) then (if x343000 = 0 then (none) else (codewrightref04_Add.l0 k (x7.set (x9 : Int).toNat (Int.tmod (wrap64 ((rd x7 x9) + (rd x8 x9))) x343000)) x8 (wrap64 (x9 + 1)) x343000 x343001 x343002)) else (none)) else (none)) else ((codewrightref04_Value.f k x343000 x343001 x343002 x7).bind fun t352 => (some t352))
def codewrightref04_Add.f (k : Nat) (a0_0 : Int) (a0_1 : Int) (l0_2 : List Int) (a1 : Int) (a2 : Int) : Option (Int) := (codewrightref04_Digits.f k a0_0 a0_1 l0_2 a1).bind fun t343 => ((codewrightref04_Digits.f k a0_0 a0_1 l0_2 a2).bind fun t346 => (codewrightref04_Add.l0 k t343 t346 0 a0_0 a0_1 l0_2))
end Go.Proofs.Ytccmpmkmgehkiaa.PA
end
section
namespace Go.Proofs.Ytccmpmkmgehkiaa.PA
open Go.RowKit Go.Proofs.YtccmpmkmgehkiaaW.PrintWords Go.Proofs.YtccmpmkmgehkiaaW.PrintLast Go.Proofs.YtccmpmkmgehkiaaW.PrintMore
attribute [local go_sem] max2_int min2_int max_two min_two max_three min_three max_four min_four
set_option linter.unusedVariables false
set_option linter.unusedSimpArgs false
end Go.Proofs.Ytccmpmkmgehkiaa.PA
end
section
namespace Go.Proofs.Ytccmpmkmgehkiaa.PA
open Go.RowKit Go.Proofs.YtccmpmkmgehkiaaW.PrintWords Go.Proofs.YtccmpmkmgehkiaaW.PrintLast Go.Proofs.YtccmpmkmgehkiaaW.PrintMore
attribute [local go_sem] max2_int min2_int max_two min_two max_three min_three max_four min_four
set_option linter.unusedVariables false
set_option linter.unusedSimpArgs false
mutual
def codewrightref04_Mul.l0 : Nat → List Int → List Int → List Int → Int → Int → Int → List Int → Option (Int)
 | 0, _, _, _, _, _, _, _ => none
 | k + 1, x7, x8, x9, x10, x365000, x365001, x365002 => if x10 < x365001 then (codewrightref04_Mul.l1 k x7 x8 x9 x10 0 x365000 x365001 x365002) else (codewrightref04_Mul.l2 k x9 (wrap64 ((wrap64 (2 * x365001)) - 2)) x365000 x365001 x365002)
def codewrightref04_Mul.l1 : Nat → List Int → List Int → List Int → Int → Int → Int → Int → List Int → Option (Int)
 | 0, _, _, _, _, _, _, _, _ => none
 | k + 1, x7, x8, x9, x10, x11, x365000, x365001, x365002 => if x11 < x365001 then (if 0 ≤ (wrap64 (x10 + x11)) then (if (wrap64 (x10 + x11)) < (x9.length : Int) then (if 0 ≤ x10 then (if x10 < (x7.length : Int) then (if 0 ≤ x11 then (if x11 < (x8.length : Int) then (if x365000 = 0 then (none) else (codewrightref04_Mul.l1 k x7 x8 (x9.set ((wrap64 (x10 + x11)) : Int).toNat (Int.tmod (wrap64 ((rd x9 (wrap64 (x10 + x11))) + (wrap64 ((rd x7 x10) * (rd x8 x11))))) x365000)) x10 (wrap64 (x11 + 1)) x365000 x365001 x365002)) else (none)) else (none)) else (none)) else (none)) else (none)) else (none)) else (codewrightref04_Mul.l0 k x7 x8 x9 (wrap64 (x10 + 1)) x365000 x365001 x365002)
def codewrightref04_Mul.l2 : Nat → List Int → Int → Int → Int → List Int → Option (Int)
 | 0, _, _, _, _, _ => none
 | k + 1, x9, x12, x365000, x365001, x365002 => if x12 ≥ x365001 then (codewrightref04_Mul.l3 k x9 x12 0 x365000 x365001 x365002) else (if 0 ≤ x365001 then (if x365001 ≤ (x9.length : Int) then ((codewrightref04_Value.f k x365000 x365001 x365002 (x9.take (x365001 : Int).toNat)).bind fun t382 => (some t382)) else (none)) else (none))
def codewrightref04_Mul.l3 : Nat → List Int → Int → Int → Int → Int → List Int → Option (Int)
 | 0, _, _, _, _, _, _ => none
 | k + 1, x9, x12, x13, x365000, x365001, x365002 => if x13 < x365001 then (if 0 ≤ (wrap64 ((wrap64 (x12 - x365001)) + x13)) then (if (wrap64 ((wrap64 (x12 - x365001)) + x13)) < (x9.length : Int) then (if 0 ≤ x12 then (if x12 < (x9.length : Int) then (if 0 ≤ x13 then (if x13 < (x365002.length : Int) then (if x365000 = 0 then (none) else (codewrightref04_Mul.l3 k (x9.set ((wrap64 ((wrap64 (x12 - x365001)) + x13)) : Int).toNat (Int.tmod (wrap64 ((rd x9 (wrap64 ((wrap64 (x12 - x365001)) + x13))) + (wrap64 ((wrap64 (x365000 - (rd x9 x12))) * (rd x365002 x13))))) x365000)) x12 (wrap64 (x13 + 1)) x365000 x365001 x365002)) else (none)) else (none)) else (none)) else (none)) else (none)) else (none)) else (codewrightref04_Mul.l2 k x9 (wrap64 (x12 - 1)) x365000 x365001 x365002)
end
def codewrightref04_Mul.f (k : Nat) (a0_0 : Int) (a0_1 : Int) (l0_2 : List Int) (a1 : Int) (a2 : Int) : Option (Int) := (codewrightref04_Digits.f k a0_0 a0_1 l0_2 a1).bind fun t365 => ((codewrightref04_Digits.f k a0_0 a0_1 l0_2 a2).bind fun t368 => (if 0 ≤ (wrap64 ((wrap64 (2 * a0_1)) - 1)) then (if (wrap64 ((wrap64 (2 * a0_1)) - 1) : Int).toNat ≤ 35184372088832 then (codewrightref04_Mul.l0 k t365 t368 (List.replicate (wrap64 ((wrap64 (2 * a0_1)) - 1) : Int).toNat 0) 0 a0_0 a0_1 l0_2) else (none)) else (none)))
end Go.Proofs.Ytccmpmkmgehkiaa.PA
end
section
namespace Go.Proofs.Ytccmpmkmgehkiaa.PA
open Go.RowKit Go.Proofs.YtccmpmkmgehkiaaW.PrintWords Go.Proofs.YtccmpmkmgehkiaaW.PrintLast Go.Proofs.YtccmpmkmgehkiaaW.PrintMore
attribute [local go_sem] max2_int min2_int max_two min_two max_three min_three max_four min_four
set_option linter.unusedVariables false
set_option linter.unusedSimpArgs false
end Go.Proofs.Ytccmpmkmgehkiaa.PA
end
section
namespace Go.Proofs.Ytccmpmkmgehkiaa.PA
open Go.RowKit Go.Proofs.YtccmpmkmgehkiaaW.PrintWords Go.Proofs.YtccmpmkmgehkiaaW.PrintLast Go.Proofs.YtccmpmkmgehkiaaW.PrintMore
attribute [local go_sem] max2_int min2_int max_two min_two max_three min_three max_four min_four
set_option linter.unusedVariables false
set_option linter.unusedSimpArgs false
def poly_Shift.j0 : Nat → List Int → Int → Bool → Int → Int → List Int → Int → List Int → List Int → Option (List Int × Int × Int × Int × Int)
 | 0, _, _, _, _, _, _, _, _, _ => none
 | k + 1, x1, x2, x14, x1000, x1001, x1002, x1003, x1004, x1005 => if x14 = true then (some (([] : List Int), 6, x1000, x1001, x1003)) else ((poly_Canon.f k x1000 x1001 x1002 x1003 x1004 x1005 x1).bind fun bt443 => (if (bt443.1.length : Int) = 0 then (some (([] : List Int), 0, bt443.2.1, bt443.2.2.1, bt443.2.2.2)) else (if 0 ≤ x2 then (if (x2 : Int).toNat ≤ 35184372088832 then ((some (List.replicate (x2 : Int).toNat 0 : List Int)).bind fun y449 => (if y449.length + bt443.1.length < 17592186044416 then (some ((y449 ++ bt443.1), 0, bt443.2.1, bt443.2.2.1, bt443.2.2.2)) else (none))) else (none)) else (none))))
def poly_Shift.f (k : Nat) (s0_0 : Int) (s0_1 : Int) (s0_2 : List Int) (s0_3 : Int) (s0_4 : List Int) (s0_5 : List Int) (l1 : List Int) (a2 : Int) : Option (List Int × Int × Int × Int × Int) := if a2 < 0 then (poly_Shift.j0 k l1 a2 true s0_0 s0_1 s0_2 s0_3 s0_4 s0_5) else (poly_Shift.j0 k l1 a2 (decide (a2 > 4096)) s0_0 s0_1 s0_2 s0_3 s0_4 s0_5)
set_option maxHeartbeats 8000000 in
set_option maxRecDepth 100000 in
theorem poly_Shift.calls (k : Nat) (g : Nat) (s0_0 : Int) (s0_1 : Int) (s0_2 : List Int) (s0_3 : Int) (s0_4 : List Int) (s0_5 : List Int) (A1 : Option Addr) (c1 : Nat) (l1 : List Int) (a2 : Int) (r1 : List Int) (r2 : Int) (r3 : Int) (r4 : Int) (r5 : Int) (w0 w : World) (hI : IsS74 w0 w g s0_0 s0_1 s0_2 s0_3 s0_4 s0_5) (hB : Below w0.heap.size w0 w) (hr1 : Kd.C (Kd.int .i64) w A1 l1.length l1) (hc1 : l1.length ≤ c1) (hf1 : ∀ ad, A1 = some ad → 0 < l1.length → ad.block ≠ g) (h : poly_Shift.f k s0_0 s0_1 s0_2 s0_3 s0_4 s0_5 l1 a2 = some (r1, r2, r3, r4, r5)) :
  Calls Try.prog 27 #[.pointer (some ⟨g, 0, none⟩), .slice A1 l1.length c1, .int .i64 a2] w fun e w' => ∃ v0_ : Value, e = .returned (.tuple #[v0_, .int .i64 r2]) ∧ Kd.R (Kd.int .i64) 3 w' w.heap.size (fun _ => True) v0_ r1 ∧ IsS74 w0 w' g r3 r4 s0_2 r5 s0_4 s0_5 ∧ Below w0.heap.size w0 w' ∧ KeepBut w w' g none := by
 have HR1 := Aside0.mk hr1
 have HC1 := Aside0.mk hc1
 clear hr1 hc1
 have HI0 := Aside0.mk hI
 have HK := Aside0.mk (KeepBut.refl w g none)
 have HL := Aside0.mk hB.size
 clear hI
 have HW0 := Aside0.mk hB.size
 have HB := Aside0.mk hB
 clear hB
 have H : (if a2 < 0 then (poly_Shift.j0 k l1 a2 true s0_0 s0_1 s0_2 s0_3 s0_4 s0_5) else (poly_Shift.j0 k l1 a2 (decide (a2 > 4096)) s0_0 s0_1 s0_2 s0_3 s0_4 s0_5)) = some (r1, r2, r3, r4, r5) := h
 clear h
 have HC4 := Aside0.mk H
 clear H
 go_enter Try.func27, Try.ntmps27
 go_upto_region 1 with (fail)
 go_cut [14] (fun v14 wc => ∃ (kq : Nat) (x14_3 : Bool), v14 = .bool x14_3 ∧ Aside0 (poly_Shift.j0 kq l1 a2 x14_3 s0_0 s0_1 s0_2 s0_3 s0_4 s0_5 = some (r1, r2, r3, r4, r5)) ∧ Aside0 (kq ≤ k) ∧ Aside0 (IsS74 w0 wc g s0_0 s0_1 s0_2 s0_3 s0_4 s0_5) ∧ Aside0 (KeepBut w wc g none) ∧ Aside0 (Below w0.heap.size w0 wc))
 case first =>
  have H := HC4.out
  clear HC4
  by_cases c5 : a2 < 0
  ·rw [if_pos c5] at H
   have c5b0 : decide (a2 < 0) = true := decide_eq_true c5
   clear c5
   ((skip))
   have H' := Aside0.mk H
   clear H
   go_wp2
   go_meet
   case rel => exact ⟨_, (true), (by rfl), H', ⟨by (omega)⟩, ⟨by exact HI0.out⟩, ⟨by exact HK.out⟩, ⟨by exact HB.out⟩⟩
  ·rw [if_neg c5] at H
   have c5b0 : decide (a2 < 0) = false := decide_eq_false c5
   clear c5
   ((skip))
   have H' := Aside0.mk H
   clear H
   go_wp2
   go_meet
   case rel => exact ⟨_, (decide (a2 > 4096)), (by rfl), H', ⟨by (omega)⟩, ⟨by exact HI0.out⟩, ⟨by exact HK.out⟩, ⟨by exact HB.out⟩⟩
 case rest =>
  clear HC4
  obtain ⟨kq, x14_3, rfl, HA, HJ3, HI0, HK, HB⟩ := hcut
  cases kq with
  | zero => exact absurd HA.out (by simp [poly_Shift.j0])
  | succ kj3 =>
   have H := HA.out
   clear HA
   simp only [poly_Shift.j0] at H
   by_cases c6 : x14_3 = true
   ·subst c6
    have H1 : (some (([] : List Int), 6, s0_0, s0_1, s0_3)) = some (r1, r2, r3, r4, r5) := by rw [if_pos rfl] at H; exact H
    clear H
    have H := H1
    clear H1
    simp only [Option.some.injEq, Prod.mk.injEq] at H
    obtain ⟨rfl, rfl, rfl, rfl, rfl⟩ := H
    go_wp2
    go_ret2
    exact ⟨_, by rfl, by (exact Kd.R_nil _ _ _ _ _), by exact HI0.out, by exact HB.out, by exact HK.out⟩
   ·replace c6 := Bool.eq_false_iff.mpr c6
    subst c6
    have H1 : ((poly_Canon.f kj3 s0_0 s0_1 s0_2 s0_3 s0_4 s0_5 l1).bind fun bt443 => (if (bt443.1.length : Int) = 0 then (some (([] : List Int), 0, bt443.2.1, bt443.2.2.1, bt443.2.2.2)) else (if 0 ≤ a2 then (if (a2 : Int).toNat ≤ 35184372088832 then ((some (List.replicate (a2 : Int).toNat 0 : List Int)).bind fun y449 => (if y449.length + bt443.1.length < 17592186044416 then (some ((y449 ++ bt443.1), 0, bt443.2.1, bt443.2.2.1, bt443.2.2.2)) else (none))) else (none)) else (none)))) = some (r1, r2, r3, r4, r5) := by rw [if_neg (show ¬ (false = true) by decide)] at H; exact H
    clear H
    have H := H1
    clear H1
    replace H := Option.bind_eq_some_iff.mp H
    obtain ⟨⟨t443, t446, t447, t448⟩, A70, H⟩ := H
    replace H : (if (t443.length : Int) = 0 then (some (([] : List Int), 0, t446, t447, t448)) else (if 0 ≤ a2 then (if (a2 : Int).toNat ≤ 35184372088832 then ((some (List.replicate (a2 : Int).toNat 0 : List Int)).bind fun y449 => (if y449.length + t443.length < 17592186044416 then (some ((y449 ++ t443), 0, t446, t447, t448)) else (none))) else (none)) else (none))) = some (r1, r2, r3, r4, r5) := H
    have A7 := Aside0.mk A70
    clear A70
    by_cases c8 : (t443.length : Int) = 0
    ·rw [if_pos c8] at H
     have c8b0 : ((t443.length : Int) == 0) = true := beq_iff_eq.mpr c8
     have c8b1 : ((t443.length : Int) != 0) = false := bne_eq_false_iff_eq.mpr c8
     clear c8
     simp only [Option.some.injEq, Prod.mk.injEq] at H
     obtain ⟨rfl, rfl, rfl, rfl, rfl⟩ := H
     go_wp2_with (((with_reducible refine gate_callee (f := 22) rfl ?_); refine goesL_ (some 17) rfl rfl Try.func22 (by kernel_rfl) rfl #[.pointer (some ⟨g, 0, none⟩), .slice A1 l1.length c1] rfl (by ((simp only [List.map_toArray, List.map_cons, List.map_nil])); (rfl)) ?_; (with_reducible refine (poly_Canon.calls kj3 g s0_0 s0_1 s0_2 s0_3 s0_4 s0_5 _ _ l1 t443 t446 t447 t448 w0 _ ?side1 ?side2 ?side3 ?side4 ?side5 A7.out).mono ?_); (case side1 => repeat ((with_reducible (exact HI0.out)))); (case side2 => repeat ((with_reducible (exact HB.out)))); (case side3 => exact Kd.C_keep 0 HR1.out HK.out hf1); (case side4 => exact HC1.out); (case side5 => exact hf1); rintro e w9 ⟨v444, rfl, ho0, hi, hb, hk⟩; refine ⟨_, rfl, ?_⟩; have n0_ := Aside0.mk (Kd.R_lower ho0 (keep_size (w := w) (g := g) (row := none) HK.out)); have n1_ := Aside0.mk (KeepBut.trans HK.out hk (.inl rfl)); have n2_ := Aside0.mk (hb); have n3_ := Aside0.mk (hi); clear HK; clear HB; clear HI0; have HO445 := n0_; have HK := n1_; have HB := n2_; have HI0 := n3_; clear n0_ n1_ n2_ n3_; ((clear hb)); (skip); ((clear hk)); ((clear hi)); ((clear ho0)); obtain ⟨Ao10, co10, eo10⟩ := Kd.R_slice HO445.out; subst eo10))
     go_ret2
     exact ⟨_, by rfl, by (exact Kd.R_nil _ _ _ _ _), by exact HI0.out, by exact HB.out, by exact HK.out⟩
    ·rw [if_neg c8] at H
     have c8b0 : ((t443.length : Int) == 0) = false := beq_eq_false_iff_ne.mpr c8
     have c8b1 : ((t443.length : Int) != 0) = true := bne_iff_ne.mpr c8
     have c8b2 : ¬ (t443 = []) := fun h_ => c8 (by rw [h_]; rfl)
     by_cases c11 : 0 ≤ a2
     ·rw [if_pos c11] at H
      have c11b0 := eq_true c11
      have c11b1 : decide (0 ≤ a2) = true := decide_eq_true c11
      clear c11
      by_cases c12 : (a2 : Int).toNat ≤ 35184372088832
      ·rw [if_pos c12] at H
       have c12b0 := eq_true c12
       have c12b1 : decide ((a2 : Int).toNat ≤ 35184372088832) = true := decide_eq_true c12
       clear c12
       obtain ⟨y449, hy449⟩ : ∃ y_ : List Int, y_ = (List.replicate (a2 : Int).toNat 0) := ⟨_, rfl⟩
       replace H : (if y449.length + t443.length < 17592186044416 then (some ((y449 ++ t443), 0, t446, t447, t448)) else (none)) = some (r1, r2, r3, r4, r5) := by (have H2_ := (Option.bind_some _ _).symm.trans H; rw [hy449]; with_reducible exact H2_)
       have Ny449 := Aside0.mk hy449
       clear hy449
       by_cases c13 : y449.length + t443.length < 17592186044416
       ·rw [if_pos c13] at H
        have LMc13 := Aside0.mk c13
        clear c13
        obtain ⟨y452, hy452⟩ : ∃ y_ : List Int, y_ = (y449 ++ t443) := ⟨_, rfl⟩
        replace H : (some (y452, 0, t446, t447, t448)) = some (r1, r2, r3, r4, r5) := by (rw [hy452]; with_reducible exact H)
        have Ny452 := Aside0.mk hy452
        clear hy452
        simp only [Option.some.injEq, Prod.mk.injEq] at H
        obtain ⟨rfl, rfl, rfl, rfl, rfl⟩ := H
        go_wp2_with (first | ((with_reducible refine gate_callee (f := 22) rfl ?_); refine goesL_ (some 17) rfl rfl Try.func22 (by kernel_rfl) rfl #[.pointer (some ⟨g, 0, none⟩), .slice A1 l1.length c1] rfl (by ((simp only [List.map_toArray, List.map_cons, List.map_nil])); (rfl)) ?_; (with_reducible refine (poly_Canon.calls kj3 g s0_0 s0_1 s0_2 s0_3 s0_4 s0_5 _ _ l1 t443 t446 t447 t448 w0 _ ?side1 ?side2 ?side3 ?side4 ?side5 A7.out).mono ?_); (case side1 => repeat ((with_reducible (exact HI0.out)))); (case side2 => repeat ((with_reducible (exact HB.out)))); (case side3 => exact Kd.C_keep 0 HR1.out HK.out hf1); (case side4 => exact HC1.out); (case side5 => exact hf1); rintro e w14 ⟨v444, rfl, ho0, hi, hb, hk⟩; refine ⟨_, rfl, ?_⟩; have n0_ := Aside0.mk (Kd.R_lower ho0 (keep_size (w := w) (g := g) (row := none) HK.out)); have n1_ := Aside0.mk (KeepBut.trans HK.out hk (.inl rfl)); have n2_ := Aside0.mk (hb); have n3_ := Aside0.mk (hi); clear HK; clear HB; clear HI0; have HO445 := n0_; have HK := n1_; have HB := n2_; have HI0 := n3_; clear n0_ n1_ n2_ n3_; ((clear hb)); (skip); ((clear hk)); ((clear hi)); ((clear ho0)); obtain ⟨Ao15, co15, eo15⟩ := Kd.R_slice HO445.out; subst eo15) | ((with_reducible refine gate_dst (N := 22) rfl ?_); refine Kd.R_make (Kd.int .i64) _ 3 rfl (N := 22) rfl 22 _ _ rfl a2 rfl rfl Try.underlying22 (.int .i64 0) 8 info3 rfl (by decide) (by omega) 0 (ok := fun _ => True) (okp := fun _ => True) rfl (fun _ hk => hk) trivial (of_decide_eq_true (by (with_reducible assumption))) (Nat.le_trans (Nat.mul_le_mul_right _ (of_decide_eq_true (by (with_reducible assumption)) : a2.toNat ≤ 35184372088832)) (by omega)) (Below.refl _ _) (Nat.le_refl _) ?_; intro v450 w16 ho17 hb hg_ hnew_; clear hg_ hnew_; ((rw [← Ny449.out] at ho17)); have n0_ := Aside0.mk (Kd.R_elder' HO445.out (Kd.R_base ho17) hb); have n1_ := Aside0.mk (Kd.R_lower (Kd.R_new' ho17 (Kd.R_lt HO445.out)) (keep_size (w := w) (g := g) (row := none) HK.out)); have n2_ := Aside0.mk (IsS74.below HI0.out hb); have n3_ := Aside0.mk (KeepBut.trans HK.out (KeepBut.of_below hb g none) (.inl rfl)); have n4_ := Aside0.mk (below_step HB.out hb); clear HO445; clear HI0; clear HK; clear HB; have HO445 := n0_; have HO451 := n1_; have HI0 := n2_; have HK := n3_; have HB := n4_; clear n0_ n1_ n2_ n3_ n4_; clear hb ho17) | ((with_reducible refine gate_builtin (b := .append) (xs := #[.tmp 22, .tmp 23]) rfl ?_); at_builtin; refine Kd.R_append_rows (Kd.int .i64) w.heap.size rfl (.tmp 22) (.tmp 23) 22 3 (.int .i64 0) 8 rfl Try.underlying22 info3 rfl (by decide) (by omega) v450 y449 t443 _ _ _ (fun k_ => some k_ ≠ (.slice Ao15 t443.length co15 : Value).ownBlock) (fun _ => False) rfl rfl ?aO ?aR (fun _ _ h => h) (fun _ h => h.elim) ?aF (Below.refl _ _) ?aS ?aL ?_; (case aR => repeat ((exact (Kd.R_reads' HO445.out).2.2))); (case aF => exact (fun k_ hk => Kd.fresh' (Kd.R_lt HO445.out) k_ hk)); (case aO => exact (by exact Kd.R_mono HO451.out (fun _ hk => hk.2))); (case aS => exact (keep_size (w := w) (g := g) (row := none) HK.out)); (case aL => have := LMc13.out; omega); intro v453 w18 ho hb hg hat; rw [← Ny452.out] at ho; have n0_ := Aside0.mk (IsS74.grown HI0.out hg (IsS74.own_ne HI0.out HO451.out (by decide))); have n1_ := Aside0.mk (Kd.R_after (ok := (fun _ => True)) HO445.out hg hat); have n2_ := Aside0.mk (below_weaken HB.out HL.out hb); have n3_ := Aside0.mk (KeepBut.trans HK.out (KeepBut.of_grown hg g) (Kd.R_base2 HO451.out)); have n4_ := Aside0.mk (ho); clear HI0; clear HO445; clear HB; clear HK; clear HO451; have HI0 := n0_; have HO445 := n1_; have HB := n2_; have HK := n3_; have HO454 := n4_; clear n0_ n1_ n2_ n3_ n4_; clear ho hb hg hat))
        go_ret2
        exact ⟨_, by rfl, by exact Kd.R_mono HO454.out (fun _ hk => trivial), by exact HI0.out, by exact HB.out, by exact HK.out⟩
       ·rw [if_neg c13] at H
        exact absurd H (by simp)
      ·rw [if_neg c12] at H
       exact absurd H (by simp)
     ·rw [if_neg c11] at H
      exact absurd H (by simp)
end Go.Proofs.Ytccmpmkmgehkiaa.PA
end
section
namespace Go.Proofs.Ytccmpmkmgehkiaa.PA
open Go.RowKit Go.Proofs.YtccmpmkmgehkiaaW.PrintWords Go.Proofs.YtccmpmkmgehkiaaW.PrintLast Go.Proofs.YtccmpmkmgehkiaaW.PrintMore
attribute [local go_sem] max2_int min2_int max_two min_two max_three min_three max_four min_four
set_option linter.unusedVariables false
set_option linter.unusedSimpArgs false
def codewrightref04_Neg.l0 : Nat → List Int → Int → Int → Int → List Int → Option (Int)
 | 0, _, _, _, _, _ => none
 | k + 1, x5, x6, x511000, x511001, x511002 => if x6 < (x5.length : Int) then (if 0 ≤ x6 then (if x511000 = 0 then (none) else (codewrightref04_Neg.l0 k (x5.set (x6 : Int).toNat (Int.tmod (wrap64 (x511000 - (rd x5 x6))) x511000)) (wrap64 (x6 + 1)) x511000 x511001 x511002)) else (none)) else ((codewrightref04_Value.f k x511000 x511001 x511002 x5).bind fun t516 => (some t516))
def codewrightref04_Neg.f (k : Nat) (a0_0 : Int) (a0_1 : Int) (l0_2 : List Int) (a1 : Int) : Option (Int) := (codewrightref04_Digits.f k a0_0 a0_1 l0_2 a1).bind fun t511 => (codewrightref04_Neg.l0 k t511 0 a0_0 a0_1 l0_2)
end Go.Proofs.Ytccmpmkmgehkiaa.PA
end
section
namespace Go.Proofs.Ytccmpmkmgehkiaa.PA
open Go.RowKit Go.Proofs.YtccmpmkmgehkiaaW.PrintWords Go.Proofs.YtccmpmkmgehkiaaW.PrintLast Go.Proofs.YtccmpmkmgehkiaaW.PrintMore
attribute [local go_sem] max2_int min2_int max_two min_two max_three min_three max_four min_four
set_option linter.unusedVariables false
set_option linter.unusedSimpArgs false
end Go.Proofs.Ytccmpmkmgehkiaa.PA
end
section
namespace Go.Proofs.Ytccmpmkmgehkiaa.PA
open Go.RowKit Go.Proofs.YtccmpmkmgehkiaaW.PrintWords Go.Proofs.YtccmpmkmgehkiaaW.PrintLast Go.Proofs.YtccmpmkmgehkiaaW.PrintMore
attribute [local go_sem] max2_int min2_int max_two min_two max_three min_three max_four min_four
set_option linter.unusedVariables false
set_option linter.unusedSimpArgs false
end Go.Proofs.Ytccmpmkmgehkiaa.PA
end
section
namespace Go.Proofs.Ytccmpmkmgehkiaa.PA
open Go.RowKit Go.Proofs.YtccmpmkmgehkiaaW.PrintWords Go.Proofs.YtccmpmkmgehkiaaW.PrintLast Go.Proofs.YtccmpmkmgehkiaaW.PrintMore
attribute [local go_sem] max2_int min2_int max_two min_two max_three min_three max_four min_four
set_option linter.unusedVariables false
set_option linter.unusedSimpArgs false
end Go.Proofs.Ytccmpmkmgehkiaa.PA
end
section
namespace Go.Proofs.Ytccmpmkmgehkiaa.PA
open Go.RowKit Go.Proofs.YtccmpmkmgehkiaaW.PrintWords Go.Proofs.YtccmpmkmgehkiaaW.PrintLast Go.Proofs.YtccmpmkmgehkiaaW.PrintMore
theorem Ev.succ {α : Type} {g : Nat → Option α} {r : α} (h : Ev (fun k => g (k + 1)) r) : Ev g r := Ev.step (fun _ => rfl) h
theorem Ev.ifp {α : Type} {c : Prop} [Decidable c] {f g : Nat → Option α} {r : α} (h : c) (e : Ev f r) : Ev (fun k => if c then f k else g k) r := by simp only [if_pos h]; exact e
theorem Ev.ifn {α : Type} {c : Prop} [Decidable c] {f g : Nat → Option α} {r : α} (h : ¬ c) (e : Ev g r) : Ev (fun k => if c then f k else g k) r := by simp only [if_neg h]; exact e
theorem Ev.val {α : Type} {a r : α} (h : a = r) : Ev (fun _ => some a) r := h ▸ Ev.now a
theorem Ev.some_bind {α β : Type} {a : α} {f : Nat → α → Option β} {r : β} (h : Ev (fun k => f k a) r) : Ev (fun k => (some a).bind (f k)) r := h
theorem Ev.opt_bind {α β : Type} {o : Option α} {a : α} {f : Nat → α → Option β} {r : β} (h0 : o = some a) (h : Ev (fun k => f k a) r) : Ev (fun k => o.bind (f k)) r := by subst h0; exact h
theorem w64 {n : Int} (h : -4000000000000000000 ≤ n ∧ n ≤ 4000000000000000000) : wrap64 n = n := by unfold wrap64; omega
theorem rd_nat (xs : List Int) (j : Nat) : rd xs (j : Int) = xs.getD j 0 := by unfold rd; rw [Int.toNat_natCast]
theorem rd_set (xs : List Int) (i j : Nat) (v : Int) (h : i < xs.length) : (xs.set i v).getD j 0 = if i = j then v else xs.getD j 0 := by
  rw [List.getD_eq_getElem?_getD, List.getElem?_set]
  split
  · rename_i e; subst e; simp [h]
  · rw [List.getD_eq_getElem?_getD]
theorem tdiv_pos {a b : Int} (h : 0 ≤ a) : Int.tdiv a b = a / b := Int.tdiv_eq_ediv_of_nonneg h
theorem tmod_pos {a b : Int} (h : 0 ≤ a) : Int.tmod a b = a % b := Int.tmod_eq_emod_of_nonneg h
theorem getD_nat_lt (xs : List Int) (j : Nat) (h : xs.length ≤ j) : xs.getD j 0 = 0 := by
  rw [List.getD_eq_getElem?_getD, List.getElem?_eq_none h]; rfl
theorem getD_zeros (n j : Nat) : (List.replicate n (0 : Int)).getD j 0 = 0 := by
  rw [List.getD_eq_getElem?_getD, List.getElem?_replicate]; split <;> rfl
end Go.Proofs.Ytccmpmkmgehkiaa.PA
end
