/- Proved: for every input the law KeyequationRegisters returns true and leaves its arguments as they were; no conditions. Part 4 of 5 of the proof. -/
import Derived.Test.YtkdakjlopheefaaZKeyequationRegisters2
import Derived.WalkSpells
import Derived.Deep.RegionLaw
import Derived.Deep.RegionHeldLaw
import Derived.Deep.DeepFit
set_option linter.unusedSectionVars false
set_option linter.unusedSimpArgs false
set_option linter.unusedVariables false
section
namespace Go.Proofs.Ytkdakjlopheefaa.PA
open Go.RowKit Go.Proofs.YtkdakjlopheefaaW.PrintWords Go.Proofs.YtkdakjlopheefaaW.PrintLast Go.Proofs.YtkdakjlopheefaaW.PrintMore
attribute [local go_sem] max2_int min2_int max_two min_two max_three min_three max_four min_four
set_option linter.unusedVariables false
set_option linter.unusedSimpArgs false
def codewrightlaw38_same.l0 : Nat → List Int → List Int → Int → Int → Option (Bool)
 | 0, _, _, _, _ => none
 | k + 1, x0, x1, x12, x13 => if x13 < x12 then (if 0 ≤ x13 then (if x13 < (x0.length : Int) then (if x13 < (x1.length : Int) then (if (rd x0 x13) = (rd x1 x13) then (codewrightlaw38_same.l0 k x0 x1 x12 (wrap64 (x13 + 1))) else (some false)) else (none)) else (none)) else (none)) else (some true)
def codewrightlaw38_same.f (k : Nat) (l0 : List Int) (l1 : List Int) : Option (Bool) := if (l0.length : Int) = (l1.length : Int) then (codewrightlaw38_same.l0 k l0 l1 (l0.length : Int) 0) else (some false)
set_option maxHeartbeats 8000000 in
set_option maxRecDepth 100000 in
theorem codewrightlaw38_same.calls (k : Nat) (A0 : Option Addr) (c0 : Nat) (l0 : List Int) (A1 : Option Addr) (c1 : Nat) (l1 : List Int) (r : Bool) (w : World) (hr0 : Kd.C (Kd.int .i64) w A0 l0.length l0) (hc0 : l0.length ≤ c0) (hr1 : Kd.C (Kd.int .i64) w A1 l1.length l1) (hc1 : l1.length ≤ c1) (h : codewrightlaw38_same.f k l0 l1 = some r) :
  Calls Try.prog 17 #[.slice A0 l0.length c0, .slice A1 l1.length c1] w fun e w' => e = .returned (.bool r) ∧ Drawn0 w w' := by
 have HR0 := Aside0.mk hr0
 have HC0 := Aside0.mk hc0
 clear hr0 hc0
 have HR1 := Aside0.mk hr1
 have HC1 := Aside0.mk hc1
 clear hr1 hc1
 have H : (if (l0.length : Int) = (l1.length : Int) then (codewrightlaw38_same.l0 k l0 l1 (l0.length : Int) 0) else (some false)) = some r := h
 clear h
 by_cases c3 : (l0.length : Int) = (l1.length : Int)
 ·rw [if_pos c3] at H
  have c3b0 : ((l0.length : Int) == (l1.length : Int)) = true := beq_iff_eq.mpr c3
  have c3b1 : ((l0.length : Int) != (l1.length : Int)) = false := bne_eq_false_iff_eq.mpr c3
  have c3b2 : (l0.length == l1.length) = true := by (simp at c3 ⊢; omega)
  clear c3
  have H' := Aside0.mk H
  clear H
  go_enter Try.func17, Try.ntmps17
  go_wp2
  repeat (go_quiet (fail); try go_wp2)
  go_loopg [13] k (fun kq v13 w' => ∃ (x13_1 : Int), v13 = .int .i64 x13_1 ∧ Aside0 (codewrightlaw38_same.l0 kq l0 l1 (l0.length : Int) x13_1 = some r) ∧ Aside0 (kq ≤ k) ∧ Drawn0 w w')
  case atStart => exact ⟨(0), (by rfl), H', ⟨Nat.le_refl _⟩, by repeat ((exact Drawn0.refl _))⟩
  case round =>
   clear H' c3b0 c3b1 c3b2
   obtain ⟨x13_1, rfl, HA, HK1, ⟨m1, rfl⟩⟩ := hrel
   cases gk with
   | zero => exact absurd HA.out (by simp [codewrightlaw38_same.l0])
   | succ k1 =>
    have H := HA.out
    clear HA
    simp only [codewrightlaw38_same.l0] at H
    by_cases c4 : x13_1 < (l0.length : Int)
    ·rw [if_pos c4] at H
     have c4b0 : decide (x13_1 < (l0.length : Int)) = true := decide_eq_true c4
     clear c4
     by_cases c5 : 0 ≤ x13_1
     ·rw [if_pos c5] at H
      have c5b0 : decide (0 ≤ x13_1) = true := decide_eq_true c5
      clear c5
      by_cases c6 : x13_1 < (l0.length : Int)
      ·rw [if_pos c6] at H
       have c6b0 : decide (x13_1 < (l0.length : Int)) = true := decide_eq_true c6
       clear c6
       by_cases c7 : x13_1 < (l1.length : Int)
       ·rw [if_pos c7] at H
        have c7b0 : decide (x13_1 < (l1.length : Int)) = true := decide_eq_true c7
        clear c7
        by_cases c8 : (rd l0 x13_1) = (rd l1 x13_1)
        ·rw [if_pos c8] at H
         have c8b0 : ((rd l0 x13_1) == (rd l1 x13_1)) = true := beq_iff_eq.mpr c8
         have c8b1 : ((rd l0 x13_1) != (rd l1 x13_1)) = false := bne_eq_false_iff_eq.mpr c8
         clear c8
         have H' := Aside0.mk H
         clear H
         have p369 : 0 ≤ (x13_1 : Int) := of_decide_eq_true (by (with_reducible assumption))
         have q369 : x13_1 < (l0.length : Int) := of_decide_eq_true (by (with_reducible assumption))
         obtain ⟨ad369, e369, hx369_0⟩ := Kd.at_int HR0.out x13_1 p369 q369
         cases e369
         replace p369 := eq_true p369
         replace q369 := eq_true q369
         have p370 : 0 ≤ (x13_1 : Int) := of_decide_eq_true (by (with_reducible assumption))
         have q370 : x13_1 < (l1.length : Int) := of_decide_eq_true (by (with_reducible assumption))
         obtain ⟨ad370, e370, hx370_0⟩ := Kd.at_int HR1.out x13_1 p370 q370
         cases e370
         replace p370 := eq_true p370
         replace q370 := eq_true q370
         go_wp2
         repeat (go_quiet (fail); (go_wp2))
         go_roundg k1
         case measure => have := HK1.out; omega
         case rel => exact ⟨(wrap64 (x13_1 + 1)), (by rfl), H', ⟨by have := HK1.out; omega⟩, by repeat (first | (exact Drawn0.refl _) | (apply Drawn0.step))⟩
        ·rw [if_neg c8] at H
         have c8b0 : ((rd l0 x13_1) == (rd l1 x13_1)) = false := beq_eq_false_iff_ne.mpr c8
         have c8b1 : ((rd l0 x13_1) != (rd l1 x13_1)) = true := bne_iff_ne.mpr c8
         obtain rfl := Option.some.inj H
         have p369 : 0 ≤ (x13_1 : Int) := of_decide_eq_true (by (with_reducible assumption))
         have q369 : x13_1 < (l0.length : Int) := of_decide_eq_true (by (with_reducible assumption))
         obtain ⟨ad369, e369, hx369_0⟩ := Kd.at_int HR0.out x13_1 p369 q369
         cases e369
         replace p369 := eq_true p369
         replace q369 := eq_true q369
         have p370 : 0 ≤ (x13_1 : Int) := of_decide_eq_true (by (with_reducible assumption))
         have q370 : x13_1 < (l1.length : Int) := of_decide_eq_true (by (with_reducible assumption))
         obtain ⟨ad370, e370, hx370_0⟩ := Kd.at_int HR1.out x13_1 p370 q370
         cases e370
         replace p370 := eq_true p370
         replace q370 := eq_true q370
         go_wp2
         repeat (go_quiet (fail); (go_wp2))
         go_ret
         exact ⟨by rfl, by repeat (first | (exact Drawn0.refl _) | (apply Drawn0.step))⟩
       ·rw [if_neg c7] at H
        exact absurd H (by simp)
      ·rw [if_neg c6] at H
       exact absurd H (by simp)
     ·rw [if_neg c5] at H
      exact absurd H (by simp)
    ·rw [if_neg c4] at H
     have c4b0 : decide (x13_1 < (l0.length : Int)) = false := decide_eq_false c4
     clear c4
     obtain rfl := Option.some.inj H
     go_wp2
     repeat (go_quiet (fail); try go_wp2)
     go_ret
     exact ⟨by rfl, by repeat (first | (exact Drawn0.refl _) | (apply Drawn0.step))⟩
 ·rw [if_neg c3] at H
  have c3b0 : ((l0.length : Int) == (l1.length : Int)) = false := beq_eq_false_iff_ne.mpr c3
  have c3b1 : ((l0.length : Int) != (l1.length : Int)) = true := bne_iff_ne.mpr c3
  have c3b2 : (l0.length == l1.length) = false := by (simp at c3 ⊢; omega)
  obtain rfl := Option.some.inj H
  go_enter Try.func17, Try.ntmps17
  go_wp2
  repeat (go_quiet (fail); try go_wp2)
  go_ret
  exact ⟨by rfl, by repeat ((exact Drawn0.refl _))⟩
mutual
def keyequation_Syndrome.j0 : Nat → List Int → List Int → Int → Bool → Int → Int → List Int → Int → List Int → List Int → Option (List Int × Int × Int × Int × Int)
 | 0, _, _, _, _, _, _, _, _, _, _ => none
 | k + 1, x1, x2, x3, x25, x1000, x1001, x1002, x1003, x1004, x1005 => if x25 = true then (some (([] : List Int), 6, x1000, x1001, x1003)) else (if 0 ≤ x3 then (if (x3 : Int).toNat ≤ 35184372088832 then (keyequation_Syndrome.l0 k x2 (List.replicate (x3 : Int).toNat 0) x1 (x1.length : Int) 0 x1000 x1001 x1002 x1003 x1004 x1005) else (none)) else (none))
def keyequation_Syndrome.l0 : Nat → List Int → List Int → List Int → Int → Int → Int → Int → List Int → Int → List Int → List Int → Option (List Int × Int × Int × Int × Int)
 | 0, _, _, _, _, _, _, _, _, _, _, _ => none
 | k + 1, x2, x10, x28, x29, x30, x1000, x1001, x1002, x1003, x1004, x1005 => if x30 < x29 then (if 0 ≤ x30 then (if x30 < (x28.length : Int) then (if x30 < (x2.length : Int) then ((field_GF_Add.f k x1000 x1001 x1002 x1003 x1004 x1005 (rd x2 x30) 0).bind fun bt382 => (keyequation_Syndrome.l1 k x2 x10 (rd x28 x30) bt382.1 x28 x29 x30 (x10.length : Int) 0 bt382.2.1 bt382.2.2.1 x1002 bt382.2.2.2 x1004 x1005)) else (none)) else (none)) else (none)) else ((poly_Canon.f k x1000 x1001 x1002 x1003 x1004 x1005 x10).bind fun bt374 => (some (bt374.1, 0, bt374.2.1, bt374.2.2.1, bt374.2.2.2)))
def keyequation_Syndrome.l1 : Nat → List Int → List Int → Int → Int → List Int → Int → Int → Int → Int → Int → Int → List Int → Int → List Int → List Int → Option (List Int × Int × Int × Int × Int)
 | 0, _, _, _, _, _, _, _, _, _, _, _, _, _, _, _ => none
 | k + 1, x2, x10, x12, x13, x28, x29, x30, x42, x43, x1000, x1001, x1002, x1003, x1004, x1005 => if x43 < x42 then (if 0 ≤ x43 then (if x43 < (x10.length : Int) then ((field_GF_Add.f k x1000 x1001 x1002 x1003 x1004 x1005 (rd x10 x43) x13).bind fun bt387 => ((field_GF_Mul.f bt387.2.1 bt387.2.2.1 x1002 bt387.2.2.2 x1004 x1005 x13 x12).bind fun bt392 => (keyequation_Syndrome.l1 k x2 (x10.set (x43 : Int).toNat bt387.1) x12 bt392.1 x28 x29 x30 x42 (wrap64 (x43 + 1)) bt392.2.1 bt392.2.2.1 x1002 bt392.2.2.2 x1004 x1005))) else (none)) else (none)) else (keyequation_Syndrome.l0 k x2 x10 x28 x29 (wrap64 (x30 + 1)) x1000 x1001 x1002 x1003 x1004 x1005)
end
def keyequation_Syndrome.f (k : Nat) (s0_0 : Int) (s0_1 : Int) (s0_2 : List Int) (s0_3 : Int) (s0_4 : List Int) (s0_5 : List Int) (l1 : List Int) (l2 : List Int) (a3 : Int) : Option (List Int × Int × Int × Int × Int) := if (l1.length : Int) = (l2.length : Int) then (if a3 < 0 then (keyequation_Syndrome.j0 k l1 l2 a3 true s0_0 s0_1 s0_2 s0_3 s0_4 s0_5) else (keyequation_Syndrome.j0 k l1 l2 a3 (decide (a3 > 256)) s0_0 s0_1 s0_2 s0_3 s0_4 s0_5)) else (some (([] : List Int), 3, s0_0, s0_1, s0_3))
set_option maxHeartbeats 8000000 in
set_option maxRecDepth 100000 in
theorem keyequation_Syndrome.calls (k : Nat) (g : Nat) (s0_0 : Int) (s0_1 : Int) (s0_2 : List Int) (s0_3 : Int) (s0_4 : List Int) (s0_5 : List Int) (A1 : Option Addr) (c1 : Nat) (l1 : List Int) (A2 : Option Addr) (c2 : Nat) (l2 : List Int) (a3 : Int) (r1 : List Int) (r2 : Int) (r3 : Int) (r4 : Int) (r5 : Int) (w0 w : World) (hI : IsS93 w0 w g s0_0 s0_1 s0_2 s0_3 s0_4 s0_5) (hB : Below w0.heap.size w0 w) (hr1 : Kd.C (Kd.int .i64) w A1 l1.length l1) (hc1 : l1.length ≤ c1) (hf1 : ∀ ad, A1 = some ad → 0 < l1.length → ad.block ≠ g) (hr2 : Kd.C (Kd.int .i64) w A2 l2.length l2) (hc2 : l2.length ≤ c2) (hf2 : ∀ ad, A2 = some ad → 0 < l2.length → ad.block ≠ g) (h : keyequation_Syndrome.f k s0_0 s0_1 s0_2 s0_3 s0_4 s0_5 l1 l2 a3 = some (r1, r2, r3, r4, r5)) :
  Calls Try.prog 24 #[.pointer (some ⟨g, 0, none⟩), .slice A1 l1.length c1, .slice A2 l2.length c2, .int .i64 a3] w fun e w' => ∃ v0_ : Value, e = .returned (.tuple #[v0_, .int .i64 r2]) ∧ Kd.R (Kd.int .i64) 3 w' w.heap.size (fun _ => True) v0_ r1 ∧ IsS93 w0 w' g r3 r4 s0_2 r5 s0_4 s0_5 ∧ Below w0.heap.size w0 w' ∧ KeepBut w w' g none := by
 have HR1 := Aside0.mk hr1
 have HC1 := Aside0.mk hc1
 clear hr1 hc1
 have HR2 := Aside0.mk hr2
 have HC2 := Aside0.mk hc2
 clear hr2 hc2
 have HI0 := Aside0.mk hI
 have HK := Aside0.mk (KeepBut.refl w g none)
 have HL := Aside0.mk hB.size
 clear hI
 have HW0 := Aside0.mk hB.size
 have HB := Aside0.mk hB
 clear hB
 have H : (if (l1.length : Int) = (l2.length : Int) then (if a3 < 0 then (keyequation_Syndrome.j0 k l1 l2 a3 true s0_0 s0_1 s0_2 s0_3 s0_4 s0_5) else (keyequation_Syndrome.j0 k l1 l2 a3 (decide (a3 > 256)) s0_0 s0_1 s0_2 s0_3 s0_4 s0_5)) else (some (([] : List Int), 3, s0_0, s0_1, s0_3))) = some (r1, r2, r3, r4, r5) := h
 clear h
 by_cases c5 : (l1.length : Int) = (l2.length : Int)
 ·rw [if_pos c5] at H
  have c5b0 : ((l1.length : Int) == (l2.length : Int)) = true := beq_iff_eq.mpr c5
  have c5b1 : ((l1.length : Int) != (l2.length : Int)) = false := bne_eq_false_iff_eq.mpr c5
  have c5b2 : (l1.length == l2.length) = true := by (simp at c5 ⊢; omega)
  clear c5
  have HC6 := Aside0.mk H
  clear H
  go_enter Try.func24, Try.ntmps24
  go_upto_region 3 with (fail)
  go_cut [25] (fun v25 wc => ∃ (kq : Nat) (x25_5 : Bool), v25 = .bool x25_5 ∧ Aside0 (keyequation_Syndrome.j0 kq l1 l2 a3 x25_5 s0_0 s0_1 s0_2 s0_3 s0_4 s0_5 = some (r1, r2, r3, r4, r5)) ∧ Aside0 (kq ≤ k) ∧ Aside0 (IsS93 w0 wc g s0_0 s0_1 s0_2 s0_3 s0_4 s0_5) ∧ Aside0 (KeepBut w wc g none) ∧ Aside0 (Below w0.heap.size w0 wc))
  case first =>
   have H := HC6.out
   clear HC6
   by_cases c7 : a3 < 0
   ·rw [if_pos c7] at H
    have c7b0 : decide (a3 < 0) = true := decide_eq_true c7
    clear c7
    ((skip))
    have H' := Aside0.mk H
    clear H
    go_wp2
    go_meet
    case rel => exact ⟨_, (true), (by rfl), H', ⟨by (omega)⟩, ⟨HI0.out⟩, ⟨HK.out⟩, ⟨HB.out⟩⟩
   ·rw [if_neg c7] at H
    have c7b0 : decide (a3 < 0) = false := decide_eq_false c7
    clear c7
    ((skip))
    have H' := Aside0.mk H
    clear H
    go_wp2
    go_meet
    case rel => exact ⟨_, (decide (a3 > 256)), (by rfl), H', ⟨by (omega)⟩, ⟨HI0.out⟩, ⟨HK.out⟩, ⟨HB.out⟩⟩
  case rest =>
   clear HC6 c5b0 c5b1 c5b2
   obtain ⟨kq, x25_5, rfl, HA, HJ5, HI0, HK, HB⟩ := hcut
   cases kq with
   | zero => exact absurd HA.out (by simp [keyequation_Syndrome.j0])
   | succ kj5 =>
    have H := HA.out
    clear HA
    simp only [keyequation_Syndrome.j0] at H
    by_cases c8 : x25_5 = true
    ·subst c8
     have H1 : (some (([] : List Int), 6, s0_0, s0_1, s0_3)) = some (r1, r2, r3, r4, r5) := by rw [if_pos rfl] at H; exact H
     clear H
     have H := H1
     clear H1
     simp only [Option.some.injEq, Prod.mk.injEq] at H
     obtain ⟨rfl, rfl, rfl, rfl, rfl⟩ := H
     go_wp2
     go_ret2
     exact ⟨_, by rfl, by (exact Kd.R_nil _ _ _ _ _), by exact HI0.out, by exact HB.out, by exact HK.out⟩
    ·replace c8 := Bool.eq_false_iff.mpr c8
     subst c8
     have H1 : (if 0 ≤ a3 then (if (a3 : Int).toNat ≤ 35184372088832 then (keyequation_Syndrome.l0 kj5 l2 (List.replicate (a3 : Int).toNat 0) l1 (l1.length : Int) 0 s0_0 s0_1 s0_2 s0_3 s0_4 s0_5) else (none)) else (none)) = some (r1, r2, r3, r4, r5) := by rw [if_neg (show ¬ (false = true) by decide)] at H; exact H
     clear H
     have H := H1
     clear H1
     by_cases c9 : 0 ≤ a3
     ·rw [if_pos c9] at H
      have c9b0 := eq_true c9
      have c9b1 : decide (0 ≤ a3) = true := decide_eq_true c9
      clear c9
      by_cases c10 : (a3 : Int).toNat ≤ 35184372088832
      ·rw [if_pos c10] at H
       have c10b0 := eq_true c10
       have c10b1 : decide ((a3 : Int).toNat ≤ 35184372088832) = true := decide_eq_true c10
       clear c10
       obtain ⟨y371, hy371⟩ : ∃ y_ : List Int, y_ = (List.replicate (a3 : Int).toNat 0) := ⟨_, rfl⟩
       replace H : (keyequation_Syndrome.l0 kj5 l2 y371 l1 (l1.length : Int) 0 s0_0 s0_1 s0_2 s0_3 s0_4 s0_5) = some (r1, r2, r3, r4, r5) := by (rw [hy371]; with_reducible exact H)
       have Ny371 := Aside0.mk hy371
       clear hy371
       have H' := Aside0.mk H
       clear H
       go_wp2_with (((with_reducible refine gate_dst (N := 27) rfl ?_); refine Kd.R_make (Kd.int .i64) _ 3 rfl (N := 27) rfl 22 _ _ rfl a3 rfl rfl Try.underlying22 (.int .i64 0) 8 info3 rfl (by decide) (by omega) 0 (ok := fun _ => True) (okp := fun _ => True) rfl (fun _ hk => hk) trivial (of_decide_eq_true (by (with_reducible assumption))) (Nat.le_trans (Nat.mul_le_mul_right _ (of_decide_eq_true (by (with_reducible assumption)) : a3.toNat ≤ 35184372088832)) (by omega)) (Below.refl _ _) (Nat.le_refl _) ?_; intro v372 w11 ho12 hb hg_ hnew_; clear hg_ hnew_; ((rw [← Ny371.out] at ho12)); have n0_ := Aside0.mk (Kd.R_lower ho12 (keep_size (w := w) (g := g) (row := none) HK.out)); have n1_ := Aside0.mk (IsS93.below HI0.out hb); have n2_ := Aside0.mk (KeepBut.trans HK.out (KeepBut.of_below hb g none) (.inl rfl)); have n3_ := Aside0.mk (below_step HB.out hb); clear HI0; clear HK; clear HB; have HO373 := n0_; have HI0 := n1_; have HK := n2_; have HB := n3_; clear n0_ n1_ n2_ n3_; clear hb ho12))
       go_loopg [30] kj5 (fun kq v30 w' => ∃ (x10_2 : List Int) (x30_2 : Int) (x1000_2 : Int) (x1001_2 : Int) (x1003_2 : Int), v30 = .int .i64 x30_2 ∧ Aside0 (keyequation_Syndrome.l0 kq l2 x10_2 l1 (l1.length : Int) x30_2 x1000_2 x1001_2 s0_2 x1003_2 s0_4 s0_5 = some (r1, r2, r3, r4, r5)) ∧ Aside0 (kq ≤ kj5) ∧ Aside0 (Kd.R (Kd.int .i64) 3 w' w.heap.size (fun _ => True) v372 x10_2) ∧ Aside0 (IsS93 w0 w' g x1000_2 x1001_2 s0_2 x1003_2 s0_4 s0_5) ∧ Aside0 (KeepBut w w' g none) ∧ Aside0 (Below w0.heap.size w0 w'))
       case atStart => exact ⟨(y371), (0), (s0_0), (s0_1), (s0_3), (by rfl), H', ⟨Nat.le_refl _⟩, ⟨HO373.out⟩, ⟨HI0.out⟩, ⟨HK.out⟩, ⟨HB.out⟩⟩
       case round =>
        clear H' c9b0 c9b1 c10b0 c10b1
        obtain ⟨x10_2, x30_2, x1000_2, x1001_2, x1003_2, rfl, HA, HK2, HO_10, HI0, HK, HB⟩ := hrel
        cases gk with
        | zero => exact absurd HA.out (by simp [keyequation_Syndrome.l0])
        | succ k2 =>
         have H := HA.out
         clear HA
         simp only [keyequation_Syndrome.l0] at H
         by_cases c13 : x30_2 < (l1.length : Int)
         ·rw [if_pos c13] at H
          have c13b0 : decide (x30_2 < (l1.length : Int)) = true := decide_eq_true c13
          clear c13
          by_cases c14 : 0 ≤ x30_2
          ·rw [if_pos c14] at H
           have c14b0 : decide (0 ≤ x30_2) = true := decide_eq_true c14
           clear c14
           by_cases c15 : x30_2 < (l1.length : Int)
           ·rw [if_pos c15] at H
            have c15b0 : decide (x30_2 < (l1.length : Int)) = true := decide_eq_true c15
            clear c15
            by_cases c16 : x30_2 < (l2.length : Int)
            ·rw [if_pos c16] at H
             have c16b0 : decide (x30_2 < (l2.length : Int)) = true := decide_eq_true c16
             clear c16
             replace H := Option.bind_eq_some_iff.mp H
             obtain ⟨⟨t382, t383, t384, t385⟩, A170, H⟩ := H
             replace H : (keyequation_Syndrome.l1 k2 l2 x10_2 (rd l1 x30_2) t382 l1 (l1.length : Int) x30_2 (x10_2.length : Int) 0 t383 t384 s0_2 t385 s0_4 s0_5) = some (r1, r2, r3, r4, r5) := H
             have A17 := Aside0.mk A170
             clear A170
             have H' := Aside0.mk H
             clear H
             have p380 : 0 ≤ (x30_2 : Int) := of_decide_eq_true (by (with_reducible assumption))
             have q380 : x30_2 < (l1.length : Int) := of_decide_eq_true (by (with_reducible assumption))
             obtain ⟨ad380, e380, hx380_0⟩ := Kd.at_int HR1.out x30_2 p380 q380
             cases e380
             replace hx380_0 := keep_cell HK.out hx380_0 (by (rw [add_block]; exact hf1 _ rfl (by omega)))
             replace p380 := eq_true p380
             replace q380 := eq_true q380
             have p381 : 0 ≤ (x30_2 : Int) := of_decide_eq_true (by (with_reducible assumption))
             have q381 : x30_2 < (l2.length : Int) := of_decide_eq_true (by (with_reducible assumption))
             obtain ⟨ad381, e381, hx381_0⟩ := Kd.at_int HR2.out x30_2 p381 q381
             cases e381
             replace hx381_0 := keep_cell HK.out hx381_0 (by (rw [add_block]; exact hf2 _ rfl (by omega)))
             replace p381 := eq_true p381
             replace q381 := eq_true q381
             go_wp2_with (((with_reducible refine gate_callee (f := 53) rfl ?_); refine goesL_ (some 40) rfl rfl Try.func53 (by kernel_rfl) rfl #[.pointer (some ⟨g, 0, none⟩), .int .i64 (rd l2 x30_2), .int .i64 0] rfl (by ((simp only [List.map_toArray, List.map_cons, List.map_nil])); (rfl)) ?_; (with_reducible refine (field_GF_Add.calls k2 g x1000_2 x1001_2 s0_2 x1003_2 s0_4 s0_5 (rd l2 x30_2) 0 t382 t383 t384 t385 w0 _ ?side1 ?side2 A17.out).mono ?_); (case side1 => repeat ((with_reducible (exact HI0.out)))); (case side2 => repeat ((with_reducible (exact HB.out)))); rintro e w18 ⟨rfl, hi, hb, hk⟩; refine ⟨_, rfl, ?_⟩; have n0_ := Aside0.mk (Kd.R_mono (Kd.R_keep (IsS93.apart (show IsS93 w0 _ g x1000_2 x1001_2 s0_2 x1003_2 s0_4 s0_5 from by exact HI0.out) HO_10.out (by decide)) hk (fun _ h => h.2)) (fun _ h => h.1)); have n1_ := Aside0.mk (KeepBut.trans HK.out hk (.inl rfl)); have n2_ := Aside0.mk (hb); have n3_ := Aside0.mk (hi); clear HO_10; clear HK; clear HB; clear HI0; have HO_10 := n0_; have HK := n1_; have HB := n2_; have HI0 := n3_; clear n0_ n1_ n2_ n3_; ((clear hb)); (skip); ((clear hk)); ((clear hi)); obtain ⟨Ao19, co19, eo19⟩ := Kd.R_slice HO_10.out; subst eo19))
             go_loopg [13, 43] k2 (fun kq v13 v43 w' => ∃ (x10_3 : List Int) (x13_3 : Int) (x43_3 : Int) (x1000_3 : Int) (x1001_3 : Int) (x1003_3 : Int), v13 = .int .i64 x13_3 ∧ v43 = .int .i64 x43_3 ∧ Aside0 (keyequation_Syndrome.l1 kq l2 x10_3 (rd l1 x30_2) x13_3 l1 (l1.length : Int) x30_2 (x10_2.length : Int) x43_3 x1000_3 x1001_3 s0_2 x1003_3 s0_4 s0_5 = some (r1, r2, r3, r4, r5)) ∧ Aside0 (kq ≤ k2) ∧ Aside0 (Kd.R (Kd.int .i64) 3 w' w.heap.size (fun _ => True) (.slice Ao19 x10_2.length co19) x10_3) ∧ Aside0 (IsS93 w0 w' g x1000_3 x1001_3 s0_2 x1003_3 s0_4 s0_5) ∧ Aside0 (KeepBut w w' g none) ∧ Aside0 (Below w0.heap.size w0 w'))
             case atStart => exact ⟨(x10_2), (t382), (0), (t383), (t384), (t385), (by rfl), (by rfl), H', ⟨Nat.le_refl _⟩, ⟨HO_10.out⟩, ⟨HI0.out⟩, ⟨HK.out⟩, ⟨HB.out⟩⟩
             case round =>
              clear H' c13b0 c14b0 c15b0 c16b0 hx380_0 hx381_0 p380 p381 q380 q381
              obtain ⟨x10_3, x13_3, x43_3, x1000_3, x1001_3, x1003_3, rfl, rfl, HA, HK3, HO_10, HI0, HK, HB⟩ := hrel
              have hl10_3 := (Kd.R_reads' HO_10.out).1
              rw [hl10_3] at HO_10
              ((simp only [hl10_3]))
              cases gk with
              | zero => exact absurd HA.out (by simp [keyequation_Syndrome.l1])
              | succ k3 =>
               have H := HA.out
               clear HA
               simp only [keyequation_Syndrome.l1] at H
               by_cases c20 : x43_3 < (x10_2.length : Int)
               ·rw [if_pos c20] at H
                have c20b0 : decide (x43_3 < (x10_2.length : Int)) = true := decide_eq_true c20
                ((rw [hl10_3] at c20b0))
                clear c20
                by_cases c21 : 0 ≤ x43_3
                ·rw [if_pos c21] at H
                 have c21b0 : decide (0 ≤ x43_3) = true := decide_eq_true c21
                 clear c21
                 by_cases c22 : x43_3 < (x10_3.length : Int)
                 ·rw [if_pos c22] at H
                  have c22b0 : decide (x43_3 < (x10_3.length : Int)) = true := decide_eq_true c22
                  clear c22
                  replace H := Option.bind_eq_some_iff.mp H
                  obtain ⟨⟨t387, t388, t389, t390⟩, A230, H⟩ := H
                  replace H : ((field_GF_Mul.f t388 t389 s0_2 t390 s0_4 s0_5 x13_3 (rd l1 x30_2)).bind fun bt392 => (keyequation_Syndrome.l1 k3 l2 (x10_3.set (x43_3 : Int).toNat t387) (rd l1 x30_2) bt392.1 l1 (l1.length : Int) x30_2 (x10_2.length : Int) (wrap64 (x43_3 + 1)) bt392.2.1 bt392.2.2.1 s0_2 bt392.2.2.2 s0_4 s0_5)) = some (r1, r2, r3, r4, r5) := H
                  have A23 := Aside0.mk A230
                  clear A230
                  obtain ⟨y391, hy391⟩ : ∃ y_ : List Int, y_ = (x10_3.set (x43_3 : Int).toNat t387) := ⟨_, rfl⟩
                  replace H : ((field_GF_Mul.f t388 t389 s0_2 t390 s0_4 s0_5 x13_3 (rd l1 x30_2)).bind fun bt392 => (keyequation_Syndrome.l1 k3 l2 y391 (rd l1 x30_2) bt392.1 l1 (l1.length : Int) x30_2 (x10_2.length : Int) (wrap64 (x43_3 + 1)) bt392.2.1 bt392.2.2.1 s0_2 bt392.2.2.2 s0_4 s0_5)) = some (r1, r2, r3, r4, r5) := by (rw [hy391]; with_reducible exact H)
                  have Ny391 := Aside0.mk hy391
                  clear hy391
                  replace H := Option.bind_eq_some_iff.mp H
                  obtain ⟨⟨t392, t393, t394, t395⟩, A250, H⟩ := H
                  replace H : (keyequation_Syndrome.l1 k3 l2 y391 (rd l1 x30_2) t392 l1 (l1.length : Int) x30_2 (x10_2.length : Int) (wrap64 (x43_3 + 1)) t393 t394 s0_2 t395 s0_4 s0_5) = some (r1, r2, r3, r4, r5) := H
                  have A25 := Aside0.mk A250
                  clear A250
                  have H' := Aside0.mk H
                  clear H
                  have p386 : 0 ≤ (x43_3 : Int) := of_decide_eq_true (by (with_reducible assumption))
                  have q386 : x43_3 < (x10_3.length : Int) := of_decide_eq_true (by (with_reducible assumption))
                  obtain ⟨ad386, e386, hx386_0⟩ := Kd.at_int (Kd.R_reads' HO_10.out).2.2 x43_3 p386 q386
                  cases e386
                  replace p386 := eq_true p386
                  replace q386 := eq_true q386
                  go_wp2_with (first | ((with_reducible refine gate_callee (f := 53) rfl ?_); refine goesL_ (some 54) rfl rfl Try.func53 (by kernel_rfl) rfl #[.pointer (some ⟨g, 0, none⟩), .int .i64 (rd x10_3 x43_3), .int .i64 x13_3] rfl (by ((simp only [List.map_toArray, List.map_cons, List.map_nil])); (rfl)) ?_; (with_reducible refine (field_GF_Add.calls k3 g x1000_3 x1001_3 s0_2 x1003_3 s0_4 s0_5 (rd x10_3 x43_3) x13_3 t387 t388 t389 t390 w0 _ ?side1 ?side2 A23.out).mono ?_); (case side1 => repeat ((with_reducible (exact HI0.out)))); (case side2 => repeat ((with_reducible (exact HB.out)))); rintro e w26 ⟨rfl, hi, hb, hk⟩; refine ⟨_, rfl, ?_⟩; have n0_ := Aside0.mk (Kd.R_mono (Kd.R_keep (IsS93.apart (show IsS93 w0 _ g x1000_3 x1001_3 s0_2 x1003_3 s0_4 s0_5 from by exact HI0.out) HO_10.out (by decide)) hk (fun _ h => h.2)) (fun _ h => h.1)); have n1_ := Aside0.mk (KeepBut.trans HK.out hk (.inl rfl)); have n2_ := Aside0.mk (hb); have n3_ := Aside0.mk (hi); clear HO_10; clear HK; clear HB; clear HI0; have HO_10 := n0_; have HK := n1_; have HB := n2_; have HI0 := n3_; clear n0_ n1_ n2_ n3_; ((clear hb)); (skip); ((clear hk)); ((clear hi)); have p24 : 0 ≤ (x43_3 : Int) := of_decide_eq_true (by (with_reducible assumption)); have q24 : (x43_3 : Int) < ((x10_3.length : Int) : Int) := of_decide_eq_true (by (with_reducible assumption)); obtain ⟨go24, co24, eo24, gb24, gl24, cl24, HG24⟩ := Kd.R_form HO_10.out (by omega); ((cases eo24)); have GB24 := Aside0.mk gb24; have GG24 := Aside0.mk HG24; clear gb24 gl24 HG24; ((simp only [add_plain] at hx386_0)); obtain ⟨hx24_0, hf24_0⟩ := Kd.R_celln 0 HO_10.out (x43_3 : Int) p24 q24; replace p24 := eq_true p24; replace q24 := eq_true q24; obtain ⟨hy27_, hz27_⟩ := Kd.R_celln 0 HO_10.out (x43_3 : Int) (of_decide_eq_true (by (with_reducible assumption))) (of_decide_eq_true (by (with_reducible assumption))); have HP27 := Kd.R_putg HO_10.out (x43_3 : Int) t387) | ((with_reducible refine gate_store (t := 3) (p := 55) rfl ?_); refine store_event (t := 3) (p := 55) (v := ?vo_w28) (w1 := (w26.setCell ⟨go24, (x43_3 : Int).toNat, none⟩ (.int .i64 t387))) ?hg ?ho ?hn ?hr ?_; (case ho => rfl); (case hg => rfl); (case hn => rfl); (case hr => (go_simp; done)); intro w28 hw; have hg : w26.grownBy w28 (some go24) := (by rw [hw]; exact HP27.2); have hp_ : Kd.R (Kd.int .i64) 3 w28 w.heap.size (fun _ => True) (.slice (some ⟨go24, 0, none⟩) x10_3.length co19) y391 := (by rw [hw, Ny391.out]; exact HP27.1); clear HP27; have n0_ := Aside0.mk (hp_); have n1_ := Aside0.mk (IsS93.grown HI0.out hg (IsS93.own_ne HI0.out HO_10.out (by decide))); have n2_ := Aside0.mk ((by rw [hw]; exact below_set (HB.out) (Nat.le_trans HL.out GB24.out) : Below w0.heap.size w0 w28)); have n3_ := Aside0.mk (KeepBut.trans HK.out (KeepBut.of_grown hg g) (Kd.R_base2 HO_10.out)); clear HO_10; clear HI0; clear HB; clear HK; have HO_10 := n0_; have HI0 := n1_; have HB := n2_; have HK := n3_; clear n0_ n1_ n2_ n3_; clear hg hw hp_) | ((with_reducible refine gate_callee (f := 54) rfl ?_); refine goesL_ (some 59) rfl rfl Try.func54 (by kernel_rfl) rfl #[.pointer (some ⟨g, 0, none⟩), .int .i64 x13_3, .int .i64 (rd l1 x30_2)] rfl (by ((simp only [List.map_toArray, List.map_cons, List.map_nil])); (rfl)) ?_; (with_reducible refine (field_GF_Mul.calls g t388 t389 s0_2 t390 s0_4 s0_5 x13_3 (rd l1 x30_2) t392 t393 t394 t395 w0 _ ?side1 ?side2 A25.out).mono ?_); (case side1 => repeat ((with_reducible (exact HI0.out)))); (case side2 => repeat ((with_reducible (exact HB.out)))); rintro e w29 ⟨rfl, hi, hb, hk⟩; refine ⟨_, rfl, ?_⟩; have n0_ := Aside0.mk (Kd.R_mono (Kd.R_keep (IsS93.apart (show IsS93 w0 _ g t388 t389 s0_2 t390 s0_4 s0_5 from by exact HI0.out) HO_10.out (by decide)) hk (fun _ h => h.2)) (fun _ h => h.1)); have n1_ := Aside0.mk (KeepBut.trans HK.out hk (.inl rfl)); have n2_ := Aside0.mk (hb); have n3_ := Aside0.mk (hi); clear HO_10; clear HK; clear HB; clear HI0; have HO_10 := n0_; have HK := n1_; have HB := n2_; have HI0 := n3_; clear n0_ n1_ n2_ n3_; ((clear hb)); (skip); ((clear hk)); ((clear hi))))
                  ((simp only [← hl10_3]))
                  go_roundg k3
                  case measure => have := HJ5.out; have := HK2.out; have := HK3.out; omega
                  case rel => exact ⟨(y391), (t392), (wrap64 (x43_3 + 1)), (t393), (t394), (t395), (by rfl), (by rfl), H', ⟨by have := HJ5.out; have := HK2.out; have := HK3.out; omega⟩, ⟨by ((simp only [hl10_3])); (with_reducible repeat (fail)); exact HO_10.out⟩, ⟨HI0.out⟩, ⟨HK.out⟩, ⟨HB.out⟩⟩
                 ·rw [if_neg c22] at H
                  exact absurd H (by simp)
                ·rw [if_neg c21] at H
                 exact absurd H (by simp)
               ·rw [if_neg c20] at H
                have c20b0 : decide (x43_3 < (x10_2.length : Int)) = false := decide_eq_false c20
                ((rw [hl10_3] at c20b0))
                clear c20
                have H' := Aside0.mk H
                clear H
                go_wp2
                ((simp only [← hl10_3]))
                go_roundg k3
                case measure => have := HJ5.out; have := HK2.out; have := HK3.out; omega
                case rel => exact ⟨(x10_3), (wrap64 (x30_2 + 1)), (x1000_3), (x1001_3), (x1003_3), (by rfl), H', ⟨by have := HJ5.out; have := HK2.out; have := HK3.out; omega⟩, ⟨by ((simp only [hl10_3])); (with_reducible repeat (fail)); exact HO_10.out⟩, ⟨HI0.out⟩, ⟨HK.out⟩, ⟨HB.out⟩⟩
            ·rw [if_neg c16] at H
             exact absurd H (by simp)
           ·rw [if_neg c15] at H
            exact absurd H (by simp)
          ·rw [if_neg c14] at H
           exact absurd H (by simp)
         ·rw [if_neg c13] at H
          have c13b0 : decide (x30_2 < (l1.length : Int)) = false := decide_eq_false c13
          clear c13
          replace H := Option.bind_eq_some_iff.mp H
          obtain ⟨⟨t374, t377, t378, t379⟩, A300, H⟩ := H
          replace H : (some (t374, 0, t377, t378, t379)) = some (r1, r2, r3, r4, r5) := H
          have A30 := Aside0.mk A300
          clear A300
          simp only [Option.some.injEq, Prod.mk.injEq] at H
          obtain ⟨rfl, rfl, rfl, rfl, rfl⟩ := H
          obtain ⟨Ao31, co31, eo31⟩ := Kd.R_slice HO_10.out
          subst eo31
          go_wp2_with (((with_reducible refine gate_callee (f := 45) rfl ?_); refine goesL_ (some 64) rfl rfl Try.func45 (by kernel_rfl) rfl #[.pointer (some ⟨g, 0, none⟩), .slice Ao31 x10_2.length co31] rfl (by ((simp only [List.map_toArray, List.map_cons, List.map_nil])); (rfl)) ?_; (with_reducible refine (poly_Canon.calls k2 g x1000_2 x1001_2 s0_2 x1003_2 s0_4 s0_5 _ _ x10_2 t374 t377 t378 t379 w0 _ ?side1 ?side2 ?side3 ?side4 ?side5 A30.out).mono ?_); (case side1 => repeat ((with_reducible (exact HI0.out)))); (case side2 => repeat ((with_reducible (exact HB.out)))); (case side3 => repeat ((exact (Kd.R_reads' HO_10.out).2.2))); (case side4 => exact (Kd.R_reads' HO_10.out).2.1); (case side5 => exact far_slice (IsS93.own_ne HI0.out HO_10.out (by decide))); rintro e w32 ⟨v375, rfl, ho0, hi, hb, hk⟩; refine ⟨_, rfl, ?_⟩; have n0_ := Aside0.mk (Kd.R_mono (Kd.R_told (Kd.R_oldK (IsS93.apart (show IsS93 w0 _ g x1000_2 x1001_2 s0_2 x1003_2 s0_4 s0_5 from by exact HI0.out) HO_10.out (by decide)) hk) (Kd.R_base ho0)) (fun _ h_ => h_.1)); have n1_ := Aside0.mk (Kd.R_lower (Kd.R_new' ho0 (Kd.R_lt HO_10.out)) (keep_size (w := w) (g := g) (row := none) HK.out)); have n2_ := Aside0.mk (KeepBut.trans HK.out hk (.inl rfl)); have n3_ := Aside0.mk (hb); have n4_ := Aside0.mk (hi); clear HO_10; clear HK; clear HB; clear HI0; have HO_10 := n0_; have HO376 := n1_; have HK := n2_; have HB := n3_; have HI0 := n4_; clear n0_ n1_ n2_ n3_ n4_; ((clear hb)); (skip); ((clear hk)); ((clear hi)); ((clear ho0))))
          go_ret2
          exact ⟨_, by rfl, by exact Kd.R_mono HO376.out (fun _ hk => trivial), by exact HI0.out, by exact HB.out, by exact HK.out⟩
      ·rw [if_neg c10] at H
       exact absurd H (by simp)
     ·rw [if_neg c9] at H
      exact absurd H (by simp)
 ·rw [if_neg c5] at H
  have c5b0 : ((l1.length : Int) == (l2.length : Int)) = false := beq_eq_false_iff_ne.mpr c5
  have c5b1 : ((l1.length : Int) != (l2.length : Int)) = true := bne_iff_ne.mpr c5
  have c5b2 : (l1.length == l2.length) = false := by (simp at c5 ⊢; omega)
  simp only [Option.some.injEq, Prod.mk.injEq] at H
  obtain ⟨rfl, rfl, rfl, rfl, rfl⟩ := H
  go_enter Try.func24, Try.ntmps24
  go_wp2
  go_ret2
  exact ⟨_, by rfl, by (exact Kd.R_nil _ _ _ _ _), by exact HI0.out, by exact HB.out, by exact HK.out⟩
def poly_Eval.l0 : Nat → List Int → Int → Int → Int → Int → Int → List Int → Int → List Int → List Int → Option (Int × Int × Int × Int)
 | 0, _, _, _, _, _, _, _, _, _, _ => none
 | k + 1, x1, x2, x7, x8, x1000, x1001, x1002, x1003, x1004, x1005 => if x8 ≥ 0 then ((field_GF_Mul.f x1000 x1001 x1002 x1003 x1004 x1005 x7 x2).bind fun bt396 => (if 0 ≤ x8 then (if x8 < (x1.length : Int) then ((field_GF_Add.f k bt396.2.1 bt396.2.2.1 x1002 bt396.2.2.2 x1004 x1005 bt396.1 (rd x1 x8)).bind fun bt401 => (poly_Eval.l0 k x1 x2 bt401.1 (wrap64 (x8 - 1)) bt401.2.1 bt401.2.2.1 x1002 bt401.2.2.2 x1004 x1005)) else (none)) else (none))) else (some (x7, x1000, x1001, x1003))
def poly_Eval.f (k : Nat) (s0_0 : Int) (s0_1 : Int) (s0_2 : List Int) (s0_3 : Int) (s0_4 : List Int) (s0_5 : List Int) (l1 : List Int) (a2 : Int) : Option (Int × Int × Int × Int) := poly_Eval.l0 k l1 a2 0 (wrap64 ((l1.length : Int) - 1)) s0_0 s0_1 s0_2 s0_3 s0_4 s0_5
def poly_Eval.T5 : Bool × List (List Nat × List Nat) := (true, [([], []), ([], []), ([], []), ([], []), ([1, 2, 3], [1, 2, 3]), ([], []), ([], []), ([5, 6], [5, 6]), ([7], [7]), ([0, 4, 8, 4], [0, 4, 8]), ([9, 9, 0, 1, 2, 3, 4, 5, 6, 7, 8, 9], [2, 9])])
def poly_Eval.B5 : List Nat := [0, 0, 0, 0, 14, 0, 0, 96, 224, 511, 1023]
theorem poly_Eval.tab5 : rtab .any (opsOf Try.f52 5) = poly_Eval.T5 := by kernel_rfl
theorem poly_Eval.bits5 : waitsOk poly_Eval.T5.2 poly_Eval.B5 = true := by kernel_rfl
set_option maxHeartbeats 8000000 in
set_option maxRecDepth 100000 in
theorem poly_Eval.calls (k : Nat) (g : Nat) (s0_0 : Int) (s0_1 : Int) (s0_2 : List Int) (s0_3 : Int) (s0_4 : List Int) (s0_5 : List Int) (A1 : Option Addr) (c1 : Nat) (l1 : List Int) (a2 : Int) (r1 : Int) (r2 : Int) (r3 : Int) (r4 : Int) (w0 w : World) (hI : IsS93 w0 w g s0_0 s0_1 s0_2 s0_3 s0_4 s0_5) (hB : Below w0.heap.size w0 w) (hr1 : Kd.C (Kd.int .i64) w A1 l1.length l1) (hc1 : l1.length ≤ c1) (hf1 : ∀ ad, A1 = some ad → 0 < l1.length → ad.block ≠ g) (h : poly_Eval.f k s0_0 s0_1 s0_2 s0_3 s0_4 s0_5 l1 a2 = some (r1, r2, r3, r4)) :
  Calls Try.prog 52 #[.pointer (some ⟨g, 0, none⟩), .slice A1 l1.length c1, .int .i64 a2] w fun e w' => e = .returned (.int .i64 r1) ∧ IsS93 w0 w' g r2 r3 s0_2 r4 s0_4 s0_5 ∧ Below w0.heap.size w0 w' ∧ KeepBut w w' g none := by
 have HR1 := Aside0.mk hr1
 have HC1 := Aside0.mk hc1
 clear hr1 hc1
 have HI0 := Aside0.mk hI
 have HK := Aside0.mk (KeepBut.refl w g none)
 have HL := Aside0.mk hB.size
 clear hI
 have HW0 := Aside0.mk hB.size
 have HB := Aside0.mk hB
 clear hB
 have H : (poly_Eval.l0 k l1 a2 0 (wrap64 ((l1.length : Int) - 1)) s0_0 s0_1 s0_2 s0_3 s0_4 s0_5) = some (r1, r2, r3, r4) := h
 clear h
 have H' := Aside0.mk H
 clear H
 go_enter Try.func52, Try.ntmps52
 go_wp2
 go_loopg [7, 8] k (fun kq v7 v8 w' => ∃ (x7_1 : Int) (x8_1 : Int) (x1000_1 : Int) (x1001_1 : Int) (x1003_1 : Int), v7 = .int .i64 x7_1 ∧ v8 = .int .i64 x8_1 ∧ Aside0 (poly_Eval.l0 kq l1 a2 x7_1 x8_1 x1000_1 x1001_1 s0_2 x1003_1 s0_4 s0_5 = some (r1, r2, r3, r4)) ∧ Aside0 (kq ≤ k) ∧ Aside0 (IsS93 w0 w' g x1000_1 x1001_1 s0_2 x1003_1 s0_4 s0_5) ∧ Aside0 (KeepBut w w' g none) ∧ Aside0 (Below w0.heap.size w0 w'))
 case atStart => exact ⟨(0), (wrap64 ((l1.length : Int) - 1)), (s0_0), (s0_1), (s0_3), (by rfl), (by rfl), H', ⟨Nat.le_refl _⟩, ⟨HI0.out⟩, ⟨HK.out⟩, ⟨HB.out⟩⟩
 case round =>
  clear H'
  obtain ⟨x7_1, x8_1, x1000_1, x1001_1, x1003_1, rfl, rfl, HA, HK1, HI0, HK, HB⟩ := hrel
  cases gk with
  | zero => exact absurd HA.out (by simp [poly_Eval.l0])
  | succ k1 =>
   have H := HA.out
   clear HA
   simp only [poly_Eval.l0] at H
   by_cases c4 : x8_1 ≥ 0
   ·rw [if_pos c4] at H
    have c4b0 : decide (0 ≤ x8_1) = true := decide_eq_true c4
    clear c4
    replace H := Option.bind_eq_some_iff.mp H
    obtain ⟨⟨t396, t397, t398, t399⟩, A50, H⟩ := H
    replace H : (if 0 ≤ x8_1 then (if x8_1 < (l1.length : Int) then ((field_GF_Add.f k1 t397 t398 s0_2 t399 s0_4 s0_5 t396 (rd l1 x8_1)).bind fun bt401 => (poly_Eval.l0 k1 l1 a2 bt401.1 (wrap64 (x8_1 - 1)) bt401.2.1 bt401.2.2.1 s0_2 bt401.2.2.2 s0_4 s0_5)) else (none)) else (none)) = some (r1, r2, r3, r4) := H
    have A5 := Aside0.mk A50
    clear A50
    by_cases c6 : 0 ≤ x8_1
    ·rw [if_pos c6] at H
     have c6b0 : decide (0 ≤ x8_1) = true := decide_eq_true c6
     clear c6
     by_cases c7 : x8_1 < (l1.length : Int)
     ·rw [if_pos c7] at H
      have c7b0 : decide (x8_1 < (l1.length : Int)) = true := decide_eq_true c7
      clear c7
      replace H := Option.bind_eq_some_iff.mp H
      obtain ⟨⟨t401, t402, t403, t404⟩, A80, H⟩ := H
      replace H : (poly_Eval.l0 k1 l1 a2 t401 (wrap64 (x8_1 - 1)) t402 t403 s0_2 t404 s0_4 s0_5) = some (r1, r2, r3, r4) := H
      have A8 := Aside0.mk A80
      clear A80
      have H' := Aside0.mk H
      clear H
      (go_wp2)
      have n0_ := Aside0.mk (IsS93.drew HI0.out)
      have n1_ := Aside0.mk (keep_drew HK.out)
      have n2_ := Aside0.mk (below_drew1 HB.out)
      clear HI0 HK HB
      have HI0 := n0_
      have HK := n1_
      have HB := n2_
      clear n0_ n1_ n2_
      have p400 : 0 ≤ (x8_1 : Int) := of_decide_eq_true (by (with_reducible assumption))
      have q400 : x8_1 < (l1.length : Int) := of_decide_eq_true (by (with_reducible assumption))
      obtain ⟨ad400, e400, hx400_0⟩ := Kd.at_int HR1.out x8_1 p400 q400
      have hw400_0 := hx400_0
      cases e400
      have hne400_0 := (show ((ad400.add (x8_1).toNat) : Addr).block ≠ g from by (rw [add_block]; exact hf1 ad400 rfl (by omega)))
      replace hx400_0 := keep_cell HK.out hx400_0 (by (rw [add_block]; exact hf1 _ rfl (by omega)))
      replace p400 := eq_true p400
      replace q400 := eq_true q400
      refine start_ (n := 11) (S := fun w' => w'.cell? (ad400.add (x8_1).toNat) = some (.int .i64 (rd l1 x8_1))) (ds := []) (bm 11 0) (by kernel_rfl) rfl rfl ((keep_cell HK.out hw400_0 hne400_0)) (fun hHeld => ?_); refine with_tabW poly_Eval.tab5 poly_Eval.bits5 (fun HT_ HW_ => ?_)
      generalize wr.drew = w9 at HI0 HK HB hx400_0 hHeld ⊢
      refine pure_ (i := 0) (N := some 16) (v := ?_) (a' := ?_) (bm 11 1) rfl rfl (any_of HT_.out (by kernel_rfl)) (fun _ _ _ h => h) (Or.inl ⟨by rfl, ?_⟩) ?_ ?_;rotate_left;(intro w';go_simp;with_reducible rfl);rotate_left;(simp only [ps_];rfl)
      refine pure_ (i := 1) (N := some 17) (v := ?_) (a' := ?_) (bm 11 3) rfl rfl (any_of HT_.out (by kernel_rfl)) (fun _ _ _ h => h) (Or.inl ⟨by rfl, ?_⟩) ?_ ?_;rotate_left;(intro w';go_simp;with_reducible rfl);rotate_left;(simp only [ps_];rfl)
      refine pure_ (i := 2) (N := some 18) (v := ?_) (a' := ?_) (bm 11 7) rfl rfl (any_of HT_.out (by kernel_rfl)) (fun _ _ _ h => h) (Or.inl ⟨by rfl, ?_⟩) ?_ ?_;rotate_left;(intro w';go_simp;with_reducible rfl);rotate_left;(simp only [ps_];rfl)
      refine pure_ (i := 3) (N := some 19) (v := ?_) (a' := ?_) (bm 11 15) rfl rfl (any_of HT_.out (by kernel_rfl)) (fun _ _ _ h => h) (Or.inl ⟨by rfl, ?_⟩) ?_ ?_;rotate_left;(intro w';go_simp;with_reducible rfl);rotate_left;(simp only [ps_];rfl)
      refine pure_ (i := 5) (N := some 21) (v := ?_) (a' := ?_) (bm 11 47) rfl rfl (any_of HT_.out (by kernel_rfl)) (fun _ _ _ h => h) (Or.inl ⟨by rfl, ?_⟩) ?_ ?_;rotate_left;(intro w';go_simp;with_reducible rfl);rotate_left;(simp only [ps_];rfl)
      refine pure_ (i := 6) (N := some 22) (v := ?_) (a' := ?_) (bm 11 111) rfl rfl (any_of HT_.out (by kernel_rfl)) (fun _ _ _ h => h) (Or.inl ⟨by rfl, ?_⟩) ?_ ?_;rotate_left;(intro w';go_simp;with_reducible rfl);rotate_left;(simp only [ps_];rfl)
      refine pure_ (i := 7) (N := some 23) (v := ?_) (a' := ?_) (bm 11 239) rfl rfl (any_of HT_.out (by kernel_rfl)) (fun _ _ _ h => h) (Or.inl ⟨by rfl, ?_⟩) ?_ ?_;rotate_left;(intro w';go_simp;with_reducible rfl);rotate_left;(simp only [ps_];rfl)
      refine take_ (i := 8) (N := some 24) (v := ?_) (a' := ?_) (bm 11 495) rfl rfl (take_ofW HT_.out HW_.out (by kernel_rfl)) (fun _ _ _ h => h) (Or.inl ⟨by rfl, ?_⟩) hHeld ?_ ?_
      rotate_left
      ·intro w' s0
       go_simp
       with_reducible rfl
      rotate_left
      ·simp only [Act.put, List.setIfInBounds_toArray, List.set_cons_zero, List.set_cons_succ, i64_w, i32_w]
       rfl
      refine one_ (i := 4) (N := some 20) (bm 11 511) rfl rfl (one_of HT_.out (by kernel_rfl)) (by decide) (fun K hK => ?_)
      refine goes_ Try.func54 (by kernel_rfl) rfl #[.pointer (some ⟨g, 0, none⟩), .int .i64 x7_1, .int .i64 a2] (by rfl) rfl rfl (by ((simp only [List.map_toArray, List.map_cons, List.map_nil])); (rfl)) ?_
      with_reducible refine (field_GF_Mul.calls g x1000_1 x1001_1 s0_2 x1003_1 s0_4 s0_5 x7_1 a2 t396 t397 t398 t399 w0 _ ?side1 ?side2 A5.out).mono ?_
      (case side1 => repeat ((with_reducible (exact HI0.out))))
      (case side2 => repeat ((with_reducible (exact HB.out))))
      rintro e w10 ⟨rfl, hi, hb, hk⟩
      refine ⟨_, rfl, ?_⟩
      have n0_ := Aside0.mk (KeepBut.trans HK.out hk (.inl rfl))
      have n1_ := Aside0.mk (hb)
      have n2_ := Aside0.mk (hi)
      clear HK HB HI0
      have HK := n0_
      have HB := n1_
      have HI0 := n2_
      clear n0_ n1_ n2_
      ((clear hb))
      ((clear hk))
      ((clear hi))
      refine hK.out _ _ ((keep_cell HK.out hw400_0 hne400_0)) (fun hHeld => ?_)
      clear hK K
      refine norm_ (a' := ?_) ?_ ?_
      rotate_left
      ·show Act.put _ (some 20) _ = _
       simp only [Act.put, List.setIfInBounds_toArray, List.set_cons_zero, List.set_cons_succ, i64_w, i32_w]
       rfl
      refine one_ (i := 9) (N := some 25) (bm 11 1023) rfl rfl (one_of HT_.out (by kernel_rfl)) (by decide) (fun K hK => ?_)
      refine goes_ Try.func53 (by kernel_rfl) rfl #[.pointer (some ⟨g, 0, none⟩), .int .i64 t396, .int .i64 (rd l1 x8_1)] (by rfl) rfl rfl (by ((simp only [List.map_toArray, List.map_cons, List.map_nil])); (rfl)) ?_
      with_reducible refine (field_GF_Add.calls k1 g t397 t398 s0_2 t399 s0_4 s0_5 t396 (rd l1 x8_1) t401 t402 t403 t404 w0 _ ?side1 ?side2 A8.out).mono ?_
      (case side1 => repeat ((with_reducible (exact HI0.out))))
      (case side2 => repeat ((with_reducible (exact HB.out))))
      rintro e w11 ⟨rfl, hi, hb, hk⟩
      refine ⟨_, rfl, ?_⟩
      have n0_ := Aside0.mk (KeepBut.trans HK.out hk (.inl rfl))
      have n1_ := Aside0.mk (hb)
      have n2_ := Aside0.mk (hi)
      clear HK HB HI0
      have HK := n0_
      have HB := n1_
      have HI0 := n2_
      clear n0_ n1_ n2_
      ((clear hb))
      ((clear hk))
      ((clear hi))
      refine hK.out _ _ ((keep_cell HK.out hw400_0 hne400_0)) (fun hHeld => ?_)
      clear hK K
      refine norm_ (a' := ?_) ?_ ?_
      rotate_left
      ·show Act.put _ (some 25) _ = _
       simp only [Act.put, List.setIfInBounds_toArray, List.set_cons_zero, List.set_cons_succ, i64_w, i32_w]
       rfl
      refine pure_ (i := 10) (N := some 7) (v := ?_) (a' := ?_) (bm 11 2047) rfl rfl (any_of HT_.out (by kernel_rfl)) (fun _ _ _ h => h) (Or.inl ⟨by rfl, ?_⟩) ?_ ?_;rotate_left;(intro w';go_simp;with_reducible rfl);rotate_left;(simp only [ps_];rfl)
      refine done_ (done_of HT_.out (by kernel_rfl)) ?_
      (go_wp2)
      go_roundg k1
      case measure => have := HK1.out; omega
      case rel => exact ⟨(t401), (wrap64 (x8_1 - 1)), (t402), (t403), (t404), (by rfl), (by rfl), H', ⟨by have := HK1.out; omega⟩, ⟨HI0.out⟩, ⟨HK.out⟩, ⟨HB.out⟩⟩
     ·rw [if_neg c7] at H
      exact absurd H (by simp)
    ·rw [if_neg c6] at H
     exact absurd H (by simp)
   ·rw [if_neg c4] at H
    have c4b0 : decide (0 ≤ x8_1) = false := decide_eq_false c4
    clear c4
    simp only [Option.some.injEq, Prod.mk.injEq] at H
    obtain ⟨rfl, rfl, rfl, rfl⟩ := H
    go_wp2
    go_ret
    exact ⟨by rfl, by exact HI0.out, by exact HB.out, by exact HK.out⟩
def field_GF_Div.f (s0_0 : Int) (s0_1 : Int) (s0_2 : List Int) (s0_3 : Int) (s0_4 : List Int) (s0_5 : List Int) (a1 : Int) (a2 : Int) : Option (Int × Int × Int × Int × Int) := (field_GF_Inv.f s0_0 s0_1 s0_2 s0_3 s0_4 s0_5 a2).bind fun bt405 => (if bt405.2.1 = 0 then ((field_GF_Mul.f bt405.2.2.1 bt405.2.2.2.1 s0_2 bt405.2.2.2.2 s0_4 s0_5 a1 bt405.1).bind fun bt410 => (some (bt410.1, 0, bt410.2.1, bt410.2.2.1, bt410.2.2.2))) else (some (0, bt405.2.1, bt405.2.2.1, bt405.2.2.2.1, bt405.2.2.2.2)))
set_option maxHeartbeats 8000000 in
set_option maxRecDepth 100000 in
theorem field_GF_Div.calls (g : Nat) (s0_0 : Int) (s0_1 : Int) (s0_2 : List Int) (s0_3 : Int) (s0_4 : List Int) (s0_5 : List Int) (a1 : Int) (a2 : Int) (r1 : Int) (r2 : Int) (r3 : Int) (r4 : Int) (r5 : Int) (w0 w : World) (hI : IsS93 w0 w g s0_0 s0_1 s0_2 s0_3 s0_4 s0_5) (hB : Below w0.heap.size w0 w) (h : field_GF_Div.f s0_0 s0_1 s0_2 s0_3 s0_4 s0_5 a1 a2 = some (r1, r2, r3, r4, r5)) :
  Calls Try.prog 61 #[.pointer (some ⟨g, 0, none⟩), .int .i64 a1, .int .i64 a2] w fun e w' => e = .returned (.tuple #[.int .i64 r1, .int .i64 r2]) ∧ IsS93 w0 w' g r3 r4 s0_2 r5 s0_4 s0_5 ∧ Below w0.heap.size w0 w' ∧ KeepBut w w' g none := by
 have HI0 := Aside0.mk hI
 have HK := Aside0.mk (KeepBut.refl w g none)
 have HL := Aside0.mk hB.size
 clear hI
 have HW0 := Aside0.mk hB.size
 have HB := Aside0.mk hB
 clear hB
 have H : ((field_GF_Inv.f s0_0 s0_1 s0_2 s0_3 s0_4 s0_5 a2).bind fun bt405 => (if bt405.2.1 = 0 then ((field_GF_Mul.f bt405.2.2.1 bt405.2.2.2.1 s0_2 bt405.2.2.2.2 s0_4 s0_5 a1 bt405.1).bind fun bt410 => (some (bt410.1, 0, bt410.2.1, bt410.2.2.1, bt410.2.2.2))) else (some (0, bt405.2.1, bt405.2.2.1, bt405.2.2.2.1, bt405.2.2.2.2)))) = some (r1, r2, r3, r4, r5) := h
 clear h
 replace H := Option.bind_eq_some_iff.mp H
 obtain ⟨⟨t405, t406, t407, t408, t409⟩, A40, H⟩ := H
 replace H : (if t406 = 0 then ((field_GF_Mul.f t407 t408 s0_2 t409 s0_4 s0_5 a1 t405).bind fun bt410 => (some (bt410.1, 0, bt410.2.1, bt410.2.2.1, bt410.2.2.2))) else (some (0, t406, t407, t408, t409))) = some (r1, r2, r3, r4, r5) := H
 have A4 := Aside0.mk A40
 clear A40
 by_cases c5 : t406 = 0
 ·rw [if_pos c5] at H
  have c5b0 : (t406 == 0) = true := beq_iff_eq.mpr c5
  have c5b1 : (t406 != 0) = false := bne_eq_false_iff_eq.mpr c5
  clear c5
  replace H := Option.bind_eq_some_iff.mp H
  obtain ⟨⟨t410, t411, t412, t413⟩, A60, H⟩ := H
  replace H : (some (t410, 0, t411, t412, t413)) = some (r1, r2, r3, r4, r5) := H
  have A6 := Aside0.mk A60
  clear A60
  simp only [Option.some.injEq, Prod.mk.injEq] at H
  obtain ⟨rfl, rfl, rfl, rfl, rfl⟩ := H
  go_enter Try.func61, Try.ntmps61
  go_wp2_with (first | ((with_reducible refine gate_callee (f := 47) rfl ?_); refine goesL_ (some 13) rfl rfl Try.func47 (by kernel_rfl) rfl #[.pointer (some ⟨g, 0, none⟩), .int .i64 a2] rfl (by ((simp only [List.map_toArray, List.map_cons, List.map_nil])); (rfl)) ?_; (with_reducible refine (field_GF_Inv.calls g s0_0 s0_1 s0_2 s0_3 s0_4 s0_5 a2 t405 t406 t407 t408 t409 w0 _ ?side1 ?side2 A4.out).mono ?_); (case side1 => repeat ((with_reducible (exact HI0.out)))); (case side2 => repeat ((with_reducible (exact HB.out)))); rintro e w7 ⟨rfl, hi, hb, hk⟩; refine ⟨_, rfl, ?_⟩; have n0_ := Aside0.mk (KeepBut.trans HK.out hk (.inl rfl)); have n1_ := Aside0.mk (hb); have n2_ := Aside0.mk (hi); clear HK; clear HB; clear HI0; have HK := n0_; have HB := n1_; have HI0 := n2_; clear n0_ n1_ n2_; ((clear hb)); (skip); ((clear hk)); ((clear hi))) | ((with_reducible refine gate_callee (f := 54) rfl ?_); refine goesL_ (some 22) rfl rfl Try.func54 (by kernel_rfl) rfl #[.pointer (some ⟨g, 0, none⟩), .int .i64 a1, .int .i64 t405] rfl (by ((simp only [List.map_toArray, List.map_cons, List.map_nil])); (rfl)) ?_; (with_reducible refine (field_GF_Mul.calls g t407 t408 s0_2 t409 s0_4 s0_5 a1 t405 t410 t411 t412 t413 w0 _ ?side1 ?side2 A6.out).mono ?_); (case side1 => repeat ((with_reducible (exact HI0.out)))); (case side2 => repeat ((with_reducible (exact HB.out)))); rintro e w8 ⟨rfl, hi, hb, hk⟩; refine ⟨_, rfl, ?_⟩; have n0_ := Aside0.mk (KeepBut.trans HK.out hk (.inl rfl)); have n1_ := Aside0.mk (hb); have n2_ := Aside0.mk (hi); clear HK; clear HB; clear HI0; have HK := n0_; have HB := n1_; have HI0 := n2_; clear n0_ n1_ n2_; ((clear hb)); (skip); ((clear hk)); ((clear hi))))
  go_ret2
  exact ⟨by rfl, by exact HI0.out, by exact HB.out, by exact HK.out⟩
 ·rw [if_neg c5] at H
  have c5b0 : (t406 == 0) = false := beq_eq_false_iff_ne.mpr c5
  have c5b1 : (t406 != 0) = true := bne_iff_ne.mpr c5
  simp only [Option.some.injEq, Prod.mk.injEq] at H
  obtain ⟨rfl, rfl, rfl, rfl, rfl⟩ := H
  go_enter Try.func61, Try.ntmps61
  go_wp2_with (((with_reducible refine gate_callee (f := 47) rfl ?_); refine goesL_ (some 13) rfl rfl Try.func47 (by kernel_rfl) rfl #[.pointer (some ⟨g, 0, none⟩), .int .i64 a2] rfl (by ((simp only [List.map_toArray, List.map_cons, List.map_nil])); (rfl)) ?_; (with_reducible refine (field_GF_Inv.calls g s0_0 s0_1 s0_2 s0_3 s0_4 s0_5 a2 t405 t406 t407 t408 t409 w0 _ ?side1 ?side2 A4.out).mono ?_); (case side1 => repeat ((with_reducible (exact HI0.out)))); (case side2 => repeat ((with_reducible (exact HB.out)))); rintro e w9 ⟨rfl, hi, hb, hk⟩; refine ⟨_, rfl, ?_⟩; have n0_ := Aside0.mk (KeepBut.trans HK.out hk (.inl rfl)); have n1_ := Aside0.mk (hb); have n2_ := Aside0.mk (hi); clear HK; clear HB; clear HI0; have HK := n0_; have HB := n1_; have HI0 := n2_; clear n0_ n1_ n2_; ((clear hb)); (skip); ((clear hk)); ((clear hi))))
  go_ret2
  exact ⟨by rfl, by exact HI0.out, by exact HB.out, by exact HK.out⟩
end Go.Proofs.Ytkdakjlopheefaa.PA
end
section
namespace Go.Proofs.Ytkdakjlopheefaa.PA
open Go.RowKit Go.Proofs.YtkdakjlopheefaaW.PrintWords Go.Proofs.YtkdakjlopheefaaW.PrintLast Go.Proofs.YtkdakjlopheefaaW.PrintMore
set_option linter.unusedVariables false
theorem step_append_fresh {P : Program} {ops : Array Oper} {o : Oper} {a : Act} {w : World} {K : Act → World → Prop} {Q : Exit → Act → World → Prop}
    (hgd : o.guard = none) (s x : Operand) (t e : TypeId) (ho : o.op = Op.call { callee := Callee.builtin Builtin.append, args := #[s, x], argTypes := #[t, t] })
    (ht : P.underlying t = some (.slice e)) (hinfo : (P.info? e).map (fun i => (i.zero, i.size, i.bytes)) = some (some (.int .i64 0), 1, 8))
    (g : Nat) (A : Option Addr) (c : Nat) (md : List Int) (hs : a.eval s = .slice (some ⟨g, 0, none⟩) 0 0) (hx : a.eval x = .slice A md.length c)
    (hg : w.heap[g]? = some (.cells #[] e (0, 0))) (HC : Kd.C (Kd.int .i64) w A md.length md) (hl : md.length ≤ 8)
    (h : ∀ A1 c1 w1, Aside0 (Kd.C (Kd.int .i64) w1 A1 md.length md ∧ md.length ≤ c1 ∧ g < w.heap.size ∧ w.grownBy w1 (some g) ∧ ∀ ad, A1 = some ad → ad.block = g ∨ w.heap.size ≤ ad.block) → K (a.put o.dst (.slice A1 md.length c1)) w1) :
    if Region.wanted o (yielded ops a.tmps) = true then Oper.wp P o a w K Q else K (a.put o.dst undef) w := by
  have hw : Region.wanted o (yielded ops a.tmps) = true := by simp [Region.wanted, hgd]
  have hR : Kd.R (Kd.int .i64) e w 0 (fun _ => True) (.slice (some ⟨g, 0, none⟩) 0 0) [] := by
    refine Kd.R_of_own ⟨rfl, .inr ⟨g, 0, #[], rfl, Nat.zero_le _, hg, Nat.le_refl _, by decide, rfl, rfl⟩⟩ (fun _ _ => trivial)
  refine Kd.R_append_rows_step (Kd.int .i64) (w0 := w) 0 hw s x t e (.int .i64 0) 8 ho ht hinfo rfl (by decide) (by decide) (.slice (some ⟨g, 0, none⟩) 0 0) [] md A md.length c (fun _ => True) (fun _ => False) hs hx hR HC (fun x cs hk => hk) (fun _ hk => hk.elim) (fun _ _ => trivial) (Below.refl _ _) (Nat.zero_le _) ?_ ?_
  · simp only [List.length_nil]; omega
  · intro v1 w1 h1 _ hgr hat
    obtain ⟨A1, c1, rfl, hc, hC⟩ := Kd.R_reads h1
    refine h A1 c1 w1 ⟨hC, hc, blk_lt hg, hgr, ?_⟩
    rintro ad rfl
    rcases hat with hat | ⟨b, hb, hl⟩
    · exact .inl (by simpa [Value.ownBlock] using hat)
    · exact .inr (by have hb' : ad.block = b := (by simpa [Value.ownBlock] using hb); omega)
theorem grown_below {w0 W w1 : World} {g : Nat} (h : Below w0.heap.size w0 W) (hg : w0.heap.size ≤ g) (HG : g ≤ W.heap.size) (k : W.grownBy w1 (some g)) : Below w0.heap.size w0 w1 :=
  below_weaken h hg ⟨k.os, k.tape, k.output, k.size, fun j hj => k.block j (Nat.lt_of_lt_of_le hj HG) (fun e => by injection e with e; omega)⟩
theorem blk_new1 (w : World) (a b : Obj) : ((w.alloc a).alloc b).heap[w.heap.size + 1]? = some b := by
  have h := blk_new (w.alloc a) b
  have e : (w.alloc a).heap.size = w.heap.size + 1 := by unfold World.alloc; exact Array.size_push _
  rwa [e] at h
end Go.Proofs.Ytkdakjlopheefaa.PA
end
section
namespace Go.Proofs.Ytkdakjlopheefaa.PA
open Go.RowKit Go.Proofs.YtkdakjlopheefaaW.PrintWords Go.Proofs.YtkdakjlopheefaaW.PrintLast Go.Proofs.YtkdakjlopheefaaW.PrintMore
attribute [local go_sem] max2_int min2_int max_two min_two max_three min_three max_four min_four
set_option linter.unusedVariables false
set_option linter.unusedSimpArgs false
def field_GF_Field.f (s0_0 : Int) (s0_1 : Int) (s0_2 : List Int) (s0_3 : Int) (s0_4 : List Int) (s0_5 : List Int) : Option (Int × Int × List Int × Int × Int × Int) := if s0_2.length ≤ 8 then some (s0_0, s0_1, s0_2, s0_0, s0_1, s0_3) else none
theorem keep7_of {B T C T2 : Nat} {x0 x1 x2 x3 x4 x5 : Value} {w0 W : World} (bk : w0.heap[B]? = some (.cells #[x0, x1, x2, x3, x4, x5] T (0, 0))) (h : Below w0.heap.size w0 W) (hx : ∃ y0 y1 y2, W.heap[C]? = some (.cells #[y0, y1, y2] T2 (0, 0))) :
  W.cell? ⟨B, 0, none⟩ = some x0 ∧ W.cell? ⟨B, 1, none⟩ = some x1 ∧ W.cell? ⟨B, 2, none⟩ = some x2 ∧ Aside0 (Below w0.heap.size w0 W) ∧ Aside0 (∃ y0 y1 y2, W.heap[C]? = some (.cells #[y0, y1, y2] T2 (0, 0))) :=
 ⟨(blk_cell (blk_below bk h) 0).trans rfl, (blk_cell (blk_below bk h) 1).trans rfl, (blk_cell (blk_below bk h) 2).trans rfl, ⟨h⟩, ⟨hx⟩⟩
theorem keep7_alloc {B T C T2 : Nat} {x0 x1 x2 x3 x4 x5 : Value} {w0 W : World} (bk : w0.heap[B]? = some (.cells #[x0, x1, x2, x3, x4, x5] T (0, 0)))
  (h : W.cell? ⟨B, 0, none⟩ = some x0 ∧ W.cell? ⟨B, 1, none⟩ = some x1 ∧ W.cell? ⟨B, 2, none⟩ = some x2 ∧ Aside0 (Below w0.heap.size w0 W) ∧ Aside0 (∃ y0 y1 y2, W.heap[C]? = some (.cells #[y0, y1, y2] T2 (0, 0)))) (o : Obj) :
  (W.alloc o).cell? ⟨B, 0, none⟩ = some x0 ∧ (W.alloc o).cell? ⟨B, 1, none⟩ = some x1 ∧ (W.alloc o).cell? ⟨B, 2, none⟩ = some x2 ∧ Aside0 (Below w0.heap.size w0 (W.alloc o)) ∧ Aside0 (∃ y0 y1 y2, (W.alloc o).heap[C]? = some (.cells #[y0, y1, y2] T2 (0, 0))) :=
 keep7_of bk (below_alloc h.2.2.2.1.out o) (by obtain ⟨y0, y1, y2, e⟩ := h.2.2.2.2.out; exact ⟨y0, y1, y2, blk_alloc e o⟩)
theorem keep7_grown {B T C T2 : Nat} {x0 x1 x2 x3 x4 x5 : Value} {w0 W w1 : World} {g : Nat} (bk : w0.heap[B]? = some (.cells #[x0, x1, x2, x3, x4, x5] T (0, 0)))
  (h : W.cell? ⟨B, 0, none⟩ = some x0 ∧ W.cell? ⟨B, 1, none⟩ = some x1 ∧ W.cell? ⟨B, 2, none⟩ = some x2 ∧ Aside0 (Below w0.heap.size w0 W) ∧ Aside0 (∃ y0 y1 y2, W.heap[C]? = some (.cells #[y0, y1, y2] T2 (0, 0)))) {p : Prop} (k : Aside0 (p ∧ g < W.heap.size ∧ g ≠ C ∧ W.grownBy w1 (some g))) (hg : w0.heap.size ≤ g) :
  w1.cell? ⟨B, 0, none⟩ = some x0 ∧ w1.cell? ⟨B, 1, none⟩ = some x1 ∧ w1.cell? ⟨B, 2, none⟩ = some x2 ∧ Aside0 (Below w0.heap.size w0 w1) ∧ Aside0 (∃ y0 y1 y2, w1.heap[C]? = some (.cells #[y0, y1, y2] T2 (0, 0))) :=
 keep7_of bk (grown_below h.2.2.2.1.out hg (Nat.le_of_lt k.out.2.1) k.out.2.2.2) (by obtain ⟨y0, y1, y2, e⟩ := h.2.2.2.2.out; exact ⟨y0, y1, y2, (k.out.2.2.2.block C (blk_lt e) (fun e1 => by injection e1 with e1; exact k.out.2.2.1 e1.symm)).trans e⟩)
theorem keep7_set {B T C T2 : Nat} {x0 x1 x2 x3 x4 x5 : Value} {w0 W : World} (bk : w0.heap[B]? = some (.cells #[x0, x1, x2, x3, x4, x5] T (0, 0)))
  (h : W.cell? ⟨B, 0, none⟩ = some x0 ∧ W.cell? ⟨B, 1, none⟩ = some x1 ∧ W.cell? ⟨B, 2, none⟩ = some x2 ∧ Aside0 (Below w0.heap.size w0 W) ∧ Aside0 (∃ y0 y1 y2, W.heap[C]? = some (.cells #[y0, y1, y2] T2 (0, 0)))) (hg : w0.heap.size ≤ C) (v0 v1 v2 : Value) :
  (((W.setCell ⟨C, 0, none⟩ v0).setCell ⟨C, 1, none⟩ v1).setCell ⟨C, 2, none⟩ v2).cell? ⟨B, 0, none⟩ = some x0 ∧ (((W.setCell ⟨C, 0, none⟩ v0).setCell ⟨C, 1, none⟩ v1).setCell ⟨C, 2, none⟩ v2).cell? ⟨B, 1, none⟩ = some x1 ∧ (((W.setCell ⟨C, 0, none⟩ v0).setCell ⟨C, 1, none⟩ v1).setCell ⟨C, 2, none⟩ v2).cell? ⟨B, 2, none⟩ = some x2 ∧
   Aside0 (Below w0.heap.size w0 (((W.setCell ⟨C, 0, none⟩ v0).setCell ⟨C, 1, none⟩ v1).setCell ⟨C, 2, none⟩ v2)) ∧ Aside0 (∃ y0 y1 y2, (((W.setCell ⟨C, 0, none⟩ v0).setCell ⟨C, 1, none⟩ v1).setCell ⟨C, 2, none⟩ v2).heap[C]? = some (.cells #[y0, y1, y2] T2 (0, 0))) :=
 keep7_of bk (((h.2.2.2.1.out.setCell hg _).setCell hg _).setCell hg _) (by
  obtain ⟨y0, y1, y2, e⟩ := h.2.2.2.2.out
  exact ⟨v0, v1, v2, blk_set (blk_set (blk_set e 0 v0) 1 v1) 2 v2⟩)
theorem keep7_below {a b c d : Prop} {w0 W : World} (h : a ∧ b ∧ c ∧ Aside0 (Below w0.heap.size w0 W) ∧ d) : Below w0.heap.size w0 W := h.2.2.2.1.out
theorem keep7_box {a b c d : Prop} {C T2 : Nat} {W : World} (h : a ∧ b ∧ c ∧ d ∧ Aside0 (∃ y0 y1 y2, W.heap[C]? = some (.cells #[y0, y1, y2] T2 (0, 0)))) : ∃ y0 y1 y2, W.heap[C]? = some (.cells #[y0, y1, y2] T2 (0, 0)) := h.2.2.2.2.out
theorem keep7_lt {a b c d : Prop} {C T2 : Nat} {W : World} (h : a ∧ b ∧ c ∧ d ∧ Aside0 (∃ y0 y1 y2, W.heap[C]? = some (.cells #[y0, y1, y2] T2 (0, 0)))) : C < W.heap.size := by
 obtain ⟨y0, y1, y2, e⟩ := h.2.2.2.2.out
 exact blk_lt e
theorem step_append_own {P : Program} {ops : Array Oper} {o : Oper} {a : Act} {w : World} {K : Act → World → Prop} {Q : Exit → Act → World → Prop}
  (hgd : o.guard = none) (s x : Operand) (t e : TypeId) (ho : o.op = Op.call { callee := Callee.builtin Builtin.append, args := #[s, x], argTypes := #[t, t] })
  (ht : P.underlying t = some (.slice e)) (hinfo : (P.info? e).map (fun i => (i.zero, i.size, i.bytes)) = some (some (.int .i64 0), 1, 8))
  (g base B : Nat) (A : Option Addr) (c : Nat) (md : List Int) (hs : a.eval s = .slice (some ⟨g, 0, none⟩) 0 0) (hx : a.eval x = .slice A md.length c)
  (hg : w.heap[g]? = some (.cells #[] e (0, 0))) (hgB : base ≤ g ∧ g ≠ B ∧ B < w.heap.size) (HC : Kd.C (Kd.int .i64) w A md.length md) (hl : md.length ≤ 8)
  (h : ∀ A1 c1 w1, Aside0 (Kd.R (Kd.int .i64) e w1 base (fun k => k ≠ B) (.slice A1 md.length c1) md ∧ g < w.heap.size ∧ g ≠ B ∧ w.grownBy w1 (some g)) → K (a.put o.dst (.slice A1 md.length c1)) w1) :
  if Region.wanted o (yielded ops a.tmps) = true then Oper.wp P o a w K Q else K (a.put o.dst undef) w := by
 have hw : Region.wanted o (yielded ops a.tmps) = true := by simp [Region.wanted, hgd]
 have hR : Kd.R (Kd.int .i64) e w base (fun k => k ≠ B) (.slice (some ⟨g, 0, none⟩) 0 0) [] := by
  refine Kd.R_of_own ⟨rfl, .inr ⟨g, 0, #[], rfl, hgB.1, hg, Nat.le_refl _, by decide, rfl, rfl⟩⟩ (fun k hk => ?_)
  have : g = k := by simpa [Value.ownBlock] using hk
  rw [← this]
  exact hgB.2.1
 refine Kd.R_append_rows_step (Kd.int .i64) (w0 := w) base hw s x t e (.int .i64 0) 8 ho ht hinfo rfl (by decide) (by decide) (.slice (some ⟨g, 0, none⟩) 0 0) [] md A md.length c (fun k => k ≠ B) (fun _ => False) hs hx hR HC (fun x cs hk => hk) (fun _ hk => hk.elim) (fun k hk => by have := hgB.2.2; omega) (Below.refl _ _) (by have := blk_lt hg; omega) ?_ ?_
 ·simp only [List.length_nil]; omega
 ·intro v1 w1 h1 _ hgr hat
  obtain ⟨A1, c1, rfl, hc, hC⟩ := Kd.R_reads h1
  exact h A1 c1 w1 ⟨h1, blk_lt hg, hgB.2.1, hgr⟩
set_option maxHeartbeats 8000000 in
set_option maxRecDepth 100000 in
theorem field_GF_Field.calls (g : Nat) (s0_0 : Int) (s0_1 : Int) (s0_2 : List Int) (s0_3 : Int) (s0_4 : List Int) (s0_5 : List Int) (r1 : Int) (r2 : Int) (r3 : List Int) (r4 : Int) (r5 : Int) (r6 : Int) (w0 w : World) (hI : IsS93 w0 w g s0_0 s0_1 s0_2 s0_3 s0_4 s0_5) (hB : Below w0.heap.size w0 w) (h : field_GF_Field.f s0_0 s0_1 s0_2 s0_3 s0_4 s0_5 = some (r1, r2, r3, r4, r5, r6)) :
  Calls Try.prog 89 #[.pointer (some ⟨g, 0, none⟩)] w fun e w' => ∃ v0_ : Value, e = .returned (.agg #[.int .i64 r1, .int .i64 r2, v0_]) ∧ Kd.R (Kd.int .i64) 3 w' w.heap.size (fun _ => True) v0_ r3 ∧ IsS93 w0 w' g r4 r5 s0_2 r6 s0_4 s0_5 ∧ Below w0.heap.size w0 w' ∧ KeepBut w w' g none := by
 unfold field_GF_Field.f at h
 by_cases hl : s0_2.length ≤ 8
 rotate_left
 ·rw [if_neg hl] at h
  exact absurd h (by simp)
 rw [if_pos hl] at h
 injection h with h
 injection h with e1 h
 injection h with e2 h
 injection h with e3 h
 injection h with e4 h
 injection h with e5 e6
 subst e1 e2 e3 e4 e5 e6
 have HI := Aside0.mk hI
 obtain ⟨A2, c2, A4, c4, A5, c5, hg, hge, hr2, hr4, hr5, hrest⟩ := hI
 have HG := Aside0.mk hg
 have HC := Aside0.mk (Kd.C_below hr2 hB)
 have HB := Aside0.mk hB
 have HL := Aside0.mk hl
 clear hg hge hr2 hr4 hr5 hrest hB hl
 go_enter Try.func89, Try.ntmps89
 go_wp2
 go_region_held_law (fun W => W.cell? ⟨g, 0, none⟩ = some (.int .i64 s0_0) ∧ W.cell? ⟨g, 1, none⟩ = some (.int .i64 s0_1) ∧ W.cell? ⟨g, 2, none⟩ = some (.slice A2 s0_2.length c2) ∧ Aside0 (Below w.heap.size w W) ∧ Aside0 (∃ y0 y1 y2, W.heap[w.heap.size]? = some (.cells #[y0, y1, y2] 24 (0, 0))))
  (first | (exact keep7_of HG.out (below_drew (below_alloc (Below.refl _ _) _)) ⟨_, _, _, blk_drew (blk_new _ _)⟩) | (exact keep7_alloc HG.out (by assumption) _) | (exact keep7_set HG.out (by assumption) (Nat.le_refl _) _ _ _) | (exact keep7_grown HG.out (by assumption) (by assumption) (Nat.le_succ _)))
  ((refine step_append_own rfl (.tmp 13) (.tmp 18) 22 3 rfl Try.underlying22 rfl _ w.heap.size w.heap.size A2 c2 s0_2 rfl rfl (by (exact blk_new1 _ _ _)) ⟨Nat.le_succ _, Nat.succ_ne_self _, keep7_lt (by assumption)⟩ (Kd.C_below HC.out (keep7_below (by assumption))) HL.out ?_; (intro A1 c1 w5 HA); (have HX := keep7_grown HG.out (by assumption) HA (Nat.le_succ _)); (obtain ⟨y0, y1, y2, hbox⟩ := keep7_box HX); (have d0 := (blk_cell hbox 0).trans rfl); (have d1 := (blk_cell hbox 1).trans rfl); (have d2 := (blk_cell hbox 2).trans rfl); (have f0 := blk_frozen hbox 0); (have f1 := blk_frozen hbox 1); (have f2 := blk_frozen hbox 2); (have HBX := Aside0.mk hbox); (clear hbox HX)))
 rename_i hHeld
 have HQ := Aside0.mk (keep7_below hHeld)
 have U : Aside0 (Kd.R (Kd.int .i64) 3 (((w5.setCell ⟨w.heap.size, 0, none⟩ (.int .i64 s0_0)).setCell ⟨w.heap.size, 1, none⟩ (.int .i64 s0_1)).setCell ⟨w.heap.size, 2, none⟩ (.slice A1 s0_2.length c1)) w.heap.size (fun _ => True) (.slice A1 s0_2.length c1) s0_2) :=
  ⟨Kd.R_mono (Kd.R_move HA.out.1 (fun k hk => ((Below.heap_setCell _ _ _ k hk).trans (Below.heap_setCell _ _ _ k hk)).trans (Below.heap_setCell _ _ _ k hk))) (fun _ _ => trivial)⟩
 have X := blk_set (blk_set (blk_set HBX.out 0 (.int .i64 s0_0)) 1 (.int .i64 s0_1)) 2 (.slice A1 s0_2.length c1)
 clear hHeld HA HBX d0 d1 d2 f0 f1 f2 HG HC HL
 generalize (((w5.setCell ⟨w.heap.size, 0, none⟩ (.int .i64 s0_0)).setCell ⟨w.heap.size, 1, none⟩ (.int .i64 s0_1)).setCell ⟨w.heap.size, 2, none⟩ (.slice A1 s0_2.length c1)) = W6 at HQ U X ⊢
 have d0 : W6.cell? ⟨w.heap.size, 0, none⟩ = some (.int .i64 s0_0) := (blk_cell X 0).trans rfl
 have d1 : W6.cell? ⟨w.heap.size, 1, none⟩ = some (.int .i64 s0_1) := (blk_cell X 1).trans rfl
 have d2 : W6.cell? ⟨w.heap.size, 2, none⟩ = some (.slice A1 s0_2.length c1) := (blk_cell X 2).trans rfl
 clear X
 go_wp2
 exact bodyPost_ret (v := .agg #[.int .i64 s0_0, .int .i64 s0_1, .slice A1 s0_2.length c1]) (by simp [results, Try.results89, go_sem, d0, d1, d2]) rfl ⟨_, rfl, U.out, HI.out.below HQ.out, below_step HB.out HQ.out, KeepBut.of_below HQ.out g none⟩
end Go.Proofs.Ytkdakjlopheefaa.PA
end
section
namespace Go.Proofs.Ytkdakjlopheefaa.PA
open Go.RowKit Go.Proofs.YtkdakjlopheefaaW.PrintWords Go.Proofs.YtkdakjlopheefaaW.PrintLast Go.Proofs.YtkdakjlopheefaaW.PrintMore
attribute [local go_sem] max2_int min2_int max_two min_two max_three min_three max_four min_four
set_option linter.unusedVariables false
set_option linter.unusedSimpArgs false
def poly_Derivative.l0 : Nat → List Int → List Int → Int → Int → Int → Int → Int → List Int → Int → List Int → List Int → Option (List Int × Int × Int × Int)
 | 0, _, _, _, _, _, _, _, _, _, _, _ => none
 | k + 1, x1, x5, x6, x19, x20, x1000, x1001, x1002, x1003, x1004, x1005 => if x20 < x19 then (if x6 = 0 then (none) else (if 0 ≤ (wrap64 (x20 + 1)) then (if (wrap64 (x20 + 1)) < (x1.length : Int) then ((field_GF_Mul.f x1000 x1001 x1002 x1003 x1004 x1005 (Int.tmod (wrap64 (x20 + 1)) x6) (rd x1 (wrap64 (x20 + 1)))).bind fun bt426 => (if 0 ≤ x20 then (if x20 < (x5.length : Int) then (poly_Derivative.l0 k x1 (x5.set (x20 : Int).toNat bt426.1) x6 x19 (wrap64 (x20 + 1)) bt426.2.1 bt426.2.2.1 x1002 bt426.2.2.2 x1004 x1005) else (none)) else (none))) else (none)) else (none))) else ((poly_trim.f k x5).bind fun t431 => (some (t431, x1000, x1001, x1003)))
def poly_Derivative.f (k : Nat) (s0_0 : Int) (s0_1 : Int) (s0_2 : List Int) (s0_3 : Int) (s0_4 : List Int) (s0_5 : List Int) (l1 : List Int) : Option (List Int × Int × Int × Int) := if (l1.length : Int) = 0 then (some (([] : List Int), s0_0, s0_1, s0_3)) else (if 0 ≤ (wrap64 ((l1.length : Int) - 1)) then (if (wrap64 ((l1.length : Int) - 1) : Int).toNat ≤ 35184372088832 then ((some (List.replicate (wrap64 ((l1.length : Int) - 1) : Int).toNat 0 : List Int)).bind fun y414 => ((field_GF_Field.f s0_0 s0_1 s0_2 s0_3 s0_4 s0_5).bind fun bt417 => (poly_Derivative.l0 k l1 y414 bt417.1 (y414.length : Int) 0 bt417.2.2.2.1 bt417.2.2.2.2.1 s0_2 bt417.2.2.2.2.2 s0_4 s0_5))) else (none)) else (none))
def poly_Derivative.T8 : Bool × List (List Nat × List Nat) := (true, [([], []), ([], []), ([], []), ([], []), ([3], [3]), ([], []), ([4, 5], [4, 5]), ([], []), ([], []), ([8], [8]), ([7, 9], [7, 9]), ([10], [10]), ([2, 6, 11], [2, 6, 11]), ([0, 1, 0, 1, 2, 3, 4, 5, 6, 7, 8, 9, 10, 11, 12], [0, 1]), ([13, 12, 12, 0, 1, 2, 3, 4, 5, 6, 7, 8, 9, 10, 11, 12], [12, 13])])
def poly_Derivative.B8 : List Nat := [0, 0, 0, 0, 8, 0, 56, 0, 0, 256, 896, 1920, 4092, 8191, 16383]
theorem poly_Derivative.tab8 : rtab .any (opsOf Try.f63 8) = poly_Derivative.T8 := by kernel_rfl
theorem poly_Derivative.bits8 : waitsOk poly_Derivative.T8.2 poly_Derivative.B8 = true := by kernel_rfl
set_option maxHeartbeats 8000000 in
set_option maxRecDepth 100000 in
theorem poly_Derivative.calls (k : Nat) (g : Nat) (s0_0 : Int) (s0_1 : Int) (s0_2 : List Int) (s0_3 : Int) (s0_4 : List Int) (s0_5 : List Int) (A1 : Option Addr) (c1 : Nat) (l1 : List Int) (r1 : List Int) (r2 : Int) (r3 : Int) (r4 : Int) (w0 w : World) (hI : IsS93 w0 w g s0_0 s0_1 s0_2 s0_3 s0_4 s0_5) (hB : Below w0.heap.size w0 w) (hr1 : Kd.C (Kd.int .i64) w A1 l1.length l1) (hc1 : l1.length ≤ c1) (hf1 : ∀ ad, A1 = some ad → 0 < l1.length → ad.block ≠ g) (h : poly_Derivative.f k s0_0 s0_1 s0_2 s0_3 s0_4 s0_5 l1 = some (r1, r2, r3, r4)) :
  Calls Try.prog 63 #[.pointer (some ⟨g, 0, none⟩), .slice A1 l1.length c1] w fun e w' => ∃ v0_ : Value, e = .returned (v0_) ∧ Kd.R (Kd.int .i64) 3 w' w.heap.size (fun _ => True) v0_ r1 ∧ IsS93 w0 w' g r2 r3 s0_2 r4 s0_4 s0_5 ∧ Below w0.heap.size w0 w' ∧ KeepBut w w' g none := by
 have hfd24 : ∀ (a b : Int) (v : Value) (w : World), (Instr.field 24 (.agg #[.int .i64 a, .int .i64 b, v]) 0).run Try.prog w = .ok (.int .i64 a) w := fun _ _ _ _ => by kernel_rfl
 have HR1 := Aside0.mk hr1
 have HC1 := Aside0.mk hc1
 clear hr1 hc1
 have HI0 := Aside0.mk hI
 have HK := Aside0.mk (KeepBut.refl w g none)
 have HL := Aside0.mk hB.size
 clear hI
 have HW0 := Aside0.mk hB.size
 have HB := Aside0.mk hB
 clear hB
 have H : (if (l1.length : Int) = 0 then (some (([] : List Int), s0_0, s0_1, s0_3)) else (if 0 ≤ (wrap64 ((l1.length : Int) - 1)) then (if (wrap64 ((l1.length : Int) - 1) : Int).toNat ≤ 35184372088832 then ((some (List.replicate (wrap64 ((l1.length : Int) - 1) : Int).toNat 0 : List Int)).bind fun y414 => ((field_GF_Field.f s0_0 s0_1 s0_2 s0_3 s0_4 s0_5).bind fun bt417 => (poly_Derivative.l0 k l1 y414 bt417.1 (y414.length : Int) 0 bt417.2.2.2.1 bt417.2.2.2.2.1 s0_2 bt417.2.2.2.2.2 s0_4 s0_5))) else (none)) else (none))) = some (r1, r2, r3, r4) := h
 clear h
 by_cases c3 : (l1.length : Int) = 0
 ·rw [if_pos c3] at H
  have c3b0 : ((l1.length : Int) == 0) = true := beq_iff_eq.mpr c3
  have c3b1 : ((l1.length : Int) != 0) = false := bne_eq_false_iff_eq.mpr c3
  clear c3
  simp only [Option.some.injEq, Prod.mk.injEq] at H
  obtain ⟨rfl, rfl, rfl, rfl⟩ := H
  go_enter Try.func63, Try.ntmps63
  go_wp2
  go_ret
  exact ⟨_, by rfl, by (exact Kd.R_nil _ _ _ _ _), by exact HI0.out, by exact HB.out, by exact HK.out⟩
 ·rw [if_neg c3] at H
  have c3b0 : ((l1.length : Int) == 0) = false := beq_eq_false_iff_ne.mpr c3
  have c3b1 : ((l1.length : Int) != 0) = true := bne_iff_ne.mpr c3
  have c3b2 : ¬ (l1 = []) := fun h_ => c3 (by rw [h_]; rfl)
  obtain ⟨ji4, hji4⟩ : ∃ j_ : Int, (wrap64 ((l1.length : Int) - 1)) = j_ := ⟨_, rfl⟩
  replace H : (if 0 ≤ (ji4) then (if (ji4 : Int).toNat ≤ 35184372088832 then ((some (List.replicate (ji4 : Int).toNat 0 : List Int)).bind fun y414 => ((field_GF_Field.f s0_0 s0_1 s0_2 s0_3 s0_4 s0_5).bind fun bt417 => (poly_Derivative.l0 k l1 y414 bt417.1 (y414.length : Int) 0 bt417.2.2.2.1 bt417.2.2.2.2.1 s0_2 bt417.2.2.2.2.2 s0_4 s0_5))) else (none)) else (none)) = some (r1, r2, r3, r4) := by (rw [hji4] at H; exact H)
  have hji4w : (IntKind.i64.wrap ((l1.length : Int) - 1)) = ji4 := (i64_w _).trans hji4
  by_cases c5 : 0 ≤ (ji4)
  ·rw [if_pos c5] at H
   have c5b0 := eq_true c5
   have c5b1 : decide (0 ≤ (ji4)) = true := decide_eq_true c5
   clear c5
   by_cases c6 : (ji4 : Int).toNat ≤ 35184372088832
   ·rw [if_pos c6] at H
    have c6b0 := eq_true c6
    have c6b1 : decide ((ji4 : Int).toNat ≤ 35184372088832) = true := decide_eq_true c6
    clear c6
    obtain ⟨y414, hy414⟩ : ∃ y_ : List Int, y_ = (List.replicate (ji4 : Int).toNat 0) := ⟨_, rfl⟩
    replace H : ((field_GF_Field.f s0_0 s0_1 s0_2 s0_3 s0_4 s0_5).bind fun bt417 => (poly_Derivative.l0 k l1 y414 bt417.1 (y414.length : Int) 0 bt417.2.2.2.1 bt417.2.2.2.2.1 s0_2 bt417.2.2.2.2.2 s0_4 s0_5)) = some (r1, r2, r3, r4) := by (have H2_ := (Option.bind_some _ _).symm.trans H; rw [hy414]; with_reducible exact H2_)
    have Ny414 := Aside0.mk hy414
    clear hy414
    replace H := Option.bind_eq_some_iff.mp H
    obtain ⟨⟨t417, t418, t419, t422, t423, t424⟩, A70, H⟩ := H
    replace H : (poly_Derivative.l0 k l1 y414 t417 (y414.length : Int) 0 t422 t423 s0_2 t424 s0_4 s0_5) = some (r1, r2, r3, r4) := H
    have A7 := Aside0.mk A70
    clear A70
    have H' := Aside0.mk H
    clear H
    go_enter Try.func63, Try.ntmps63
    go_wp2_with (first | ((with_reducible refine gate_dst (N := 14) rfl ?_); refine Kd.R_make (Kd.int .i64) _ 3 rfl (N := 14) rfl 22 _ _ rfl ji4 rfl rfl Try.underlying22 (.int .i64 0) 8 info3 rfl (by decide) (by omega) 0 (ok := fun _ => True) (okp := fun _ => True) rfl (fun _ hk => hk) trivial (of_decide_eq_true (by (with_reducible assumption))) (Nat.le_trans (Nat.mul_le_mul_right _ (of_decide_eq_true (by (with_reducible assumption)) : ji4.toNat ≤ 35184372088832)) (by omega)) (Below.refl _ _) (Nat.le_refl _) ?_; intro v415 w8 ho9 hb hg_ hnew_; clear hg_ hnew_; ((rw [← Ny414.out] at ho9)); have n0_ := Aside0.mk (Kd.R_lower ho9 (keep_size (w := w) (g := g) (row := none) HK.out)); have n1_ := Aside0.mk (IsS93.below HI0.out hb); have n2_ := Aside0.mk (KeepBut.trans HK.out (KeepBut.of_below hb g none) (.inl rfl)); have n3_ := Aside0.mk (below_step HB.out hb); clear HI0; clear HK; clear HB; have HO416 := n0_; have HI0 := n1_; have HK := n2_; have HB := n3_; clear n0_ n1_ n2_ n3_; clear hb ho9) | ((with_reducible refine gate_callee (f := 89) rfl ?_); refine goesL_ (some 16) rfl rfl Try.func89 (by kernel_rfl) rfl #[.pointer (some ⟨g, 0, none⟩)] rfl (by ((simp only [List.map_toArray, List.map_cons, List.map_nil])); (rfl)) ?_; (with_reducible refine (field_GF_Field.calls g s0_0 s0_1 s0_2 s0_3 s0_4 s0_5 t417 t418 t419 t422 t423 t424 w0 _ ?side1 ?side2 A7.out).mono ?_); (case side1 => repeat ((with_reducible (exact HI0.out)))); (case side2 => repeat ((with_reducible (exact HB.out)))); rintro e w10 ⟨v420, rfl, ho0, hi, hb, hk⟩; refine ⟨_, rfl, ?_⟩; have n0_ := Aside0.mk (Kd.R_mono (Kd.R_told (Kd.R_oldK (IsS93.apart (show IsS93 w0 _ g s0_0 s0_1 s0_2 s0_3 s0_4 s0_5 from by exact HI0.out) HO416.out (by decide)) hk) (Kd.R_base ho0)) (fun _ h_ => h_.1)); have n1_ := Aside0.mk (Kd.R_lower (Kd.R_new' ho0 (Kd.R_lt HO416.out)) (keep_size (w := w) (g := g) (row := none) HK.out)); have n2_ := Aside0.mk (KeepBut.trans HK.out hk (.inl rfl)); have n3_ := Aside0.mk (hb); have n4_ := Aside0.mk (hi); clear HO416; clear HK; clear HB; clear HI0; have HO416 := n0_; have HO421 := n1_; have HK := n2_; have HB := n3_; have HI0 := n4_; clear n0_ n1_ n2_ n3_ n4_; ((clear hb)); (skip); ((clear hk)); ((clear hi)); ((clear ho0)); obtain ⟨Ao11, co11, eo11⟩ := Kd.R_slice HO416.out; subst eo11))
    go_loopg [20] k (fun kq v20 w' => ∃ (x5_1 : List Int) (x20_1 : Int) (x1000_1 : Int) (x1001_1 : Int) (x1003_1 : Int), v20 = .int .i64 x20_1 ∧ Aside0 (poly_Derivative.l0 kq l1 x5_1 t417 (y414.length : Int) x20_1 x1000_1 x1001_1 s0_2 x1003_1 s0_4 s0_5 = some (r1, r2, r3, r4)) ∧ Aside0 (kq ≤ k) ∧ Aside0 (Kd.R (Kd.int .i64) 3 w' w.heap.size (fun _ => True) (.slice Ao11 y414.length co11) x5_1) ∧ Aside0 (IsS93 w0 w' g x1000_1 x1001_1 s0_2 x1003_1 s0_4 s0_5) ∧ Aside0 (KeepBut w w' g none) ∧ Aside0 (Below w0.heap.size w0 w'))
    case atStart => exact ⟨(y414), (0), (t422), (t423), (t424), (by rfl), H', ⟨Nat.le_refl _⟩, ⟨by exact Kd.R_mono HO416.out (fun _ hk => trivial)⟩, ⟨HI0.out⟩, ⟨HK.out⟩, ⟨HB.out⟩⟩
    case round =>
     clear H' c3 c3b0 c3b1 c3b2 c5b0 c5b1 c6b0 c6b1
     obtain ⟨x5_1, x20_1, x1000_1, x1001_1, x1003_1, rfl, HA, HK1, HO_5, HI0, HK, HB⟩ := hrel
     have hl5_1 := (Kd.R_reads' HO_5.out).1
     rw [hl5_1] at HO_5
     ((simp only [hl5_1]))
     cases gk with
     | zero => exact absurd HA.out (by simp [poly_Derivative.l0])
     | succ k1 =>
      have H := HA.out
      clear HA
      simp only [poly_Derivative.l0] at H
      by_cases c12 : x20_1 < (y414.length : Int)
      ·rw [if_pos c12] at H
       have c12b0 : decide (x20_1 < (y414.length : Int)) = true := decide_eq_true c12
       ((rw [hl5_1] at c12b0))
       clear c12
       by_cases c13 : t417 = 0
       ·rw [if_pos c13] at H
        exact absurd H (by simp)
       ·rw [if_neg c13] at H
        have c13b0 : (t417 == 0) = false := beq_eq_false_iff_ne.mpr c13
        have c13b1 : (t417 != 0) = true := bne_iff_ne.mpr c13
        obtain ⟨ji14, hji14⟩ : ∃ j_ : Int, (wrap64 (x20_1 + 1)) = j_ := ⟨_, rfl⟩
        replace H : (if 0 ≤ (ji14) then (if (ji14) < (l1.length : Int) then ((field_GF_Mul.f x1000_1 x1001_1 s0_2 x1003_1 s0_4 s0_5 (Int.tmod (ji14) t417) (rd l1 (ji14))).bind fun bt426 => (if 0 ≤ x20_1 then (if x20_1 < (x5_1.length : Int) then (poly_Derivative.l0 k1 l1 (x5_1.set (x20_1 : Int).toNat bt426.1) t417 (y414.length : Int) ji14 bt426.2.1 bt426.2.2.1 s0_2 bt426.2.2.2 s0_4 s0_5) else (none)) else (none))) else (none)) else (none)) = some (r1, r2, r3, r4) := by (rw [hji14] at H; exact H)
        have hji14w : (IntKind.i64.wrap (x20_1 + 1)) = ji14 := (i64_w _).trans hji14
        by_cases c15 : 0 ≤ (ji14)
        ·rw [if_pos c15] at H
         have c15b0 : decide (0 ≤ (ji14)) = true := decide_eq_true c15
         clear c15
         by_cases c16 : (ji14) < (l1.length : Int)
         ·rw [if_pos c16] at H
          have c16b0 : decide ((ji14) < (l1.length : Int)) = true := decide_eq_true c16
          clear c16
          replace H := Option.bind_eq_some_iff.mp H
          obtain ⟨⟨t426, t427, t428, t429⟩, A170, H⟩ := H
          replace H : (if 0 ≤ x20_1 then (if x20_1 < (x5_1.length : Int) then (poly_Derivative.l0 k1 l1 (x5_1.set (x20_1 : Int).toNat t426) t417 (y414.length : Int) ji14 t427 t428 s0_2 t429 s0_4 s0_5) else (none)) else (none)) = some (r1, r2, r3, r4) := H
          have A17 := Aside0.mk A170
          clear A170
          by_cases c18 : 0 ≤ x20_1
          ·rw [if_pos c18] at H
           have c18b0 : decide (0 ≤ x20_1) = true := decide_eq_true c18
           clear c18
           by_cases c19 : x20_1 < (x5_1.length : Int)
           ·rw [if_pos c19] at H
            have c19b0 : decide (x20_1 < (x5_1.length : Int)) = true := decide_eq_true c19
            clear c19
            obtain ⟨y430, hy430⟩ : ∃ y_ : List Int, y_ = (x5_1.set (x20_1 : Int).toNat t426) := ⟨_, rfl⟩
            replace H : (poly_Derivative.l0 k1 l1 y430 t417 (y414.length : Int) ji14 t427 t428 s0_2 t429 s0_4 s0_5) = some (r1, r2, r3, r4) := by (rw [hy430]; with_reducible exact H)
            have Ny430 := Aside0.mk hy430
            clear hy430
            have H' := Aside0.mk H
            clear H
            (go_wp2)
            have n0_ := Aside0.mk (Kd.R_drew HO_5.out)
            have n1_ := Aside0.mk (IsS93.drew HI0.out)
            have n2_ := Aside0.mk (keep_drew HK.out)
            have n3_ := Aside0.mk (below_drew1 HB.out)
            clear HO_5 HI0 HK HB
            have HO_5 := n0_
            have HI0 := n1_
            have HK := n2_
            have HB := n3_
            clear n0_ n1_ n2_ n3_
            have p425 : 0 ≤ ((ji14) : Int) := of_decide_eq_true (by (with_reducible assumption))
            have q425 : (ji14) < (l1.length : Int) := of_decide_eq_true (by (with_reducible assumption))
            obtain ⟨ad425, e425, hx425_0⟩ := Kd.at_int HR1.out (ji14) p425 q425
            have hw425_0 := hx425_0
            cases e425
            have hne425_0 := (show ((ad425.add ((ji14)).toNat) : Addr).block ≠ g from by (rw [add_block]; exact hf1 ad425 rfl (by omega)))
            replace hx425_0 := keep_cell HK.out hx425_0 (by (rw [add_block]; exact hf1 _ rfl (by omega)))
            replace p425 := eq_true p425
            replace q425 := eq_true q425
            refine start_ (n := 15) (S := fun w' => w'.cell? (ad425.add ((ji14)).toNat) = some (.int .i64 (rd l1 (ji14)))) (ds := [14]) (bm 15 0) (by kernel_rfl) rfl rfl ((keep_cell HK.out hw425_0 hne425_0)) (fun hHeld => ?_); refine with_tabW poly_Derivative.tab8 poly_Derivative.bits8 (fun HT_ HW_ => ?_)
            generalize wr.drew = w21 at HO_5 HI0 HK HB hx425_0 hHeld ⊢
            refine pure_ (i := 0) (N := some 23) (v := ?_) (a' := ?_) (bm 15 1) rfl rfl (any_of HT_.out (by kernel_rfl)) (fun _ _ _ h => h) (Or.inl ⟨by rfl, ?_⟩) ?_ ?_;rotate_left;(intro w';go_simp;with_reducible rfl);rotate_left;(simp only [ps_];rfl)
            refine pure_ (i := 1) (N := some 24) (v := ?_) (a' := ?_) (bm 15 3) rfl rfl (any_of HT_.out (by kernel_rfl)) (fun _ _ _ h => h) (Or.inl ⟨by rfl, ?_⟩) ?_ ?_;rotate_left;(intro w';go_simp;with_reducible rfl);rotate_left;(simp only [ps_];rfl)
            refine pure_ (i := 2) (N := some 25) (v := ?_) (a' := ?_) (bm 15 7) rfl rfl (any_of HT_.out (by kernel_rfl)) (fun _ _ _ h => h) (Or.inl ⟨by rfl, ?_⟩) ?_ ?_;rotate_left;(intro w';go_simp;with_reducible rfl);rotate_left;(simp only [ps_];rfl)
            refine pure_ (i := 3) (N := some 26) (v := ?_) (a' := ?_) (bm 15 15) rfl rfl (any_of HT_.out (by kernel_rfl)) (fun _ _ _ h => h) (Or.inl ⟨by rfl, ?_⟩) ?_ ?_;rotate_left;(intro w';go_simp;with_reducible rfl);rotate_left;(simp only [ps_];rfl)
            refine pure_ (i := 4) (N := some 27) (v := ?_) (a' := ?_) (bm 15 31) rfl rfl (any_of HT_.out (by kernel_rfl)) (fun _ _ _ h => h) (Or.inl ⟨by rfl, ?_⟩) ?_ ?_;rotate_left;(intro w';go_simp;with_reducible rfl);rotate_left;(simp only [ps_];rfl)
            refine pure_ (i := 5) (N := some 28) (v := ?_) (a' := ?_) (bm 15 63) rfl rfl (any_of HT_.out (by kernel_rfl)) (fun _ _ _ h => h) (Or.inl ⟨by rfl, ?_⟩) ?_ ?_;rotate_left;(intro w';go_simp;with_reducible rfl);rotate_left;(simp only [ps_];rfl)
            refine pure_ (i := 6) (N := some 29) (v := ?_) (a' := ?_) (bm 15 127) rfl rfl (any_of HT_.out (by kernel_rfl)) (fun _ _ _ h => h) (Or.inl ⟨by rfl, ?_⟩) ?_ ?_;rotate_left;(intro w';go_simp;with_reducible rfl);rotate_left;(simp only [ps_];rfl)
            refine pure_ (i := 7) (N := some 30) (v := ?_) (a' := ?_) (bm 15 255) rfl rfl (any_of HT_.out (by kernel_rfl)) (fun _ _ _ h => h) (Or.inl ⟨by rfl, ?_⟩) ?_ ?_;rotate_left;(intro w';go_simp;with_reducible rfl);rotate_left;(simp only [ps_];rfl)
            refine pure_ (i := 8) (N := some 31) (v := ?_) (a' := ?_) (bm 15 511) rfl rfl (any_of HT_.out (by kernel_rfl)) (fun _ _ _ h => h) (Or.inl ⟨by rfl, ?_⟩) ?_ ?_;rotate_left;(intro w';go_simp;with_reducible rfl);rotate_left;(simp only [ps_];rfl)
            refine pure_ (i := 9) (N := some 32) (v := ?_) (a' := ?_) (bm 15 1023) rfl rfl (any_of HT_.out (by kernel_rfl)) (fun _ _ _ h => h) (Or.inl ⟨by rfl, ?_⟩) ?_ ?_;rotate_left;(intro w';go_simp;with_reducible rfl);rotate_left;(simp only [ps_];rfl)
            refine pure_ (i := 10) (N := some 33) (v := ?_) (a' := ?_) (bm 15 2047) rfl rfl (any_of HT_.out (by kernel_rfl)) (fun _ _ _ h => h) (Or.inl ⟨by rfl, ?_⟩) ?_ ?_;rotate_left;(intro w';go_simp;with_reducible rfl);rotate_left;(simp only [ps_];rfl)
            refine take_ (i := 11) (N := some 34) (v := ?_) (a' := ?_) (bm 15 4095) rfl rfl (take_ofW HT_.out HW_.out (by kernel_rfl)) (fun _ _ _ h => h) (Or.inl ⟨by rfl, ?_⟩) hHeld ?_ ?_
            rotate_left
            ·intro w' s0
             go_simp
             with_reducible rfl
            rotate_left
            ·simp only [Act.put, List.setIfInBounds_toArray, List.set_cons_zero, List.set_cons_succ, i64_w, i32_w]
             rfl
            refine one_ (i := 12) (N := some 35) (bm 15 8191) rfl rfl (one_of HT_.out (by kernel_rfl)) (by decide) (fun K hK => ?_)
            refine goes_ Try.func54 (by kernel_rfl) rfl #[.pointer (some ⟨g, 0, none⟩), .int .i64 (Int.tmod (ji14) t417), .int .i64 (rd l1 (ji14))] (by rfl) rfl rfl (by ((simp only [List.map_toArray, List.map_cons, List.map_nil])); (rfl)) ?_
            with_reducible refine (field_GF_Mul.calls g x1000_1 x1001_1 s0_2 x1003_1 s0_4 s0_5 (Int.tmod (ji14) t417) (rd l1 (ji14)) t426 t427 t428 t429 w0 _ ?side1 ?side2 A17.out).mono ?_
            (case side1 => repeat ((with_reducible (exact HI0.out))))
            (case side2 => repeat ((with_reducible (exact HB.out))))
            rintro e w22 ⟨rfl, hi, hb, hk⟩
            refine ⟨_, rfl, ?_⟩
            have n0_ := Aside0.mk (Kd.R_mono (Kd.R_keep (IsS93.apart (show IsS93 w0 _ g x1000_1 x1001_1 s0_2 x1003_1 s0_4 s0_5 from by exact HI0.out) HO_5.out (by decide)) hk (fun _ h => h.2)) (fun _ h => h.1))
            have n1_ := Aside0.mk (KeepBut.trans HK.out hk (.inl rfl))
            have n2_ := Aside0.mk (hb)
            have n3_ := Aside0.mk (hi)
            clear HO_5 HK HB HI0
            have HO_5 := n0_
            have HK := n1_
            have HB := n2_
            have HI0 := n3_
            clear n0_ n1_ n2_ n3_
            ((clear hb))
            ((clear hk))
            ((clear hi))
            have p20 : 0 ≤ (x20_1 : Int) := of_decide_eq_true (by (with_reducible assumption))
            have q20 : (x20_1 : Int) < ((x5_1.length : Int) : Int) := of_decide_eq_true (by (with_reducible assumption))
            obtain ⟨go20, co20, eo20, gb20, gl20, cl20, HG20⟩ := Kd.R_form HO_5.out (by omega)
            ((cases eo20))
            have GB20 := Aside0.mk gb20
            have GG20 := Aside0.mk HG20
            clear gb20 gl20 HG20
            obtain ⟨hx20_0, hf20_0⟩ := Kd.R_celln 0 HO_5.out (x20_1 : Int) p20 q20
            replace p20 := eq_true p20
            replace q20 := eq_true q20
            have HN0_go20 := Aside0.mk (show g ≠ go20 from by have h_ := IsS93.own_ne HI0.out HO_5.out (by decide); intro e_; exact h_ (by rw [e_]; rfl))
            have HP23 := Kd.R_putn HO_5.out (x20_1 : Int) t426
            rw [← Ny430.out] at HP23
            have HQ23 := Aside0.mk HP23
            clear HP23
            refine hK.out _ _ ((keep_cell HK.out hw425_0 hne425_0)) (fun hHeld => ?_)
            clear hK K
            refine norm_ (a' := ?_) ?_ ?_
            rotate_left
            ·show Act.put _ (some 35) _ = _
             simp only [Act.put, List.setIfInBounds_toArray, List.set_cons_zero, List.set_cons_succ, i64_w, i32_w]
             rfl
            refine pure_ (i := 13) (N := some 36) (v := ?_) (a' := ?_) (bm 15 16383) rfl rfl (any_of HT_.out (by kernel_rfl)) (fun _ _ _ h => h) (Or.inl ⟨by rfl, ?_⟩) ?_ ?_;rotate_left;(intro w';go_simp;with_reducible rfl);rotate_left;(simp only [ps_];rfl)
            refine last_ (i := 14) (N := none) (bm 15 32767) rfl rfl (one_of HT_.out (by kernel_rfl)) (by decide) (fun K hK => ?_)
            refine skip_ (w1 := ?_) (by rfl) rfl ?_ ?_
            rotate_left
            ·go_simp
             rfl
            refine hK.out _ _ ?_
            clear hK K
            refine done_ (done_of HT_.out (by kernel_rfl)) ?_
            (go_wp2)
            ((simp only [← hl5_1]))
            go_roundg k1
            case measure => have := HK1.out; omega
            case rel => exact ⟨(y430), (ji14), (t427), (t428), (t429), (by rfl), H', ⟨by have := HK1.out; omega⟩, ⟨by ((simp only [hl5_1])); (with_reducible repeat (fail)); exact HQ23.out⟩, ⟨by repeat ((with_reducible first | (exact HI0.out) | (refine IsS93.far ?_ HN0_go20.out _)))⟩, ⟨by repeat ((with_reducible first | (exact HK.out) | (refine keep_far ?_ GB20.out _)))⟩, ⟨by repeat ((with_reducible first | (exact HB.out) | (refine below_set ?_ (Nat.le_trans HL.out GB20.out))))⟩⟩
           ·rw [if_neg c19] at H
            exact absurd H (by simp)
          ·rw [if_neg c18] at H
           exact absurd H (by simp)
         ·rw [if_neg c16] at H
          exact absurd H (by simp)
        ·rw [if_neg c15] at H
         exact absurd H (by simp)
      ·rw [if_neg c12] at H
       have c12b0 : decide (x20_1 < (y414.length : Int)) = false := decide_eq_false c12
       ((rw [hl5_1] at c12b0))
       clear c12
       obtain ⟨t431, A240, H⟩ := Option.bind_eq_some_iff.mp H
       replace H : (some (t431, x1000_1, x1001_1, x1003_1)) = some (r1, r2, r3, r4) := H
       have A24 := Aside0.mk A240
       clear A240
       simp only [Option.some.injEq, Prod.mk.injEq] at H
       obtain ⟨rfl, rfl, rfl, rfl⟩ := H
       go_wp2_with (((with_reducible refine gate_callee (f := 80) rfl ?_); refine goesL_ (some 39) rfl rfl Try.func80 (by kernel_rfl) rfl #[.slice Ao11 x5_1.length co11] rfl (by ((simp only [List.map_toArray, List.map_cons, List.map_nil])); (rfl)) ?_; (with_reducible refine (poly_trim.calls k1 (fun k_ => some k_ = (.slice Ao11 x5_1.length co11 : Value).ownBlock) (.slice Ao11 x5_1.length co11) x5_1 t431 w0 _ ?side1 ?side2 A24.out).mono ?_); (case side1 => repeat ((with_reducible (exact HB.out)))); (case side2 => exact Kd.R_lower (Kd.R_tight rfl HO_5.out) HL.out); rintro e w25 ⟨v432, rfl, ho0, hb, hkp⟩; refine ⟨_, rfl, ?_⟩; have n0_ := Aside0.mk (IsS93.kept HI0.out hkp (fun hs_ => (fun e_ => (IsS93.own_ne HI0.out HO_5.out (by decide)) e_) hs_)); have n1_ := Aside0.mk (Kd.R_mono (ok' := fun k_ => True) (Kd.R_raise (d := (Kd.int .i64)) (b := w0.heap.size) (b' := w.heap.size) (fun _ _ _ _ h_ => h_) ho0 (fun k_ e_ => Or.elim (ho0.1 k_ e_) (fun hs_ => (fun e_ => Kd.R_base HO_5.out k_ e_.symm) hs_) (fun hn_ => Nat.le_trans (keep_size (w := w) (g := g) (row := none) HK.out) hn_))) (fun k_ hk_ => trivial)); have n2_ := Aside0.mk (Kept.keepG HK.out hkp (fun k_ hs_ => (fun e_ => .inr (Kd.R_base HO_5.out k_ e_.symm)) hs_)); have n3_ := Aside0.mk (hb); clear HI0; clear HK; clear HB; clear HO_5; have HI0 := n0_; have HO433 := n1_; have HK := n2_; have HB := n3_; clear n0_ n1_ n2_ n3_; ((clear hb)); ((clear hkp)); ((clear ho0))))
       go_ret
       exact ⟨_, by rfl, by exact HO433.out, by exact HI0.out, by exact HB.out, by exact HK.out⟩
   ·rw [if_neg c6] at H
    exact absurd H (by simp)
  ·rw [if_neg c5] at H
   exact absurd H (by simp)
def keyequation_Forney.f (k : Nat) (s0_0 : Int) (s0_1 : Int) (s0_2 : List Int) (s0_3 : Int) (s0_4 : List Int) (s0_5 : List Int) (l1 : List Int) (l2 : List Int) (a3 : Int) : Option (Int × Int × Int × Int × Int) := (field_GF_Inv.f s0_0 s0_1 s0_2 s0_3 s0_4 s0_5 a3).bind fun bt434 => (if bt434.2.1 = 0 then ((poly_Eval.f k bt434.2.2.1 bt434.2.2.2.1 s0_2 bt434.2.2.2.2 s0_4 s0_5 l2 bt434.1).bind fun bt439 => ((field_GF_Mul.f bt439.2.1 bt439.2.2.1 s0_2 bt439.2.2.2 s0_4 s0_5 a3 bt439.1).bind fun bt443 => ((field_GF_Neg.f k bt443.2.1 bt443.2.2.1 s0_2 bt443.2.2.2 s0_4 s0_5 bt443.1).bind fun bt447 => ((poly_Derivative.f k bt447.2.1 bt447.2.2.1 s0_2 bt447.2.2.2 s0_4 s0_5 l1).bind fun bt451 => ((poly_Eval.f k bt451.2.1 bt451.2.2.1 s0_2 bt451.2.2.2 s0_4 s0_5 bt451.1 bt434.1).bind fun bt457 => ((field_GF_Div.f bt457.2.1 bt457.2.2.1 s0_2 bt457.2.2.2 s0_4 s0_5 bt447.1 bt457.1).bind fun bt461 => (some (bt461.1, bt461.2.1, bt461.2.2.1, bt461.2.2.2.1, bt461.2.2.2.2)))))))) else (some (0, bt434.2.1, bt434.2.2.1, bt434.2.2.2.1, bt434.2.2.2.2)))
set_option maxHeartbeats 8000000 in
set_option maxRecDepth 100000 in
theorem keyequation_Forney.calls (k : Nat) (g : Nat) (s0_0 : Int) (s0_1 : Int) (s0_2 : List Int) (s0_3 : Int) (s0_4 : List Int) (s0_5 : List Int) (A1 : Option Addr) (c1 : Nat) (l1 : List Int) (A2 : Option Addr) (c2 : Nat) (l2 : List Int) (a3 : Int) (r1 : Int) (r2 : Int) (r3 : Int) (r4 : Int) (r5 : Int) (w0 w : World) (hI : IsS93 w0 w g s0_0 s0_1 s0_2 s0_3 s0_4 s0_5) (hB : Below w0.heap.size w0 w) (hr1 : Kd.C (Kd.int .i64) w A1 l1.length l1) (hc1 : l1.length ≤ c1) (hf1 : ∀ ad, A1 = some ad → 0 < l1.length → ad.block ≠ g) (hr2 : Kd.C (Kd.int .i64) w A2 l2.length l2) (hc2 : l2.length ≤ c2) (hf2 : ∀ ad, A2 = some ad → 0 < l2.length → ad.block ≠ g) (h : keyequation_Forney.f k s0_0 s0_1 s0_2 s0_3 s0_4 s0_5 l1 l2 a3 = some (r1, r2, r3, r4, r5)) :
  Calls Try.prog 32 #[.pointer (some ⟨g, 0, none⟩), .slice A1 l1.length c1, .slice A2 l2.length c2, .int .i64 a3] w fun e w' => e = .returned (.tuple #[.int .i64 r1, .int .i64 r2]) ∧ IsS93 w0 w' g r3 r4 s0_2 r5 s0_4 s0_5 ∧ Below w0.heap.size w0 w' ∧ KeepBut w w' g none := by
 have HR1 := Aside0.mk hr1
 have HC1 := Aside0.mk hc1
 clear hr1 hc1
 have HR2 := Aside0.mk hr2
 have HC2 := Aside0.mk hc2
 clear hr2 hc2
 have HI0 := Aside0.mk hI
 have HK := Aside0.mk (KeepBut.refl w g none)
 have HL := Aside0.mk hB.size
 clear hI
 have HW0 := Aside0.mk hB.size
 have HB := Aside0.mk hB
 clear hB
 have H : ((field_GF_Inv.f s0_0 s0_1 s0_2 s0_3 s0_4 s0_5 a3).bind fun bt434 => (if bt434.2.1 = 0 then ((poly_Eval.f k bt434.2.2.1 bt434.2.2.2.1 s0_2 bt434.2.2.2.2 s0_4 s0_5 l2 bt434.1).bind fun bt439 => ((field_GF_Mul.f bt439.2.1 bt439.2.2.1 s0_2 bt439.2.2.2 s0_4 s0_5 a3 bt439.1).bind fun bt443 => ((field_GF_Neg.f k bt443.2.1 bt443.2.2.1 s0_2 bt443.2.2.2 s0_4 s0_5 bt443.1).bind fun bt447 => ((poly_Derivative.f k bt447.2.1 bt447.2.2.1 s0_2 bt447.2.2.2 s0_4 s0_5 l1).bind fun bt451 => ((poly_Eval.f k bt451.2.1 bt451.2.2.1 s0_2 bt451.2.2.2 s0_4 s0_5 bt451.1 bt434.1).bind fun bt457 => ((field_GF_Div.f bt457.2.1 bt457.2.2.1 s0_2 bt457.2.2.2 s0_4 s0_5 bt447.1 bt457.1).bind fun bt461 => (some (bt461.1, bt461.2.1, bt461.2.2.1, bt461.2.2.2.1, bt461.2.2.2.2)))))))) else (some (0, bt434.2.1, bt434.2.2.1, bt434.2.2.2.1, bt434.2.2.2.2)))) = some (r1, r2, r3, r4, r5) := h
 clear h
 replace H := Option.bind_eq_some_iff.mp H
 obtain ⟨⟨t434, t435, t436, t437, t438⟩, A50, H⟩ := H
 replace H : (if t435 = 0 then ((poly_Eval.f k t436 t437 s0_2 t438 s0_4 s0_5 l2 t434).bind fun bt439 => ((field_GF_Mul.f bt439.2.1 bt439.2.2.1 s0_2 bt439.2.2.2 s0_4 s0_5 a3 bt439.1).bind fun bt443 => ((field_GF_Neg.f k bt443.2.1 bt443.2.2.1 s0_2 bt443.2.2.2 s0_4 s0_5 bt443.1).bind fun bt447 => ((poly_Derivative.f k bt447.2.1 bt447.2.2.1 s0_2 bt447.2.2.2 s0_4 s0_5 l1).bind fun bt451 => ((poly_Eval.f k bt451.2.1 bt451.2.2.1 s0_2 bt451.2.2.2 s0_4 s0_5 bt451.1 t434).bind fun bt457 => ((field_GF_Div.f bt457.2.1 bt457.2.2.1 s0_2 bt457.2.2.2 s0_4 s0_5 bt447.1 bt457.1).bind fun bt461 => (some (bt461.1, bt461.2.1, bt461.2.2.1, bt461.2.2.2.1, bt461.2.2.2.2)))))))) else (some (0, t435, t436, t437, t438))) = some (r1, r2, r3, r4, r5) := H
 have A5 := Aside0.mk A50
 clear A50
 by_cases c6 : t435 = 0
 ·rw [if_pos c6] at H
  have c6b0 : (t435 == 0) = true := beq_iff_eq.mpr c6
  have c6b1 : (t435 != 0) = false := bne_eq_false_iff_eq.mpr c6
  clear c6
  replace H := Option.bind_eq_some_iff.mp H
  obtain ⟨⟨t439, t440, t441, t442⟩, A70, H⟩ := H
  replace H : ((field_GF_Mul.f t440 t441 s0_2 t442 s0_4 s0_5 a3 t439).bind fun bt443 => ((field_GF_Neg.f k bt443.2.1 bt443.2.2.1 s0_2 bt443.2.2.2 s0_4 s0_5 bt443.1).bind fun bt447 => ((poly_Derivative.f k bt447.2.1 bt447.2.2.1 s0_2 bt447.2.2.2 s0_4 s0_5 l1).bind fun bt451 => ((poly_Eval.f k bt451.2.1 bt451.2.2.1 s0_2 bt451.2.2.2 s0_4 s0_5 bt451.1 t434).bind fun bt457 => ((field_GF_Div.f bt457.2.1 bt457.2.2.1 s0_2 bt457.2.2.2 s0_4 s0_5 bt447.1 bt457.1).bind fun bt461 => (some (bt461.1, bt461.2.1, bt461.2.2.1, bt461.2.2.2.1, bt461.2.2.2.2))))))) = some (r1, r2, r3, r4, r5) := H
  have A7 := Aside0.mk A70
  clear A70
  replace H := Option.bind_eq_some_iff.mp H
  obtain ⟨⟨t443, t444, t445, t446⟩, A80, H⟩ := H
  replace H : ((field_GF_Neg.f k t444 t445 s0_2 t446 s0_4 s0_5 t443).bind fun bt447 => ((poly_Derivative.f k bt447.2.1 bt447.2.2.1 s0_2 bt447.2.2.2 s0_4 s0_5 l1).bind fun bt451 => ((poly_Eval.f k bt451.2.1 bt451.2.2.1 s0_2 bt451.2.2.2 s0_4 s0_5 bt451.1 t434).bind fun bt457 => ((field_GF_Div.f bt457.2.1 bt457.2.2.1 s0_2 bt457.2.2.2 s0_4 s0_5 bt447.1 bt457.1).bind fun bt461 => (some (bt461.1, bt461.2.1, bt461.2.2.1, bt461.2.2.2.1, bt461.2.2.2.2)))))) = some (r1, r2, r3, r4, r5) := H
  have A8 := Aside0.mk A80
  clear A80
  replace H := Option.bind_eq_some_iff.mp H
  obtain ⟨⟨t447, t448, t449, t450⟩, A90, H⟩ := H
  replace H : ((poly_Derivative.f k t448 t449 s0_2 t450 s0_4 s0_5 l1).bind fun bt451 => ((poly_Eval.f k bt451.2.1 bt451.2.2.1 s0_2 bt451.2.2.2 s0_4 s0_5 bt451.1 t434).bind fun bt457 => ((field_GF_Div.f bt457.2.1 bt457.2.2.1 s0_2 bt457.2.2.2 s0_4 s0_5 t447 bt457.1).bind fun bt461 => (some (bt461.1, bt461.2.1, bt461.2.2.1, bt461.2.2.2.1, bt461.2.2.2.2))))) = some (r1, r2, r3, r4, r5) := H
  have A9 := Aside0.mk A90
  clear A90
  replace H := Option.bind_eq_some_iff.mp H
  obtain ⟨⟨t451, t454, t455, t456⟩, A100, H⟩ := H
  replace H : ((poly_Eval.f k t454 t455 s0_2 t456 s0_4 s0_5 t451 t434).bind fun bt457 => ((field_GF_Div.f bt457.2.1 bt457.2.2.1 s0_2 bt457.2.2.2 s0_4 s0_5 t447 bt457.1).bind fun bt461 => (some (bt461.1, bt461.2.1, bt461.2.2.1, bt461.2.2.2.1, bt461.2.2.2.2)))) = some (r1, r2, r3, r4, r5) := H
  have A10 := Aside0.mk A100
  clear A100
  replace H := Option.bind_eq_some_iff.mp H
  obtain ⟨⟨t457, t458, t459, t460⟩, A110, H⟩ := H
  replace H : ((field_GF_Div.f t458 t459 s0_2 t460 s0_4 s0_5 t447 t457).bind fun bt461 => (some (bt461.1, bt461.2.1, bt461.2.2.1, bt461.2.2.2.1, bt461.2.2.2.2))) = some (r1, r2, r3, r4, r5) := H
  have A11 := Aside0.mk A110
  clear A110
  replace H := Option.bind_eq_some_iff.mp H
  obtain ⟨⟨t461, t462, t463, t464, t465⟩, A120, H⟩ := H
  replace H : (some (t461, t462, t463, t464, t465)) = some (r1, r2, r3, r4, r5) := H
  have A12 := Aside0.mk A120
  clear A120
  simp only [Option.some.injEq, Prod.mk.injEq] at H
  obtain ⟨rfl, rfl, rfl, rfl, rfl⟩ := H
  go_enter Try.func32, Try.ntmps32
  go_wp2_with (first | ((with_reducible refine gate_callee (f := 47) rfl ?_); refine goesL_ (some 15) rfl rfl Try.func47 (by kernel_rfl) rfl #[.pointer (some ⟨g, 0, none⟩), .int .i64 a3] rfl (by ((simp only [List.map_toArray, List.map_cons, List.map_nil])); (rfl)) ?_; (with_reducible refine (field_GF_Inv.calls g s0_0 s0_1 s0_2 s0_3 s0_4 s0_5 a3 t434 t435 t436 t437 t438 w0 _ ?side1 ?side2 A5.out).mono ?_); (case side1 => repeat ((with_reducible (exact HI0.out)))); (case side2 => repeat ((with_reducible (exact HB.out)))); rintro e w13 ⟨rfl, hi, hb, hk⟩; refine ⟨_, rfl, ?_⟩; have n0_ := Aside0.mk (KeepBut.trans HK.out hk (.inl rfl)); have n1_ := Aside0.mk (hb); have n2_ := Aside0.mk (hi); clear HK; clear HB; clear HI0; have HK := n0_; have HB := n1_; have HI0 := n2_; clear n0_ n1_ n2_; ((clear hb)); (skip); ((clear hk)); ((clear hi))) | ((with_reducible refine gate_callee (f := 52) rfl ?_); refine goesL_ (some 28) rfl rfl Try.func52 (by kernel_rfl) rfl #[.pointer (some ⟨g, 0, none⟩), .slice A2 l2.length c2, .int .i64 t434] rfl (by ((simp only [List.map_toArray, List.map_cons, List.map_nil])); (rfl)) ?_; (with_reducible refine (poly_Eval.calls k g t436 t437 s0_2 t438 s0_4 s0_5 _ _ l2 t434 t439 t440 t441 t442 w0 _ ?side1 ?side2 ?side3 ?side4 ?side5 A7.out).mono ?_); (case side1 => repeat ((with_reducible (exact HI0.out)))); (case side2 => repeat ((with_reducible (exact HB.out)))); (case side3 => exact Kd.C_keep 0 HR2.out HK.out hf2); (case side4 => exact HC2.out); (case side5 => exact hf2); rintro e w14 ⟨rfl, hi, hb, hk⟩; refine ⟨_, rfl, ?_⟩; have n0_ := Aside0.mk (KeepBut.trans HK.out hk (.inl rfl)); have n1_ := Aside0.mk (hb); have n2_ := Aside0.mk (hi); clear HK; clear HB; clear HI0; have HK := n0_; have HB := n1_; have HI0 := n2_; clear n0_ n1_ n2_; ((clear hb)); (skip); ((clear hk)); ((clear hi))) | ((with_reducible refine gate_callee (f := 54) rfl ?_); refine goesL_ (some 29) rfl rfl Try.func54 (by kernel_rfl) rfl #[.pointer (some ⟨g, 0, none⟩), .int .i64 a3, .int .i64 t439] rfl (by ((simp only [List.map_toArray, List.map_cons, List.map_nil])); (rfl)) ?_; (with_reducible refine (field_GF_Mul.calls g t440 t441 s0_2 t442 s0_4 s0_5 a3 t439 t443 t444 t445 t446 w0 _ ?side1 ?side2 A8.out).mono ?_); (case side1 => repeat ((with_reducible (exact HI0.out)))); (case side2 => repeat ((with_reducible (exact HB.out)))); rintro e w15 ⟨rfl, hi, hb, hk⟩; refine ⟨_, rfl, ?_⟩; have n0_ := Aside0.mk (KeepBut.trans HK.out hk (.inl rfl)); have n1_ := Aside0.mk (hb); have n2_ := Aside0.mk (hi); clear HK; clear HB; clear HI0; have HK := n0_; have HB := n1_; have HI0 := n2_; clear n0_ n1_ n2_; ((clear hb)); (skip); ((clear hk)); ((clear hi))) | ((with_reducible refine gate_callee (f := 62) rfl ?_); refine goesL_ (some 30) rfl rfl Try.func62 (by kernel_rfl) rfl #[.pointer (some ⟨g, 0, none⟩), .int .i64 t443] rfl (by ((simp only [List.map_toArray, List.map_cons, List.map_nil])); (rfl)) ?_; (with_reducible refine (field_GF_Neg.calls k g t444 t445 s0_2 t446 s0_4 s0_5 t443 t447 t448 t449 t450 w0 _ ?side1 ?side2 A9.out).mono ?_); (case side1 => repeat ((with_reducible (exact HI0.out)))); (case side2 => repeat ((with_reducible (exact HB.out)))); rintro e w16 ⟨rfl, hi, hb, hk⟩; refine ⟨_, rfl, ?_⟩; have n0_ := Aside0.mk (KeepBut.trans HK.out hk (.inl rfl)); have n1_ := Aside0.mk (hb); have n2_ := Aside0.mk (hi); clear HK; clear HB; clear HI0; have HK := n0_; have HB := n1_; have HI0 := n2_; clear n0_ n1_ n2_; ((clear hb)); (skip); ((clear hk)); ((clear hi))) | ((with_reducible refine gate_callee (f := 63) rfl ?_); refine goesL_ (some 34) rfl rfl Try.func63 (by kernel_rfl) rfl #[.pointer (some ⟨g, 0, none⟩), .slice A1 l1.length c1] rfl (by ((simp only [List.map_toArray, List.map_cons, List.map_nil])); (rfl)) ?_; (with_reducible refine (poly_Derivative.calls k g t448 t449 s0_2 t450 s0_4 s0_5 _ _ l1 t451 t454 t455 t456 w0 _ ?side1 ?side2 ?side3 ?side4 ?side5 A10.out).mono ?_); (case side1 => repeat ((with_reducible (exact HI0.out)))); (case side2 => repeat ((with_reducible (exact HB.out)))); (case side3 => exact Kd.C_keep 0 HR1.out HK.out hf1); (case side4 => exact HC1.out); (case side5 => exact hf1); rintro e w17 ⟨v452, rfl, ho0, hi, hb, hk⟩; refine ⟨_, rfl, ?_⟩; have n0_ := Aside0.mk (Kd.R_lower ho0 (keep_size (w := w) (g := g) (row := none) HK.out)); have n1_ := Aside0.mk (KeepBut.trans HK.out hk (.inl rfl)); have n2_ := Aside0.mk (hb); have n3_ := Aside0.mk (hi); clear HK; clear HB; clear HI0; have HO453 := n0_; have HK := n1_; have HB := n2_; have HI0 := n3_; clear n0_ n1_ n2_ n3_; ((clear hb)); (skip); ((clear hk)); ((clear hi)); ((clear ho0)); obtain ⟨Ao18, co18, eo18⟩ := Kd.R_slice HO453.out; subst eo18) | ((with_reducible refine gate_callee (f := 52) rfl ?_); refine goesL_ (some 36) rfl rfl Try.func52 (by kernel_rfl) rfl #[.pointer (some ⟨g, 0, none⟩), .slice Ao18 t451.length co18, .int .i64 t434] rfl (by ((simp only [List.map_toArray, List.map_cons, List.map_nil])); (rfl)) ?_; (with_reducible refine (poly_Eval.calls k g t454 t455 s0_2 t456 s0_4 s0_5 _ _ t451 t434 t457 t458 t459 t460 w0 _ ?side1 ?side2 ?side3 ?side4 ?side5 A11.out).mono ?_); (case side1 => repeat ((with_reducible (exact HI0.out)))); (case side2 => repeat ((with_reducible (exact HB.out)))); (case side3 => repeat ((exact (Kd.R_reads' HO453.out).2.2))); (case side4 => exact (Kd.R_reads' HO453.out).2.1); (case side5 => exact far_slice (IsS93.own_ne HI0.out HO453.out (by decide))); rintro e w19 ⟨rfl, hi, hb, hk⟩; refine ⟨_, rfl, ?_⟩; have n0_ := Aside0.mk (Kd.R_mono (Kd.R_keep (IsS93.apart (show IsS93 w0 _ g t454 t455 s0_2 t456 s0_4 s0_5 from by exact HI0.out) HO453.out (by decide)) hk (fun _ h => h.2)) (fun _ h => h.1)); have n1_ := Aside0.mk (KeepBut.trans HK.out hk (.inl rfl)); have n2_ := Aside0.mk (hb); have n3_ := Aside0.mk (hi); clear HO453; clear HK; clear HB; clear HI0; have HO453 := n0_; have HK := n1_; have HB := n2_; have HI0 := n3_; clear n0_ n1_ n2_ n3_; ((clear hb)); (skip); ((clear hk)); ((clear hi))) | ((with_reducible refine gate_callee (f := 61) rfl ?_); refine goesL_ (some 37) rfl rfl Try.func61 (by kernel_rfl) rfl #[.pointer (some ⟨g, 0, none⟩), .int .i64 t447, .int .i64 t457] rfl (by ((simp only [List.map_toArray, List.map_cons, List.map_nil])); (rfl)) ?_; (with_reducible refine (field_GF_Div.calls g t458 t459 s0_2 t460 s0_4 s0_5 t447 t457 t461 t462 t463 t464 t465 w0 _ ?side1 ?side2 A12.out).mono ?_); (case side1 => repeat ((with_reducible (exact HI0.out)))); (case side2 => repeat ((with_reducible (exact HB.out)))); rintro e w20 ⟨rfl, hi, hb, hk⟩; refine ⟨_, rfl, ?_⟩; have n0_ := Aside0.mk (Kd.R_mono (Kd.R_keep (IsS93.apart (show IsS93 w0 _ g t458 t459 s0_2 t460 s0_4 s0_5 from by exact HI0.out) HO453.out (by decide)) hk (fun _ h => h.2)) (fun _ h => h.1)); have n1_ := Aside0.mk (KeepBut.trans HK.out hk (.inl rfl)); have n2_ := Aside0.mk (hb); have n3_ := Aside0.mk (hi); clear HO453; clear HK; clear HB; clear HI0; have HO453 := n0_; have HK := n1_; have HB := n2_; have HI0 := n3_; clear n0_ n1_ n2_ n3_; ((clear hb)); (skip); ((clear hk)); ((clear hi))))
  go_ret2
  exact ⟨by rfl, by exact HI0.out, by exact HB.out, by exact HK.out⟩
 ·rw [if_neg c6] at H
  have c6b0 : (t435 == 0) = false := beq_eq_false_iff_ne.mpr c6
  have c6b1 : (t435 != 0) = true := bne_iff_ne.mpr c6
  simp only [Option.some.injEq, Prod.mk.injEq] at H
  obtain ⟨rfl, rfl, rfl, rfl, rfl⟩ := H
  go_enter Try.func32, Try.ntmps32
  go_wp2_with (((with_reducible refine gate_callee (f := 47) rfl ?_); refine goesL_ (some 15) rfl rfl Try.func47 (by kernel_rfl) rfl #[.pointer (some ⟨g, 0, none⟩), .int .i64 a3] rfl (by ((simp only [List.map_toArray, List.map_cons, List.map_nil])); (rfl)) ?_; (with_reducible refine (field_GF_Inv.calls g s0_0 s0_1 s0_2 s0_3 s0_4 s0_5 a3 t434 t435 t436 t437 t438 w0 _ ?side1 ?side2 A5.out).mono ?_); (case side1 => repeat ((with_reducible (exact HI0.out)))); (case side2 => repeat ((with_reducible (exact HB.out)))); rintro e w21 ⟨rfl, hi, hb, hk⟩; refine ⟨_, rfl, ?_⟩; have n0_ := Aside0.mk (KeepBut.trans HK.out hk (.inl rfl)); have n1_ := Aside0.mk (hb); have n2_ := Aside0.mk (hi); clear HK; clear HB; clear HI0; have HK := n0_; have HB := n1_; have HI0 := n2_; clear n0_ n1_ n2_; ((clear hb)); (skip); ((clear hk)); ((clear hi))))
  go_ret2
  exact ⟨by rfl, by exact HI0.out, by exact HB.out, by exact HK.out⟩
def keyequation_Chien.l0 : Nat → List Int → List Int → List Int → Int → Int → Int → Int → List Int → Int → List Int → List Int → Option (List Int × Int × Int × Int)
 | 0, _, _, _, _, _, _, _, _, _, _, _ => none
 | k + 1, x1, x7, x12, x13, x14, x1000, x1001, x1002, x1003, x1004, x1005 => if x14 < x13 then (if 0 ≤ x14 then (if x14 < (x12.length : Int) then ((field_GF_Inv.f x1000 x1001 x1002 x1003 x1004 x1005 (rd x12 x14)).bind fun bt467 => (if bt467.2.1 = 0 then ((poly_Eval.f k bt467.2.2.1 bt467.2.2.2.1 x1002 bt467.2.2.2.2 x1004 x1005 x1 bt467.1).bind fun bt472 => (if bt472.1 = 0 then (if x7.length < 17592186044416 then (keyequation_Chien.l0 k x1 (x7 ++ [x14]) x12 x13 (wrap64 (x14 + 1)) bt472.2.1 bt472.2.2.1 x1002 bt472.2.2.2 x1004 x1005) else (none)) else (keyequation_Chien.l0 k x1 x7 x12 x13 (wrap64 (x14 + 1)) bt472.2.1 bt472.2.2.1 x1002 bt472.2.2.2 x1004 x1005))) else (keyequation_Chien.l0 k x1 x7 x12 x13 (wrap64 (x14 + 1)) bt467.2.2.1 bt467.2.2.2.1 x1002 bt467.2.2.2.2 x1004 x1005))) else (none)) else (none)) else (some (x7, x1000, x1001, x1003))
def keyequation_Chien.f (k : Nat) (s0_0 : Int) (s0_1 : Int) (s0_2 : List Int) (s0_3 : Int) (s0_4 : List Int) (s0_5 : List Int) (l1 : List Int) (l2 : List Int) : Option (List Int × Int × Int × Int) := keyequation_Chien.l0 k l1 ([] : List Int) l2 (l2.length : Int) 0 s0_0 s0_1 s0_2 s0_3 s0_4 s0_5
set_option maxHeartbeats 8000000 in
set_option maxRecDepth 100000 in
theorem keyequation_Chien.calls (k : Nat) (g : Nat) (s0_0 : Int) (s0_1 : Int) (s0_2 : List Int) (s0_3 : Int) (s0_4 : List Int) (s0_5 : List Int) (A1 : Option Addr) (c1 : Nat) (l1 : List Int) (A2 : Option Addr) (c2 : Nat) (l2 : List Int) (r1 : List Int) (r2 : Int) (r3 : Int) (r4 : Int) (w0 w : World) (hI : IsS93 w0 w g s0_0 s0_1 s0_2 s0_3 s0_4 s0_5) (hB : Below w0.heap.size w0 w) (hr1 : Kd.C (Kd.int .i64) w A1 l1.length l1) (hc1 : l1.length ≤ c1) (hf1 : ∀ ad, A1 = some ad → 0 < l1.length → ad.block ≠ g) (hr2 : Kd.C (Kd.int .i64) w A2 l2.length l2) (hc2 : l2.length ≤ c2) (hf2 : ∀ ad, A2 = some ad → 0 < l2.length → ad.block ≠ g) (h : keyequation_Chien.f k s0_0 s0_1 s0_2 s0_3 s0_4 s0_5 l1 l2 = some (r1, r2, r3, r4)) :
  Calls Try.prog 33 #[.pointer (some ⟨g, 0, none⟩), .slice A1 l1.length c1, .slice A2 l2.length c2] w fun e w' => ∃ v0_ : Value, e = .returned (v0_) ∧ Kd.R (Kd.int .i64) 3 w' w.heap.size (fun _ => True) v0_ r1 ∧ IsS93 w0 w' g r2 r3 s0_2 r4 s0_4 s0_5 ∧ Below w0.heap.size w0 w' ∧ KeepBut w w' g none := by
 have HR1 := Aside0.mk hr1
 have HC1 := Aside0.mk hc1
 clear hr1 hc1
 have HR2 := Aside0.mk hr2
 have HC2 := Aside0.mk hc2
 clear hr2 hc2
 have HI0 := Aside0.mk hI
 have HK := Aside0.mk (KeepBut.refl w g none)
 have HL := Aside0.mk hB.size
 clear hI
 have HW0 := Aside0.mk hB.size
 have HB := Aside0.mk hB
 clear hB
 have H : (keyequation_Chien.l0 k l1 ([] : List Int) l2 (l2.length : Int) 0 s0_0 s0_1 s0_2 s0_3 s0_4 s0_5) = some (r1, r2, r3, r4) := h
 clear h
 have H' := Aside0.mk H
 clear H
 go_enter Try.func33, Try.ntmps33
 go_wp2
 go_loopg [7, 14] k (fun kq v7 v14 w' => ∃ (x7_1 : List Int) (x14_1 : Int) (x1000_1 : Int) (x1001_1 : Int) (x1003_1 : Int), v14 = .int .i64 x14_1 ∧ Aside0 (keyequation_Chien.l0 kq l1 x7_1 l2 (l2.length : Int) x14_1 x1000_1 x1001_1 s0_2 x1003_1 s0_4 s0_5 = some (r1, r2, r3, r4)) ∧ Aside0 (kq ≤ k) ∧ Aside0 (Kd.R (Kd.int .i64) 3 w' w.heap.size (fun _ => True) v7 x7_1) ∧ Aside0 (IsS93 w0 w' g x1000_1 x1001_1 s0_2 x1003_1 s0_4 s0_5) ∧ Aside0 (KeepBut w w' g none) ∧ Aside0 (Below w0.heap.size w0 w'))
 case atStart => exact ⟨(([] : List Int)), (0), (s0_0), (s0_1), (s0_3), (by rfl), H', ⟨Nat.le_refl _⟩, ⟨by (exact Kd.R_nil _ _ _ _ _)⟩, ⟨HI0.out⟩, ⟨HK.out⟩, ⟨HB.out⟩⟩
 case round =>
  clear H'
  obtain ⟨x7_1, x14_1, x1000_1, x1001_1, x1003_1, rfl, HA, HK1, HO_7, HI0, HK, HB⟩ := hrel
  cases gk with
  | zero => exact absurd HA.out (by simp [keyequation_Chien.l0])
  | succ k1 =>
   have H := HA.out
   clear HA
   simp only [keyequation_Chien.l0] at H
   by_cases c4 : x14_1 < (l2.length : Int)
   ·rw [if_pos c4] at H
    have c4b0 : decide (x14_1 < (l2.length : Int)) = true := decide_eq_true c4
    clear c4
    by_cases c5 : 0 ≤ x14_1
    ·rw [if_pos c5] at H
     have c5b0 : decide (0 ≤ x14_1) = true := decide_eq_true c5
     clear c5
     by_cases c6 : x14_1 < (l2.length : Int)
     ·rw [if_pos c6] at H
      have c6b0 : decide (x14_1 < (l2.length : Int)) = true := decide_eq_true c6
      clear c6
      replace H := Option.bind_eq_some_iff.mp H
      obtain ⟨⟨t467, t468, t469, t470, t471⟩, A70, H⟩ := H
      replace H : (if t468 = 0 then ((poly_Eval.f k1 t469 t470 s0_2 t471 s0_4 s0_5 l1 t467).bind fun bt472 => (if bt472.1 = 0 then (if x7_1.length < 17592186044416 then (keyequation_Chien.l0 k1 l1 (x7_1 ++ [x14_1]) l2 (l2.length : Int) (wrap64 (x14_1 + 1)) bt472.2.1 bt472.2.2.1 s0_2 bt472.2.2.2 s0_4 s0_5) else (none)) else (keyequation_Chien.l0 k1 l1 x7_1 l2 (l2.length : Int) (wrap64 (x14_1 + 1)) bt472.2.1 bt472.2.2.1 s0_2 bt472.2.2.2 s0_4 s0_5))) else (keyequation_Chien.l0 k1 l1 x7_1 l2 (l2.length : Int) (wrap64 (x14_1 + 1)) t469 t470 s0_2 t471 s0_4 s0_5)) = some (r1, r2, r3, r4) := H
      have A7 := Aside0.mk A70
      clear A70
      by_cases c8 : t468 = 0
      ·rw [if_pos c8] at H
       have c8b0 : (t468 == 0) = true := beq_iff_eq.mpr c8
       have c8b1 : (t468 != 0) = false := bne_eq_false_iff_eq.mpr c8
       clear c8
       replace H := Option.bind_eq_some_iff.mp H
       obtain ⟨⟨t472, t473, t474, t475⟩, A90, H⟩ := H
       replace H : (if t472 = 0 then (if x7_1.length < 17592186044416 then (keyequation_Chien.l0 k1 l1 (x7_1 ++ [x14_1]) l2 (l2.length : Int) (wrap64 (x14_1 + 1)) t473 t474 s0_2 t475 s0_4 s0_5) else (none)) else (keyequation_Chien.l0 k1 l1 x7_1 l2 (l2.length : Int) (wrap64 (x14_1 + 1)) t473 t474 s0_2 t475 s0_4 s0_5)) = some (r1, r2, r3, r4) := H
       have A9 := Aside0.mk A90
       clear A90
       by_cases c10 : t472 = 0
       ·rw [if_pos c10] at H
        have c10b0 : (t472 == 0) = true := beq_iff_eq.mpr c10
        have c10b1 : (t472 != 0) = false := bne_eq_false_iff_eq.mpr c10
        clear c10
        by_cases c11 : x7_1.length < 17592186044416
        ·rw [if_pos c11] at H
         have LMc11 := Aside0.mk c11
         clear c11
         obtain ⟨y476, hy476⟩ : ∃ y_ : List Int, y_ = (x7_1 ++ [x14_1]) := ⟨_, rfl⟩
         replace H : (keyequation_Chien.l0 k1 l1 y476 l2 (l2.length : Int) (wrap64 (x14_1 + 1)) t473 t474 s0_2 t475 s0_4 s0_5) = some (r1, r2, r3, r4) := by (rw [hy476]; with_reducible exact H)
         have Ny476 := Aside0.mk hy476
         clear hy476
         have H' := Aside0.mk H
         clear H
         have p466 : 0 ≤ (x14_1 : Int) := of_decide_eq_true (by (with_reducible assumption))
         have q466 : x14_1 < (l2.length : Int) := of_decide_eq_true (by (with_reducible assumption))
         obtain ⟨ad466, e466, hx466_0⟩ := Kd.at_int HR2.out x14_1 p466 q466
         cases e466
         replace hx466_0 := keep_cell HK.out hx466_0 (by (rw [add_block]; exact hf2 _ rfl (by omega)))
         replace p466 := eq_true p466
         replace q466 := eq_true q466
         go_wp2_with (first | ((with_reducible refine gate_callee (f := 47) rfl ?_); refine goesL_ (some 22) rfl rfl Try.func47 (by kernel_rfl) rfl #[.pointer (some ⟨g, 0, none⟩), .int .i64 (rd l2 x14_1)] rfl (by ((simp only [List.map_toArray, List.map_cons, List.map_nil])); (rfl)) ?_; (with_reducible refine (field_GF_Inv.calls g x1000_1 x1001_1 s0_2 x1003_1 s0_4 s0_5 (rd l2 x14_1) t467 t468 t469 t470 t471 w0 _ ?side1 ?side2 A7.out).mono ?_); (case side1 => repeat ((with_reducible (exact HI0.out)))); (case side2 => repeat ((with_reducible (exact HB.out)))); rintro e w12 ⟨rfl, hi, hb, hk⟩; refine ⟨_, rfl, ?_⟩; have n0_ := Aside0.mk (Kd.R_mono (Kd.R_keep (IsS93.apart (show IsS93 w0 _ g x1000_1 x1001_1 s0_2 x1003_1 s0_4 s0_5 from by exact HI0.out) HO_7.out (by decide)) hk (fun _ h => h.2)) (fun _ h => h.1)); have n1_ := Aside0.mk (KeepBut.trans HK.out hk (.inl rfl)); have n2_ := Aside0.mk (hb); have n3_ := Aside0.mk (hi); clear HO_7; clear HK; clear HB; clear HI0; have HO_7 := n0_; have HK := n1_; have HB := n2_; have HI0 := n3_; clear n0_ n1_ n2_ n3_; ((clear hb)); (skip); ((clear hk)); ((clear hi))) | (go_at_call 52; (with_reducible refine (poly_Eval.calls k1 g t469 t470 s0_2 t471 s0_4 s0_5 _ _ l1 t467 t472 t473 t474 t475 w0 _ ?side1 ?side2 ?side3 ?side4 ?side5 A9.out).mono ?_); (case side1 => repeat ((with_reducible (exact HI0.out)))); (case side2 => repeat ((with_reducible (exact HB.out)))); (case side3 => exact Kd.C_keep 0 HR1.out HK.out hf1); (case side4 => exact HC1.out); (case side5 => exact hf1); rintro e w13 ⟨rfl, hi, hb, hk⟩; have n0_ := Aside0.mk (Kd.R_mono (Kd.R_keep (IsS93.apart (show IsS93 w0 _ g t469 t470 s0_2 t471 s0_4 s0_5 from by exact HI0.out) HO_7.out (by decide)) hk (fun _ h => h.2)) (fun _ h => h.1)); have n1_ := Aside0.mk (KeepBut.trans HK.out hk (.inl rfl)); have n2_ := Aside0.mk (hb); have n3_ := Aside0.mk (hi); clear HO_7; clear HK; clear HB; clear HI0; have HO_7 := n0_; have HK := n1_; have HB := n2_; have HI0 := n3_; clear n0_ n1_ n2_ n3_; ((clear hb)); (skip); ((clear hk)); ((clear hi))) | ((with_reducible refine gate_builtin (b := .append) (xs := #[.tmp 34, .tmp 36]) rfl ?_); at_builtin; refine Kd.R_append (Kd.int .i64) w.heap.size rfl (.tmp 34) (.tmp 36) 22 3 (.int .i64 0) 8 rfl Try.underlying22 info3 rfl (by decide) (by omega) u7 x7_1 x14_1 [.int .i64 x14_1] (fun _ => True) (fun _ => False) rfl rfl ?aP (fun _ hk => hk.elim) ?aF ?aO (Below.refl _ _) ?aS ?aL ?_; (case aP => exact rfl); (case aF => exact (fun _ _ => trivial)); (case aO => exact HO_7.out); (case aS => exact (keep_size (w := w) (g := g) (row := none) HK.out)); (case aL => have := LMc11.out; omega); intro v477 w14 ho hb hg hat; rw [← Ny476.out] at ho; have n0_ := Aside0.mk (IsS93.grown HI0.out hg (IsS93.own_ne HI0.out HO_7.out (by decide))); have n1_ := Aside0.mk (below_weaken HB.out HL.out hb); have n2_ := Aside0.mk (KeepBut.trans HK.out (KeepBut.of_grown hg g) (Kd.R_base2 HO_7.out)); have n3_ := Aside0.mk (ho); clear HI0; clear HB; clear HK; clear HO_7; have HI0 := n0_; have HB := n1_; have HK := n2_; have HO478 := n3_; clear n0_ n1_ n2_ n3_; clear ho hb hg hat))
         go_roundg k1
         case measure => have := HK1.out; omega
         case rel => exact ⟨(y476), (wrap64 (x14_1 + 1)), (t473), (t474), (t475), (by rfl), H', ⟨by have := HK1.out; omega⟩, ⟨HO478.out⟩, ⟨HI0.out⟩, ⟨HK.out⟩, ⟨HB.out⟩⟩
        ·rw [if_neg c11] at H
         exact absurd H (by simp)
       ·rw [if_neg c10] at H
        have c10b0 : (t472 == 0) = false := beq_eq_false_iff_ne.mpr c10
        have c10b1 : (t472 != 0) = true := bne_iff_ne.mpr c10
        have H' := Aside0.mk H
        clear H
        have p466 : 0 ≤ (x14_1 : Int) := of_decide_eq_true (by (with_reducible assumption))
        have q466 : x14_1 < (l2.length : Int) := of_decide_eq_true (by (with_reducible assumption))
        obtain ⟨ad466, e466, hx466_0⟩ := Kd.at_int HR2.out x14_1 p466 q466
        cases e466
        replace hx466_0 := keep_cell HK.out hx466_0 (by (rw [add_block]; exact hf2 _ rfl (by omega)))
        replace p466 := eq_true p466
        replace q466 := eq_true q466
        go_wp2_with (first | ((with_reducible refine gate_callee (f := 47) rfl ?_); refine goesL_ (some 22) rfl rfl Try.func47 (by kernel_rfl) rfl #[.pointer (some ⟨g, 0, none⟩), .int .i64 (rd l2 x14_1)] rfl (by ((simp only [List.map_toArray, List.map_cons, List.map_nil])); (rfl)) ?_; (with_reducible refine (field_GF_Inv.calls g x1000_1 x1001_1 s0_2 x1003_1 s0_4 s0_5 (rd l2 x14_1) t467 t468 t469 t470 t471 w0 _ ?side1 ?side2 A7.out).mono ?_); (case side1 => repeat ((with_reducible (exact HI0.out)))); (case side2 => repeat ((with_reducible (exact HB.out)))); rintro e w15 ⟨rfl, hi, hb, hk⟩; refine ⟨_, rfl, ?_⟩; have n0_ := Aside0.mk (Kd.R_mono (Kd.R_keep (IsS93.apart (show IsS93 w0 _ g x1000_1 x1001_1 s0_2 x1003_1 s0_4 s0_5 from by exact HI0.out) HO_7.out (by decide)) hk (fun _ h => h.2)) (fun _ h => h.1)); have n1_ := Aside0.mk (KeepBut.trans HK.out hk (.inl rfl)); have n2_ := Aside0.mk (hb); have n3_ := Aside0.mk (hi); clear HO_7; clear HK; clear HB; clear HI0; have HO_7 := n0_; have HK := n1_; have HB := n2_; have HI0 := n3_; clear n0_ n1_ n2_ n3_; ((clear hb)); (skip); ((clear hk)); ((clear hi))) | (go_at_call 52; (with_reducible refine (poly_Eval.calls k1 g t469 t470 s0_2 t471 s0_4 s0_5 _ _ l1 t467 t472 t473 t474 t475 w0 _ ?side1 ?side2 ?side3 ?side4 ?side5 A9.out).mono ?_); (case side1 => repeat ((with_reducible (exact HI0.out)))); (case side2 => repeat ((with_reducible (exact HB.out)))); (case side3 => exact Kd.C_keep 0 HR1.out HK.out hf1); (case side4 => exact HC1.out); (case side5 => exact hf1); rintro e w16 ⟨rfl, hi, hb, hk⟩; have n0_ := Aside0.mk (Kd.R_mono (Kd.R_keep (IsS93.apart (show IsS93 w0 _ g t469 t470 s0_2 t471 s0_4 s0_5 from by exact HI0.out) HO_7.out (by decide)) hk (fun _ h => h.2)) (fun _ h => h.1)); have n1_ := Aside0.mk (KeepBut.trans HK.out hk (.inl rfl)); have n2_ := Aside0.mk (hb); have n3_ := Aside0.mk (hi); clear HO_7; clear HK; clear HB; clear HI0; have HO_7 := n0_; have HK := n1_; have HB := n2_; have HI0 := n3_; clear n0_ n1_ n2_ n3_; ((clear hb)); (skip); ((clear hk)); ((clear hi))))
        go_roundg k1
        case measure => have := HK1.out; omega
        case rel => exact ⟨(x7_1), (wrap64 (x14_1 + 1)), (t473), (t474), (t475), (by rfl), H', ⟨by have := HK1.out; omega⟩, ⟨HO_7.out⟩, ⟨HI0.out⟩, ⟨HK.out⟩, ⟨HB.out⟩⟩
      ·rw [if_neg c8] at H
       have c8b0 : (t468 == 0) = false := beq_eq_false_iff_ne.mpr c8
       have c8b1 : (t468 != 0) = true := bne_iff_ne.mpr c8
       have H' := Aside0.mk H
       clear H
       have p466 : 0 ≤ (x14_1 : Int) := of_decide_eq_true (by (with_reducible assumption))
       have q466 : x14_1 < (l2.length : Int) := of_decide_eq_true (by (with_reducible assumption))
       obtain ⟨ad466, e466, hx466_0⟩ := Kd.at_int HR2.out x14_1 p466 q466
       cases e466
       replace hx466_0 := keep_cell HK.out hx466_0 (by (rw [add_block]; exact hf2 _ rfl (by omega)))
       replace p466 := eq_true p466
       replace q466 := eq_true q466
       go_wp2_with (((with_reducible refine gate_callee (f := 47) rfl ?_); refine goesL_ (some 22) rfl rfl Try.func47 (by kernel_rfl) rfl #[.pointer (some ⟨g, 0, none⟩), .int .i64 (rd l2 x14_1)] rfl (by ((simp only [List.map_toArray, List.map_cons, List.map_nil])); (rfl)) ?_; (with_reducible refine (field_GF_Inv.calls g x1000_1 x1001_1 s0_2 x1003_1 s0_4 s0_5 (rd l2 x14_1) t467 t468 t469 t470 t471 w0 _ ?side1 ?side2 A7.out).mono ?_); (case side1 => repeat ((with_reducible (exact HI0.out)))); (case side2 => repeat ((with_reducible (exact HB.out)))); rintro e w17 ⟨rfl, hi, hb, hk⟩; refine ⟨_, rfl, ?_⟩; have n0_ := Aside0.mk (Kd.R_mono (Kd.R_keep (IsS93.apart (show IsS93 w0 _ g x1000_1 x1001_1 s0_2 x1003_1 s0_4 s0_5 from by exact HI0.out) HO_7.out (by decide)) hk (fun _ h => h.2)) (fun _ h => h.1)); have n1_ := Aside0.mk (KeepBut.trans HK.out hk (.inl rfl)); have n2_ := Aside0.mk (hb); have n3_ := Aside0.mk (hi); clear HO_7; clear HK; clear HB; clear HI0; have HO_7 := n0_; have HK := n1_; have HB := n2_; have HI0 := n3_; clear n0_ n1_ n2_ n3_; ((clear hb)); (skip); ((clear hk)); ((clear hi))))
       go_roundg k1
       case measure => have := HK1.out; omega
       case rel => exact ⟨(x7_1), (wrap64 (x14_1 + 1)), (t469), (t470), (t471), (by rfl), H', ⟨by have := HK1.out; omega⟩, ⟨HO_7.out⟩, ⟨HI0.out⟩, ⟨HK.out⟩, ⟨HB.out⟩⟩
     ·rw [if_neg c6] at H
      exact absurd H (by simp)
    ·rw [if_neg c5] at H
     exact absurd H (by simp)
   ·rw [if_neg c4] at H
    have c4b0 : decide (x14_1 < (l2.length : Int)) = false := decide_eq_false c4
    clear c4
    simp only [Option.some.injEq, Prod.mk.injEq] at H
    obtain ⟨rfl, rfl, rfl, rfl⟩ := H
    go_wp2
    go_ret
    exact ⟨_, by rfl, by exact HO_7.out, by exact HI0.out, by exact HB.out, by exact HK.out⟩
def lfsr_gap.l0 : Nat → List Int → Int → Int → List Int → Int → Int → Int → Int → List Int → Int → List Int → List Int → Option (Int × Int × Int × Int)
 | 0, _, _, _, _, _, _, _, _, _, _, _, _ => none
 | k + 1, x2, x3, x9, x12, x13, x14, x1000, x1001, x1002, x1003, x1004, x1005 => if x14 < x13 then (if 0 ≤ x14 then (if x14 < (x12.length : Int) then (if x14 ≤ x3 then (if 0 ≤ (wrap64 (x3 - x14)) then (if (wrap64 (x3 - x14)) < (x2.length : Int) then ((field_GF_Mul.f x1000 x1001 x1002 x1003 x1004 x1005 (rd x12 x14) (rd x2 (wrap64 (x3 - x14)))).bind fun bt481 => ((field_GF_Add.f k bt481.2.1 bt481.2.2.1 x1002 bt481.2.2.2 x1004 x1005 x9 bt481.1).bind fun bt485 => (lfsr_gap.l0 k x2 x3 bt485.1 x12 x13 (wrap64 (x14 + 1)) bt485.2.1 bt485.2.2.1 x1002 bt485.2.2.2 x1004 x1005))) else (none)) else (none)) else (lfsr_gap.l0 k x2 x3 x9 x12 x13 (wrap64 (x14 + 1)) x1000 x1001 x1002 x1003 x1004 x1005)) else (none)) else (none)) else (some (x9, x1000, x1001, x1003))
def lfsr_gap.f (k : Nat) (s0_0 : Int) (s0_1 : Int) (s0_2 : List Int) (s0_3 : Int) (s0_4 : List Int) (s0_5 : List Int) (l1 : List Int) (l2 : List Int) (a3 : Int) : Option (Int × Int × Int × Int) := lfsr_gap.l0 k l2 a3 0 l1 (l1.length : Int) 0 s0_0 s0_1 s0_2 s0_3 s0_4 s0_5
set_option maxHeartbeats 8000000 in
set_option maxRecDepth 100000 in
theorem lfsr_gap.calls (k : Nat) (g : Nat) (s0_0 : Int) (s0_1 : Int) (s0_2 : List Int) (s0_3 : Int) (s0_4 : List Int) (s0_5 : List Int) (A1 : Option Addr) (c1 : Nat) (l1 : List Int) (A2 : Option Addr) (c2 : Nat) (l2 : List Int) (a3 : Int) (r1 : Int) (r2 : Int) (r3 : Int) (r4 : Int) (w0 w : World) (hI : IsS93 w0 w g s0_0 s0_1 s0_2 s0_3 s0_4 s0_5) (hB : Below w0.heap.size w0 w) (hr1 : Kd.C (Kd.int .i64) w A1 l1.length l1) (hc1 : l1.length ≤ c1) (hf1 : ∀ ad, A1 = some ad → 0 < l1.length → ad.block ≠ g) (hr2 : Kd.C (Kd.int .i64) w A2 l2.length l2) (hc2 : l2.length ≤ c2) (hf2 : ∀ ad, A2 = some ad → 0 < l2.length → ad.block ≠ g) (h : lfsr_gap.f k s0_0 s0_1 s0_2 s0_3 s0_4 s0_5 l1 l2 a3 = some (r1, r2, r3, r4)) :
  Calls Try.prog 77 #[.pointer (some ⟨g, 0, none⟩), .slice A1 l1.length c1, .slice A2 l2.length c2, .int .i64 a3] w fun e w' => e = .returned (.int .i64 r1) ∧ IsS93 w0 w' g r2 r3 s0_2 r4 s0_4 s0_5 ∧ Below w0.heap.size w0 w' ∧ KeepBut w w' g none := by
 have HR1 := Aside0.mk hr1
 have HC1 := Aside0.mk hc1
 clear hr1 hc1
 have HR2 := Aside0.mk hr2
 have HC2 := Aside0.mk hc2
 clear hr2 hc2
 have HI0 := Aside0.mk hI
 have HK := Aside0.mk (KeepBut.refl w g none)
 have HL := Aside0.mk hB.size
 clear hI
 have HW0 := Aside0.mk hB.size
 have HB := Aside0.mk hB
 clear hB
 have H : (lfsr_gap.l0 k l2 a3 0 l1 (l1.length : Int) 0 s0_0 s0_1 s0_2 s0_3 s0_4 s0_5) = some (r1, r2, r3, r4) := h
 clear h
 have H' := Aside0.mk H
 clear H
 go_enter Try.func77, Try.ntmps77
 go_wp2
 go_loopg [9, 14] k (fun kq v9 v14 w' => ∃ (x9_1 : Int) (x14_1 : Int) (x1000_1 : Int) (x1001_1 : Int) (x1003_1 : Int), v9 = .int .i64 x9_1 ∧ v14 = .int .i64 x14_1 ∧ Aside0 (lfsr_gap.l0 kq l2 a3 x9_1 l1 (l1.length : Int) x14_1 x1000_1 x1001_1 s0_2 x1003_1 s0_4 s0_5 = some (r1, r2, r3, r4)) ∧ Aside0 (kq ≤ k) ∧ Aside0 (IsS93 w0 w' g x1000_1 x1001_1 s0_2 x1003_1 s0_4 s0_5) ∧ Aside0 (KeepBut w w' g none) ∧ Aside0 (Below w0.heap.size w0 w'))
 case atStart => exact ⟨(0), (0), (s0_0), (s0_1), (s0_3), (by rfl), (by rfl), H', ⟨Nat.le_refl _⟩, ⟨HI0.out⟩, ⟨HK.out⟩, ⟨HB.out⟩⟩
 case round =>
  clear H'
  obtain ⟨x9_1, x14_1, x1000_1, x1001_1, x1003_1, rfl, rfl, HA, HK1, HI0, HK, HB⟩ := hrel
  cases gk with
  | zero => exact absurd HA.out (by simp [lfsr_gap.l0])
  | succ k1 =>
   have H := HA.out
   clear HA
   simp only [lfsr_gap.l0] at H
   by_cases c5 : x14_1 < (l1.length : Int)
   ·rw [if_pos c5] at H
    have c5b0 : decide (x14_1 < (l1.length : Int)) = true := decide_eq_true c5
    clear c5
    by_cases c6 : 0 ≤ x14_1
    ·rw [if_pos c6] at H
     have c6b0 : decide (0 ≤ x14_1) = true := decide_eq_true c6
     clear c6
     by_cases c7 : x14_1 < (l1.length : Int)
     ·rw [if_pos c7] at H
      have c7b0 : decide (x14_1 < (l1.length : Int)) = true := decide_eq_true c7
      clear c7
      by_cases c8 : x14_1 ≤ a3
      ·rw [if_pos c8] at H
       have c8b0 : decide (x14_1 ≤ a3) = true := decide_eq_true c8
       clear c8
       obtain ⟨ji9, hji9⟩ : ∃ j_ : Int, (wrap64 (a3 - x14_1)) = j_ := ⟨_, rfl⟩
       replace H : (if 0 ≤ (ji9) then (if (ji9) < (l2.length : Int) then ((field_GF_Mul.f x1000_1 x1001_1 s0_2 x1003_1 s0_4 s0_5 (rd l1 x14_1) (rd l2 (ji9))).bind fun bt481 => ((field_GF_Add.f k1 bt481.2.1 bt481.2.2.1 s0_2 bt481.2.2.2 s0_4 s0_5 x9_1 bt481.1).bind fun bt485 => (lfsr_gap.l0 k1 l2 a3 bt485.1 l1 (l1.length : Int) (wrap64 (x14_1 + 1)) bt485.2.1 bt485.2.2.1 s0_2 bt485.2.2.2 s0_4 s0_5))) else (none)) else (none)) = some (r1, r2, r3, r4) := by (rw [hji9] at H; exact H)
       have hji9w : (IntKind.i64.wrap (a3 - x14_1)) = ji9 := (i64_w _).trans hji9
       by_cases c10 : 0 ≤ (ji9)
       ·rw [if_pos c10] at H
        have c10b0 : decide (0 ≤ (ji9)) = true := decide_eq_true c10
        clear c10
        by_cases c11 : (ji9) < (l2.length : Int)
        ·rw [if_pos c11] at H
         have c11b0 : decide ((ji9) < (l2.length : Int)) = true := decide_eq_true c11
         clear c11
         replace H := Option.bind_eq_some_iff.mp H
         obtain ⟨⟨t481, t482, t483, t484⟩, A120, H⟩ := H
         replace H : ((field_GF_Add.f k1 t482 t483 s0_2 t484 s0_4 s0_5 x9_1 t481).bind fun bt485 => (lfsr_gap.l0 k1 l2 a3 bt485.1 l1 (l1.length : Int) (wrap64 (x14_1 + 1)) bt485.2.1 bt485.2.2.1 s0_2 bt485.2.2.2 s0_4 s0_5)) = some (r1, r2, r3, r4) := H
         have A12 := Aside0.mk A120
         clear A120
         replace H := Option.bind_eq_some_iff.mp H
         obtain ⟨⟨t485, t486, t487, t488⟩, A130, H⟩ := H
         replace H : (lfsr_gap.l0 k1 l2 a3 t485 l1 (l1.length : Int) (wrap64 (x14_1 + 1)) t486 t487 s0_2 t488 s0_4 s0_5) = some (r1, r2, r3, r4) := H
         have A13 := Aside0.mk A130
         clear A130
         have H' := Aside0.mk H
         clear H
         have p479 : 0 ≤ (x14_1 : Int) := of_decide_eq_true (by (with_reducible assumption))
         have q479 : x14_1 < (l1.length : Int) := of_decide_eq_true (by (with_reducible assumption))
         obtain ⟨ad479, e479, hx479_0⟩ := Kd.at_int HR1.out x14_1 p479 q479
         cases e479
         replace hx479_0 := keep_cell HK.out hx479_0 (by (rw [add_block]; exact hf1 _ rfl (by omega)))
         replace p479 := eq_true p479
         replace q479 := eq_true q479
         have p480 : 0 ≤ ((ji9) : Int) := of_decide_eq_true (by (with_reducible assumption))
         have q480 : (ji9) < (l2.length : Int) := of_decide_eq_true (by (with_reducible assumption))
         obtain ⟨ad480, e480, hx480_0⟩ := Kd.at_int HR2.out (ji9) p480 q480
         cases e480
         replace hx480_0 := keep_cell HK.out hx480_0 (by (rw [add_block]; exact hf2 _ rfl (by omega)))
         replace p480 := eq_true p480
         replace q480 := eq_true q480
         go_wp2_with (first | ((with_reducible refine gate_callee (f := 54) rfl ?_); refine goesL_ (some 32) rfl rfl Try.func54 (by kernel_rfl) rfl #[.pointer (some ⟨g, 0, none⟩), .int .i64 (rd l1 x14_1), .int .i64 (rd l2 (ji9))] rfl (by ((simp only [List.map_toArray, List.map_cons, List.map_nil])); (rfl)) ?_; (with_reducible refine (field_GF_Mul.calls g x1000_1 x1001_1 s0_2 x1003_1 s0_4 s0_5 (rd l1 x14_1) (rd l2 (ji9)) t481 t482 t483 t484 w0 _ ?side1 ?side2 A12.out).mono ?_); (case side1 => repeat ((with_reducible (exact HI0.out)))); (case side2 => repeat ((with_reducible (exact HB.out)))); rintro e w14 ⟨rfl, hi, hb, hk⟩; refine ⟨_, rfl, ?_⟩; have n0_ := Aside0.mk (KeepBut.trans HK.out hk (.inl rfl)); have n1_ := Aside0.mk (hb); have n2_ := Aside0.mk (hi); clear HK; clear HB; clear HI0; have HK := n0_; have HB := n1_; have HI0 := n2_; clear n0_ n1_ n2_; ((clear hb)); (skip); ((clear hk)); ((clear hi))) | ((with_reducible refine gate_callee (f := 53) rfl ?_); refine goesL_ (some 33) rfl rfl Try.func53 (by kernel_rfl) rfl #[.pointer (some ⟨g, 0, none⟩), .int .i64 x9_1, .int .i64 t481] rfl (by ((simp only [List.map_toArray, List.map_cons, List.map_nil])); (rfl)) ?_; (with_reducible refine (field_GF_Add.calls k1 g t482 t483 s0_2 t484 s0_4 s0_5 x9_1 t481 t485 t486 t487 t488 w0 _ ?side1 ?side2 A13.out).mono ?_); (case side1 => repeat ((with_reducible (exact HI0.out)))); (case side2 => repeat ((with_reducible (exact HB.out)))); rintro e w15 ⟨rfl, hi, hb, hk⟩; refine ⟨_, rfl, ?_⟩; have n0_ := Aside0.mk (KeepBut.trans HK.out hk (.inl rfl)); have n1_ := Aside0.mk (hb); have n2_ := Aside0.mk (hi); clear HK; clear HB; clear HI0; have HK := n0_; have HB := n1_; have HI0 := n2_; clear n0_ n1_ n2_; ((clear hb)); (skip); ((clear hk)); ((clear hi))))
         go_roundg k1
         case measure => have := HK1.out; omega
         case rel => exact ⟨(t485), (wrap64 (x14_1 + 1)), (t486), (t487), (t488), (by rfl), (by rfl), H', ⟨by have := HK1.out; omega⟩, ⟨HI0.out⟩, ⟨HK.out⟩, ⟨HB.out⟩⟩
        ·rw [if_neg c11] at H
         exact absurd H (by simp)
       ·rw [if_neg c10] at H
        exact absurd H (by simp)
      ·rw [if_neg c8] at H
       have c8b0 : decide (x14_1 ≤ a3) = false := decide_eq_false c8
       clear c8
       have H' := Aside0.mk H
       clear H
       have p479 : 0 ≤ (x14_1 : Int) := of_decide_eq_true (by (with_reducible assumption))
       have q479 : x14_1 < (l1.length : Int) := of_decide_eq_true (by (with_reducible assumption))
       obtain ⟨ad479, e479, hx479_0⟩ := Kd.at_int HR1.out x14_1 p479 q479
       cases e479
       replace hx479_0 := keep_cell HK.out hx479_0 (by (rw [add_block]; exact hf1 _ rfl (by omega)))
       replace p479 := eq_true p479
       replace q479 := eq_true q479
       go_wp2
       go_roundg k1
       case measure => have := HK1.out; omega
       case rel => exact ⟨(x9_1), (wrap64 (x14_1 + 1)), (x1000_1), (x1001_1), (x1003_1), (by rfl), (by rfl), H', ⟨by have := HK1.out; omega⟩, ⟨HI0.out⟩, ⟨HK.out⟩, ⟨HB.out⟩⟩
     ·rw [if_neg c7] at H
      exact absurd H (by simp)
    ·rw [if_neg c6] at H
     exact absurd H (by simp)
   ·rw [if_neg c5] at H
    have c5b0 : decide (x14_1 < (l1.length : Int)) = false := decide_eq_false c5
    clear c5
    simp only [Option.some.injEq, Prod.mk.injEq] at H
    obtain ⟨rfl, rfl, rfl, rfl⟩ := H
    go_wp2
    go_ret
    exact ⟨by rfl, by exact HI0.out, by exact HB.out, by exact HK.out⟩
end Go.Proofs.Ytkdakjlopheefaa.PA
end
section
namespace Go.Proofs.Ytkdakjlopheefaa.PA
open Go.RowKit Go.Proofs.YtkdakjlopheefaaW.PrintWords Go.Proofs.YtkdakjlopheefaaW.PrintLast Go.Proofs.YtkdakjlopheefaaW.PrintMore
attribute [local go_sem] max2_int min2_int max_two min_two max_three min_three max_four min_four
set_option linter.unusedVariables false
set_option linter.unusedSimpArgs false
def codewrightref04_Is.f (k : Nat) (a0_0 : Int) (a0_1 : Int) (l0_2 : List Int) (a1 : Int) : Option (Bool) := if a1 ≥ 0 then ((codewrightref04_Order.f k a0_0 a0_1 l0_2).bind fun t492 => (some (decide (a1 < t492)))) else (some false)
def codewrightref04_In.f (k : Nat) (a0_0 : Int) (a0_1 : Int) (l0_2 : List Int) (a1 : Int) : Option (Int) := (codewrightref04_Is.f k a0_0 a0_1 l0_2 a1).bind fun t494 => (if t494 = true then (some a1) else (some 0))
end Go.Proofs.Ytkdakjlopheefaa.PA
end
section
namespace Go.Proofs.Ytkdakjlopheefaa.PA
open Go.RowKit Go.Proofs.YtkdakjlopheefaaW.PrintWords Go.Proofs.YtkdakjlopheefaaW.PrintLast Go.Proofs.YtkdakjlopheefaaW.PrintMore
attribute [local go_sem] max2_int min2_int max_two min_two max_three min_three max_four min_four
set_option linter.unusedVariables false
set_option linter.unusedSimpArgs false
def codewrightref04_Digits.f (k : Nat) (a0_0 : Int) (a0_1 : Int) (l0_2 : List Int) (a1 : Int) : Option (List Int) := (codewrightref04_In.f k a0_0 a0_1 l0_2 a1).bind fun t514 => ((codewrightref04_digits.f k t514 a0_0 a0_1).bind fun t515 => (some t515))
def codewrightref04_Value.l0 : Nat → List Int → Int → Int → Int → Int → List Int → Option (Int)
 | 0, _, _, _, _, _, _ => none
 | k + 1, x1, x5, x6, x519000, x519001, x519002 => if x6 ≥ 0 then (if 0 ≤ x6 then (if x6 < (x1.length : Int) then (codewrightref04_Value.l0 k x1 (wrap64 ((wrap64 (x5 * x519000)) + (rd x1 x6))) (wrap64 (x6 - 1)) x519000 x519001 x519002) else (none)) else (none)) else (some x5)
def codewrightref04_Value.f (k : Nat) (a0_0 : Int) (a0_1 : Int) (l0_2 : List Int) (l1 : List Int) : Option (Int) := codewrightref04_Value.l0 k l1 0 (wrap64 ((l1.length : Int) - 1)) a0_0 a0_1 l0_2
end Go.Proofs.Ytkdakjlopheefaa.PA
end
section
namespace Go.Proofs.Ytkdakjlopheefaa.PA
open Go.RowKit Go.Proofs.YtkdakjlopheefaaW.PrintWords Go.Proofs.YtkdakjlopheefaaW.PrintLast Go.Proofs.YtkdakjlopheefaaW.PrintMore
attribute [local go_sem] max2_int min2_int max_two min_two max_three min_three max_four min_four
set_option linter.unusedVariables false
set_option linter.unusedSimpArgs false
mutual
def codewrightref04_Mul.l0 : Nat → List Int → List Int → List Int → Int → Int → Int → List Int → Option (Int)
 | 0, _, _, _, _, _, _, _ => none
 | k + 1, x7, x8, x9, x10, x521000, x521001, x521002 => if x10 < x521001 then (codewrightref04_Mul.l1 k x7 x8 x9 x10 0 x521000 x521001 x521002) else (codewrightref04_Mul.l2 k x9 (wrap64 ((wrap64 (2 * x521001)) - 2)) x521000 x521001 x521002)
def codewrightref04_Mul.l1 : Nat → List Int → List Int → List Int → Int → Int → Int → Int → List Int → Option (Int)
 | 0, _, _, _, _, _, _, _, _ => none
 | k + 1, x7, x8, x9, x10, x11, x521000, x521001, x521002 => if x11 < x521001 then (if 0 ≤ (wrap64 (x10 + x11)) then (if (wrap64 (x10 + x11)) < (x9.length : Int) then (if 0 ≤ x10 then (if x10 < (x7.length : Int) then (if 0 ≤ x11 then (if x11 < (x8.length : Int) then (if x521000 = 0 then (none) else (codewrightref04_Mul.l1 k x7 x8 (x9.set ((wrap64 (x10 + x11)) : Int).toNat (Int.tmod (wrap64 ((rd x9 (wrap64 (x10 + x11))) + (wrap64 ((rd x7 x10) * (rd x8 x11))))) x521000)) x10 (wrap64 (x11 + 1)) x521000 x521001 x521002)) else (none)) else (none)) else (none)) else (none)) else (none)) else (none)) else (codewrightref04_Mul.l0 k x7 x8 x9 (wrap64 (x10 + 1)) x521000 x521001 x521002)
def codewrightref04_Mul.l2 : Nat → List Int → Int → Int → Int → List Int → Option (Int)
 | 0, _, _, _, _, _ => none
 | k + 1, x9, x12, x521000, x521001, x521002 => if x12 ≥ x521001 then (codewrightref04_Mul.l3 k x9 x12 0 x521000 x521001 x521002) else (if 0 ≤ x521001 then (if x521001 ≤ (x9.length : Int) then ((codewrightref04_Value.f k x521000 x521001 x521002 (x9.take (x521001 : Int).toNat)).bind fun t538 => (some t538)) else (none)) else (none))
def codewrightref04_Mul.l3 : Nat → List Int → Int → Int → Int → Int → List Int → Option (Int)
 | 0, _, _, _, _, _, _ => none
 | k + 1, x9, x12, x13, x521000, x521001, x521002 => if x13 < x521001 then (if 0 ≤ (wrap64 ((wrap64 (x12 - x521001)) + x13)) then (if (wrap64 ((wrap64 (x12 - x521001)) + x13)) < (x9.length : Int) then (if 0 ≤ x12 then (if x12 < (x9.length : Int) then (if 0 ≤ x13 then (if x13 < (x521002.length : Int) then (if x521000 = 0 then (none) else (codewrightref04_Mul.l3 k (x9.set ((wrap64 ((wrap64 (x12 - x521001)) + x13)) : Int).toNat (Int.tmod (wrap64 ((rd x9 (wrap64 ((wrap64 (x12 - x521001)) + x13))) + (wrap64 ((wrap64 (x521000 - (rd x9 x12))) * (rd x521002 x13))))) x521000)) x12 (wrap64 (x13 + 1)) x521000 x521001 x521002)) else (none)) else (none)) else (none)) else (none)) else (none)) else (none)) else (codewrightref04_Mul.l2 k x9 (wrap64 (x12 - 1)) x521000 x521001 x521002)
end
def codewrightref04_Mul.f (k : Nat) (a0_0 : Int) (a0_1 : Int) (l0_2 : List Int) (a1 : Int) (a2 : Int) : Option (Int) := (codewrightref04_Digits.f k a0_0 a0_1 l0_2 a1).bind fun t521 => ((codewrightref04_Digits.f k a0_0 a0_1 l0_2 a2).bind fun t524 => (if 0 ≤ (wrap64 ((wrap64 (2 * a0_1)) - 1)) then (if (wrap64 ((wrap64 (2 * a0_1)) - 1) : Int).toNat ≤ 35184372088832 then (codewrightref04_Mul.l0 k t521 t524 (List.replicate (wrap64 ((wrap64 (2 * a0_1)) - 1) : Int).toNat 0) 0 a0_0 a0_1 l0_2) else (none)) else (none)))
end Go.Proofs.Ytkdakjlopheefaa.PA
end
section
namespace Go.Proofs.Ytkdakjlopheefaa.PA
open Go.RowKit Go.Proofs.YtkdakjlopheefaaW.PrintWords Go.Proofs.YtkdakjlopheefaaW.PrintLast Go.Proofs.YtkdakjlopheefaaW.PrintMore
attribute [local go_sem] max2_int min2_int max_two min_two max_three min_three max_four min_four
set_option linter.unusedVariables false
set_option linter.unusedSimpArgs false
def codewrightref04_Add.l0 : Nat → List Int → List Int → Int → Int → Int → List Int → Option (Int)
 | 0, _, _, _, _, _, _ => none
 | k + 1, x7, x8, x9, x544000, x544001, x544002 => if x9 < (x7.length : Int) then (if 0 ≤ x9 then (if x9 < (x8.length : Int) then (if x544000 = 0 then (none) else (codewrightref04_Add.l0 k (x7.set (x9 : Int).toNat (Int.tmod (wrap64 ((rd x7 x9) + (rd x8 x9))) x544000)) x8 (wrap64 (x9 + 1)) x544000 x544001 x544002)) else (none)) else (none)) else ((codewrightref04_Value.f k x544000 x544001 x544002 x7).bind fun t553 => (some t553))
def codewrightref04_Add.f (k : Nat) (a0_0 : Int) (a0_1 : Int) (l0_2 : List Int) (a1 : Int) (a2 : Int) : Option (Int) := (codewrightref04_Digits.f k a0_0 a0_1 l0_2 a1).bind fun t544 => ((codewrightref04_Digits.f k a0_0 a0_1 l0_2 a2).bind fun t547 => (codewrightref04_Add.l0 k t544 t547 0 a0_0 a0_1 l0_2))
end Go.Proofs.Ytkdakjlopheefaa.PA
end
section
namespace Go.Proofs.Ytkdakjlopheefaa.PA
open Go.RowKit Go.Proofs.YtkdakjlopheefaaW.PrintWords Go.Proofs.YtkdakjlopheefaaW.PrintLast Go.Proofs.YtkdakjlopheefaaW.PrintMore
attribute [local go_sem] max2_int min2_int max_two min_two max_three min_three max_four min_four
set_option linter.unusedVariables false
set_option linter.unusedSimpArgs false
end Go.Proofs.Ytkdakjlopheefaa.PA
end
section
namespace Go.Proofs.Ytkdakjlopheefaa.PA
open Go.RowKit Go.Proofs.YtkdakjlopheefaaW.PrintWords Go.Proofs.YtkdakjlopheefaaW.PrintLast Go.Proofs.YtkdakjlopheefaaW.PrintMore
attribute [local go_sem] max2_int min2_int max_two min_two max_three min_three max_four min_four
set_option linter.unusedVariables false
set_option linter.unusedSimpArgs false
end Go.Proofs.Ytkdakjlopheefaa.PA
end
section
namespace Go.Proofs.Ytkdakjlopheefaa.PA
open Go.RowKit Go.Proofs.YtkdakjlopheefaaW.PrintWords Go.Proofs.YtkdakjlopheefaaW.PrintLast Go.Proofs.YtkdakjlopheefaaW.PrintMore
attribute [local go_sem] max2_int min2_int max_two min_two max_three min_three max_four min_four
set_option linter.unusedVariables false
set_option linter.unusedSimpArgs false
end Go.Proofs.Ytkdakjlopheefaa.PA
end
section
namespace Go.Proofs.Ytkdakjlopheefaa.PA
open Go.RowKit Go.Proofs.YtkdakjlopheefaaW.PrintWords Go.Proofs.YtkdakjlopheefaaW.PrintLast Go.Proofs.YtkdakjlopheefaaW.PrintMore
attribute [local go_sem] max2_int min2_int max_two min_two max_three min_three max_four min_four
set_option linter.unusedVariables false
set_option linter.unusedSimpArgs false
end Go.Proofs.Ytkdakjlopheefaa.PA
end
section
namespace Go.Proofs.Ytkdakjlopheefaa.PA
open Go.RowKit Go.Proofs.YtkdakjlopheefaaW.PrintWords Go.Proofs.YtkdakjlopheefaaW.PrintLast Go.Proofs.YtkdakjlopheefaaW.PrintMore
attribute [local go_sem] max2_int min2_int max_two min_two max_three min_three max_four min_four
set_option linter.unusedVariables false
set_option linter.unusedSimpArgs false
end Go.Proofs.Ytkdakjlopheefaa.PA
end
section
namespace Go.Proofs.Ytkdakjlopheefaa.PA
open Go.RowKit Go.Proofs.YtkdakjlopheefaaW.PrintWords Go.Proofs.YtkdakjlopheefaaW.PrintLast Go.Proofs.YtkdakjlopheefaaW.PrintMore
attribute [local go_sem] max2_int min2_int max_two min_two max_three min_three max_four min_four
set_option linter.unusedVariables false
set_option linter.unusedSimpArgs false
def codewrightref04_Neg.l0 : Nat → List Int → Int → Int → Int → List Int → Option (Int)
 | 0, _, _, _, _, _ => none
 | k + 1, x5, x6, x687000, x687001, x687002 => if x6 < (x5.length : Int) then (if 0 ≤ x6 then (if x687000 = 0 then (none) else (codewrightref04_Neg.l0 k (x5.set (x6 : Int).toNat (Int.tmod (wrap64 (x687000 - (rd x5 x6))) x687000)) (wrap64 (x6 + 1)) x687000 x687001 x687002)) else (none)) else ((codewrightref04_Value.f k x687000 x687001 x687002 x5).bind fun t692 => (some t692))
def codewrightref04_Neg.f (k : Nat) (a0_0 : Int) (a0_1 : Int) (l0_2 : List Int) (a1 : Int) : Option (Int) := (codewrightref04_Digits.f k a0_0 a0_1 l0_2 a1).bind fun t687 => (codewrightref04_Neg.l0 k t687 0 a0_0 a0_1 l0_2)
end Go.Proofs.Ytkdakjlopheefaa.PA
end
section
namespace Go.Proofs.Ytkdakjlopheefaa.PA
open Go.RowKit Go.Proofs.YtkdakjlopheefaaW.PrintWords Go.Proofs.YtkdakjlopheefaaW.PrintLast Go.Proofs.YtkdakjlopheefaaW.PrintMore
attribute [local go_sem] max2_int min2_int max_two min_two max_three min_three max_four min_four
set_option linter.unusedVariables false
set_option linter.unusedSimpArgs false
end Go.Proofs.Ytkdakjlopheefaa.PA
end
section
namespace Go.Proofs.Ytkdakjlopheefaa.PA
open Go.RowKit Go.Proofs.YtkdakjlopheefaaW.PrintWords Go.Proofs.YtkdakjlopheefaaW.PrintLast Go.Proofs.YtkdakjlopheefaaW.PrintMore
attribute [local go_sem] max2_int min2_int max_two min_two max_three min_three max_four min_four
set_option linter.unusedVariables false
set_option linter.unusedSimpArgs false
end Go.Proofs.Ytkdakjlopheefaa.PA
end
section
namespace Go.Proofs.Ytkdakjlopheefaa.PA
open Go.RowKit Go.Proofs.YtkdakjlopheefaaW.PrintWords Go.Proofs.YtkdakjlopheefaaW.PrintLast Go.Proofs.YtkdakjlopheefaaW.PrintMore
attribute [local go_sem] max2_int min2_int max_two min_two max_three min_three max_four min_four
set_option linter.unusedVariables false
set_option linter.unusedSimpArgs false
end Go.Proofs.Ytkdakjlopheefaa.PA
end
section
namespace Go.Proofs.Ytkdakjlopheefaa.PA
open Go.RowKit Go.Proofs.YtkdakjlopheefaaW.PrintWords Go.Proofs.YtkdakjlopheefaaW.PrintLast Go.Proofs.YtkdakjlopheefaaW.PrintMore
attribute [local go_sem] max2_int min2_int max_two min_two max_three min_three max_four min_four
set_option linter.unusedVariables false
set_option linter.unusedSimpArgs false
end Go.Proofs.Ytkdakjlopheefaa.PA
end
section
namespace Go.Proofs.Ytkdakjlopheefaa.PA
open Go.RowKit Go.Proofs.YtkdakjlopheefaaW.PrintWords Go.Proofs.YtkdakjlopheefaaW.PrintLast Go.Proofs.YtkdakjlopheefaaW.PrintMore
attribute [local go_sem] max2_int min2_int max_two min_two max_three min_three max_four min_four
set_option linter.unusedVariables false
set_option linter.unusedSimpArgs false
end Go.Proofs.Ytkdakjlopheefaa.PA
end
section
namespace Go.Proofs.Ytkdakjlopheefaa.PA
open Go.RowKit Go.Proofs.YtkdakjlopheefaaW.PrintWords Go.Proofs.YtkdakjlopheefaaW.PrintLast Go.Proofs.YtkdakjlopheefaaW.PrintMore
attribute [local go_sem] max2_int min2_int max_two min_two max_three min_three max_four min_four
set_option linter.unusedVariables false
set_option linter.unusedSimpArgs false
end Go.Proofs.Ytkdakjlopheefaa.PA
end
section
namespace Go.Proofs.Ytkdakjlopheefaa.PA
open Go.RowKit Go.Proofs.YtkdakjlopheefaaW.PrintWords Go.Proofs.YtkdakjlopheefaaW.PrintLast Go.Proofs.YtkdakjlopheefaaW.PrintMore
attribute [local go_sem] max2_int min2_int max_two min_two max_three min_three max_four min_four
set_option linter.unusedVariables false
set_option linter.unusedSimpArgs false
end Go.Proofs.Ytkdakjlopheefaa.PA
end
section
namespace Go.Proofs.Ytkdakjlopheefaa.PA
open Go.RowKit Go.Proofs.YtkdakjlopheefaaW.PrintWords Go.Proofs.YtkdakjlopheefaaW.PrintLast Go.Proofs.YtkdakjlopheefaaW.PrintMore
theorem Ev.succ {α : Type} {g : Nat → Option α} {r : α} (h : Ev (fun k => g (k + 1)) r) : Ev g r := Ev.step (fun _ => rfl) h
theorem Ev.ifp {α : Type} {c : Prop} [Decidable c] {f g : Nat → Option α} {r : α} (h : c) (e : Ev f r) : Ev (fun k => if c then f k else g k) r := by simp only [if_pos h]; exact e
theorem Ev.ifn {α : Type} {c : Prop} [Decidable c] {f g : Nat → Option α} {r : α} (h : ¬ c) (e : Ev g r) : Ev (fun k => if c then f k else g k) r := by simp only [if_neg h]; exact e
theorem Ev.val {α : Type} {a r : α} (h : a = r) : Ev (fun _ => some a) r := h ▸ Ev.now a
theorem Ev.some_bind {α β : Type} {a : α} {f : Nat → α → Option β} {r : β} (h : Ev (fun k => f k a) r) : Ev (fun k => (some a).bind (f k)) r := h
theorem Ev.opt_bind {α β : Type} {o : Option α} {a : α} {f : Nat → α → Option β} {r : β} (h0 : o = some a) (h : Ev (fun k => f k a) r) : Ev (fun k => o.bind (f k)) r := by subst h0; exact h
theorem w64 {n : Int} (h : -4000000000000000000 ≤ n ∧ n ≤ 4000000000000000000) : wrap64 n = n := by unfold wrap64; omega
theorem rd_nat (xs : List Int) (j : Nat) : rd xs (j : Int) = xs.getD j 0 := by unfold rd; rw [Int.toNat_natCast]
theorem rd_set (xs : List Int) (i j : Nat) (v : Int) (h : i < xs.length) : (xs.set i v).getD j 0 = if i = j then v else xs.getD j 0 := by
  rw [List.getD_eq_getElem?_getD, List.getElem?_set]
  split
  · rename_i e; subst e; simp [h]
  · rw [List.getD_eq_getElem?_getD]
theorem tdiv_pos {a b : Int} (h : 0 ≤ a) : Int.tdiv a b = a / b := Int.tdiv_eq_ediv_of_nonneg h
theorem tmod_pos {a b : Int} (h : 0 ≤ a) : Int.tmod a b = a % b := Int.tmod_eq_emod_of_nonneg h
theorem getD_nat_lt (xs : List Int) (j : Nat) (h : xs.length ≤ j) : xs.getD j 0 = 0 := by
  rw [List.getD_eq_getElem?_getD, List.getElem?_eq_none h]; rfl
theorem getD_zeros (n j : Nat) : (List.replicate n (0 : Int)).getD j 0 = 0 := by
  rw [List.getD_eq_getElem?_getD, List.getElem?_replicate]; split <;> rfl
end Go.Proofs.Ytkdakjlopheefaa.PA
end
