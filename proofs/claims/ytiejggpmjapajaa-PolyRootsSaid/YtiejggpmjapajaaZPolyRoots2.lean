/- Proved: for every input the law PolyRoots returns true and leaves its arguments as they were; no conditions. Part 3 of 6 of the proof. -/
import Derived.Test.YtiejggpmjapajaaZPolyRoots1
set_option linter.unusedSectionVars false
set_option linter.unusedSimpArgs false
set_option linter.unusedVariables false
section
namespace Go.Proofs.Ytiejggpmjapajaa.PA
open Go.RowKit Go.Proofs.YtiejggpmjapajaaW.PrintWords Go.Proofs.YtiejggpmjapajaaW.PrintLast Go.Proofs.YtiejggpmjapajaaW.PrintMore
attribute [local go_sem] max2_int min2_int max_two min_two max_three min_three max_four min_four
set_option linter.unusedVariables false
set_option linter.unusedSimpArgs false
def codewrightlaw05_same.l0 : Nat → List Int → List Int → Int → Int → Option (Bool)
 | 0, _, _, _, _ => none
 | k + 1, x0, x1, x12, x13 => if x13 < x12 then (if 0 ≤ x13 then (if x13 < (x0.length : Int) then (if x13 < (x1.length : Int) then (if (rd x0 x13) = (rd x1 x13) then (codewrightlaw05_same.l0 k x0 x1 x12 (wrap64 (x13 + 1))) else (some false)) else (none)) else (none)) else (none)) else (some true)
def codewrightlaw05_same.f (k : Nat) (l0 : List Int) (l1 : List Int) : Option (Bool) := if (l0.length : Int) = (l1.length : Int) then (codewrightlaw05_same.l0 k l0 l1 (l0.length : Int) 0) else (some false)
set_option maxHeartbeats 8000000 in
set_option maxRecDepth 100000 in
theorem codewrightlaw05_same.calls (k : Nat) (A0 : Option Addr) (c0 : Nat) (l0 : List Int) (A1 : Option Addr) (c1 : Nat) (l1 : List Int) (r : Bool) (w : World) (hr0 : Kd.C (Kd.int .i64) w A0 l0.length l0) (hc0 : l0.length ≤ c0) (hr1 : Kd.C (Kd.int .i64) w A1 l1.length l1) (hc1 : l1.length ≤ c1) (h : codewrightlaw05_same.f k l0 l1 = some r) :
  Calls Try.prog 14 #[.slice A0 l0.length c0, .slice A1 l1.length c1] w fun e w' => e = .returned (.bool r) ∧ Drawn0 w w' := by
 have HR0 := Aside0.mk hr0
 have HC0 := Aside0.mk hc0
 clear hr0 hc0
 have HR1 := Aside0.mk hr1
 have HC1 := Aside0.mk hc1
 clear hr1 hc1
 have H : (if (l0.length : Int) = (l1.length : Int) then (codewrightlaw05_same.l0 k l0 l1 (l0.length : Int) 0) else (some false)) = some r := h
 clear h
 by_cases c3 : (l0.length : Int) = (l1.length : Int)
 ·rw [if_pos c3] at H
  have c3b0 : ((l0.length : Int) == (l1.length : Int)) = true := beq_iff_eq.mpr c3
  have c3b1 : ((l0.length : Int) != (l1.length : Int)) = false := bne_eq_false_iff_eq.mpr c3
  have c3b2 : (l0.length == l1.length) = true := by (simp at c3 ⊢; omega)
  clear c3
  have H' := Aside0.mk H
  clear H
  go_enter Try.func14, Try.ntmps14
  go_wp2
  repeat (go_quiet (fail); try go_wp2)
  go_loopg [13] k (fun kq v13 w' => ∃ (x13_1 : Int), v13 = .int .i64 x13_1 ∧ Aside0 (codewrightlaw05_same.l0 kq l0 l1 (l0.length : Int) x13_1 = some r) ∧ Aside0 (kq ≤ k) ∧ Drawn0 w w')
  case atStart => exact ⟨(0), (by rfl), H', ⟨Nat.le_refl _⟩, by repeat ((exact Drawn0.refl _))⟩
  case round =>
   clear H' c3b0 c3b1 c3b2
   obtain ⟨x13_1, rfl, HA, HK1, ⟨m1, rfl⟩⟩ := hrel
   cases gk with
   | zero => exact absurd HA.out (by simp [codewrightlaw05_same.l0])
   | succ k1 =>
    have H := HA.out
    clear HA
    simp only [codewrightlaw05_same.l0] at H
    by_cases c4 : x13_1 < (l0.length : Int)
    ·rw [if_pos c4] at H
     have c4b0 : decide (x13_1 < (l0.length : Int)) = true := decide_eq_true c4
     clear c4
     by_cases c5 : 0 ≤ x13_1
     ·rw [if_pos c5] at H
      have c5b0 : decide (0 ≤ x13_1) = true := decide_eq_true c5
      clear c5
      by_cases c6 : x13_1 < (l0.length : Int)
      ·rw [if_pos c6] at H
       have c6b0 : decide (x13_1 < (l0.length : Int)) = true := decide_eq_true c6
       clear c6
       by_cases c7 : x13_1 < (l1.length : Int)
       ·rw [if_pos c7] at H
        have c7b0 : decide (x13_1 < (l1.length : Int)) = true := decide_eq_true c7
        clear c7
        by_cases c8 : (rd l0 x13_1) = (rd l1 x13_1)
        ·rw [if_pos c8] at H
         have c8b0 : ((rd l0 x13_1) == (rd l1 x13_1)) = true := beq_iff_eq.mpr c8
         have c8b1 : ((rd l0 x13_1) != (rd l1 x13_1)) = false := bne_eq_false_iff_eq.mpr c8
         clear c8
         have H' := Aside0.mk H
         clear H
         have p184 : 0 ≤ (x13_1 : Int) := of_decide_eq_true (by (with_reducible assumption))
         have q184 : x13_1 < (l0.length : Int) := of_decide_eq_true (by (with_reducible assumption))
         obtain ⟨ad184, e184, hx184_0⟩ := Kd.at_int HR0.out x13_1 p184 q184
         cases e184
         replace p184 := eq_true p184
         replace q184 := eq_true q184
         have p185 : 0 ≤ (x13_1 : Int) := of_decide_eq_true (by (with_reducible assumption))
         have q185 : x13_1 < (l1.length : Int) := of_decide_eq_true (by (with_reducible assumption))
         obtain ⟨ad185, e185, hx185_0⟩ := Kd.at_int HR1.out x13_1 p185 q185
         cases e185
         replace p185 := eq_true p185
         replace q185 := eq_true q185
         go_wp2
         repeat (go_quiet (fail); (go_wp2))
         go_roundg k1
         case measure => have := HK1.out; omega
         case rel => exact ⟨(wrap64 (x13_1 + 1)), (by rfl), H', ⟨by have := HK1.out; omega⟩, by repeat (first | (exact Drawn0.refl _) | (apply Drawn0.step))⟩
        ·rw [if_neg c8] at H
         have c8b0 : ((rd l0 x13_1) == (rd l1 x13_1)) = false := beq_eq_false_iff_ne.mpr c8
         have c8b1 : ((rd l0 x13_1) != (rd l1 x13_1)) = true := bne_iff_ne.mpr c8
         obtain rfl := Option.some.inj H
         have p184 : 0 ≤ (x13_1 : Int) := of_decide_eq_true (by (with_reducible assumption))
         have q184 : x13_1 < (l0.length : Int) := of_decide_eq_true (by (with_reducible assumption))
         obtain ⟨ad184, e184, hx184_0⟩ := Kd.at_int HR0.out x13_1 p184 q184
         cases e184
         replace p184 := eq_true p184
         replace q184 := eq_true q184
         have p185 : 0 ≤ (x13_1 : Int) := of_decide_eq_true (by (with_reducible assumption))
         have q185 : x13_1 < (l1.length : Int) := of_decide_eq_true (by (with_reducible assumption))
         obtain ⟨ad185, e185, hx185_0⟩ := Kd.at_int HR1.out x13_1 p185 q185
         cases e185
         replace p185 := eq_true p185
         replace q185 := eq_true q185
         go_wp2
         repeat (go_quiet (fail); (go_wp2))
         go_ret
         exact ⟨by rfl, by repeat (first | (exact Drawn0.refl _) | (apply Drawn0.step))⟩
       ·rw [if_neg c7] at H
        exact absurd H (by simp)
      ·rw [if_neg c6] at H
       exact absurd H (by simp)
     ·rw [if_neg c5] at H
      exact absurd H (by simp)
    ·rw [if_neg c4] at H
     have c4b0 : decide (x13_1 < (l0.length : Int)) = false := decide_eq_false c4
     clear c4
     obtain rfl := Option.some.inj H
     go_wp2
     repeat (go_quiet (fail); try go_wp2)
     go_ret
     exact ⟨by rfl, by repeat (first | (exact Drawn0.refl _) | (apply Drawn0.step))⟩
 ·rw [if_neg c3] at H
  have c3b0 : ((l0.length : Int) == (l1.length : Int)) = false := beq_eq_false_iff_ne.mpr c3
  have c3b1 : ((l0.length : Int) != (l1.length : Int)) = true := bne_iff_ne.mpr c3
  have c3b2 : (l0.length == l1.length) = false := by (simp at c3 ⊢; omega)
  obtain rfl := Option.some.inj H
  go_enter Try.func14, Try.ntmps14
  go_wp2
  repeat (go_quiet (fail); try go_wp2)
  go_ret
  exact ⟨by rfl, by repeat ((exact Drawn0.refl _))⟩
def poly_trim.l0 : Nat → List Int → Option (List Int)
 | 0, _ => none
 | k + 1, x0 => if (x0.length : Int) > 0 then (if 0 ≤ (wrap64 ((x0.length : Int) - 1)) then (if (wrap64 ((x0.length : Int) - 1)) < (x0.length : Int) then (if (rd x0 (wrap64 ((x0.length : Int) - 1))) = 0 then (if (wrap64 ((x0.length : Int) - 1)) ≤ (x0.length : Int) then (poly_trim.l0 k (x0.take ((wrap64 ((x0.length : Int) - 1)) : Int).toNat)) else (none)) else (some x0)) else (none)) else (none)) else (some x0)
def poly_trim.f (k : Nat) (l0 : List Int) : Option (List Int) := poly_trim.l0 k l0
set_option maxHeartbeats 8000000 in
set_option maxRecDepth 100000 in
theorem poly_trim.calls (k : Nat) (P0_ : Nat → Prop) (u9000_ : Value) (l0 : List Int) (r : List Int) (w0 w : World) (hB : Below w0.heap.size w0 w) (ho0 : Kd.R (Kd.int .i64) 3 w w0.heap.size P0_ u9000_ l0) (h : poly_trim.f k l0 = some r) :
  Calls Try.prog 50 #[u9000_] w fun e w' => ∃ v0_ : Value, e = .returned (v0_) ∧ Kd.R (Kd.int .i64) 3 w' w0.heap.size (fun k_ => (P0_ k_ ∨ w.heap.size ≤ k_)) v0_ r ∧ Below w0.heap.size w0 w' ∧ Kept w w' (fun k_ => P0_ k_) := by
 have HO0 := Aside0.mk (show Kd.R (Kd.int .i64) 3 w w0.heap.size (fun k_ => (P0_ k_ ∨ w.heap.size ≤ k_)) u9000_ l0 from Kd.R_mono ho0 (fun k_ hk => (.inl hk)))
 have HK := Aside0.mk (Kept.refl w (fun k_ => P0_ k_))
 have HW0 := Aside0.mk hB.size
 have HB := Aside0.mk hB
 clear hB
 have H : (poly_trim.l0 k l0) = some r := h
 clear h
 have H' := Aside0.mk H
 clear H
 go_enter Try.func50, Try.ntmps50
 go_wp2
 go_loopg [0] k (fun kq v0 w' => ∃ (x0_1 : List Int), Aside0 (poly_trim.l0 kq x0_1 = some r) ∧ Aside0 (kq ≤ k) ∧ Aside0 (Kd.R (Kd.int .i64) 3 w' w0.heap.size (fun k_ => (P0_ k_ ∨ w.heap.size ≤ k_)) v0 x0_1) ∧ Aside0 (Kept w w' (fun k_ => P0_ k_)) ∧ Aside0 (Below w0.heap.size w0 w'))
 case atStart => exact ⟨(l0), H', ⟨Nat.le_refl _⟩, ⟨HO0.out⟩, ⟨by exact HK.out⟩, ⟨by exact HB.out⟩⟩
 case round =>
  clear H'
  obtain ⟨x0_1, HA, HK1, HO_0, HK, HB⟩ := hrel
  cases gk with
  | zero => exact absurd HA.out (by simp [poly_trim.l0])
  | succ k1 =>
   have H := HA.out
   clear HA
   simp only [poly_trim.l0] at H
   by_cases c2 : (x0_1.length : Int) > 0
   ·rw [if_pos c2] at H
    have c2b0 : decide (0 < (x0_1.length : Int)) = true := decide_eq_true c2
    have c2b1 : decide (0 < x0_1.length) = true := decide_eq_true (by omega)
    clear c2
    obtain ⟨ji3, hji3⟩ : ∃ j_ : Int, (wrap64 ((x0_1.length : Int) - 1)) = j_ := ⟨_, rfl⟩
    replace H : (if 0 ≤ (ji3) then (if (ji3) < (x0_1.length : Int) then (if (rd x0_1 (ji3)) = 0 then (if (ji3) ≤ (x0_1.length : Int) then (poly_trim.l0 k1 (x0_1.take ((ji3) : Int).toNat)) else (none)) else (some x0_1)) else (none)) else (none)) = some r := by (rw [hji3] at H; exact H)
    have hji3w : (IntKind.i64.wrap ((x0_1.length : Int) - 1)) = ji3 := (i64_w _).trans hji3
    by_cases c4 : 0 ≤ (ji3)
    ·rw [if_pos c4] at H
     have c4b0 : decide (0 ≤ (ji3)) = true := decide_eq_true c4
     clear c4
     by_cases c5 : (ji3) < (x0_1.length : Int)
     ·rw [if_pos c5] at H
      have c5b0 : decide ((ji3) < (x0_1.length : Int)) = true := decide_eq_true c5
      clear c5
      by_cases c6 : (rd x0_1 (ji3)) = 0
      ·rw [if_pos c6] at H
       have c6b0 : ((rd x0_1 (ji3)) == 0) = true := beq_iff_eq.mpr c6
       have c6b1 : ((rd x0_1 (ji3)) != 0) = false := bne_eq_false_iff_eq.mpr c6
       clear c6
       by_cases c7 : (ji3) ≤ (x0_1.length : Int)
       ·rw [if_pos c7] at H
        have c7b0 := eq_true c7
        have c7b1 : decide ((ji3) ≤ (x0_1.length : Int)) = true := decide_eq_true c7
        clear c7
        obtain ⟨y187, hy187⟩ : ∃ y_ : List Int, y_ = (x0_1.take ((ji3) : Int).toNat) := ⟨_, rfl⟩
        replace H : (poly_trim.l0 k1 y187) = some r := by (rw [hy187]; with_reducible exact H)
        have Ny187 := Aside0.mk hy187
        clear hy187
        have H' := Aside0.mk H
        clear H
        obtain ⟨Ao8, co8, eo8⟩ := Kd.R_slice HO_0.out
        subst eo8
        have p186 : 0 ≤ ((ji3) : Int) := of_decide_eq_true (by (with_reducible assumption))
        have q186 : (ji3) < (x0_1.length : Int) := of_decide_eq_true (by (with_reducible assumption))
        obtain ⟨ad186, e186, hx186_0⟩ := Kd.at_int (Kd.R_reads' HO_0.out).2.2 (ji3) p186 q186
        cases e186
        replace p186 := eq_true p186
        replace q186 := eq_true q186
        have q9 : ((ji3) : Int) ≤ ((x0_1.length : Int) : Int) := of_decide_eq_true (by (with_reducible assumption))
        obtain ⟨i09, hi09, _, hsz9, _⟩ := info_parts info3
        have hcut9 := cut_to (P := Try.prog) 22 3 .i64 Try.underlying22 hi09 (some ad186) x0_1.length co8 (ji3) (of_decide_eq_true (by (with_reducible assumption))) q9 (Kd.R_reads' HO_0.out).2.1
        have hr9 := Kd.R_take (m := ((ji3) : Int).toNat) HO_0.out (by omega)
        have hy9 : y187.length = ((ji3) : Int).toNat := (by rw [Ny187.out, List.length_take]; omega)
        rw [← Ny187.out] at hr9
        rw [← hy9] at hr9 hcut9
        clear hy9 hi09 hsz9 HO_0
        have HO189 := Aside0.mk hr9
        clear hr9
        replace q9 := eq_true q9
        go_wp2
        go_roundg k1
        case measure => have := HK1.out; omega
        case rel => exact ⟨(y187), H', ⟨by have := HK1.out; omega⟩, ⟨HO189.out⟩, ⟨by exact HK.out⟩, ⟨by exact HB.out⟩⟩
       ·rw [if_neg c7] at H
        exact absurd H (by simp)
      ·rw [if_neg c6] at H
       have c6b0 : ((rd x0_1 (ji3)) == 0) = false := beq_eq_false_iff_ne.mpr c6
       have c6b1 : ((rd x0_1 (ji3)) != 0) = true := bne_iff_ne.mpr c6
       obtain rfl := Option.some.inj H
       obtain ⟨Ao10, co10, eo10⟩ := Kd.R_slice HO_0.out
       subst eo10
       have p186 : 0 ≤ ((ji3) : Int) := of_decide_eq_true (by (with_reducible assumption))
       have q186 : (ji3) < (x0_1.length : Int) := of_decide_eq_true (by (with_reducible assumption))
       obtain ⟨ad186, e186, hx186_0⟩ := Kd.at_int (Kd.R_reads' HO_0.out).2.2 (ji3) p186 q186
       cases e186
       replace p186 := eq_true p186
       replace q186 := eq_true q186
       go_wp2
       go_ret
       exact ⟨_, by rfl, by exact HO_0.out, by exact HB.out, by exact HK.out⟩
     ·rw [if_neg c5] at H
      exact absurd H (by simp)
    ·rw [if_neg c4] at H
     exact absurd H (by simp)
   ·rw [if_neg c2] at H
    have c2b0 : decide (0 < (x0_1.length : Int)) = false := decide_eq_false c2
    have c2b1 : decide (0 < x0_1.length) = false := decide_eq_false (by omega)
    clear c2
    obtain rfl := Option.some.inj H
    obtain ⟨Ao11, co11, eo11⟩ := Kd.R_slice HO_0.out
    subst eo11
    go_wp2
    go_ret
    exact ⟨_, by rfl, by exact HO_0.out, by exact HB.out, by exact HK.out⟩
def IsS85 (w0 W : World) (g : Nat) (f0 : Int) (f1 : Int) (f2 : List Int) (f3 : Int) (f4 : List Int) (f5 : List Int) : Prop := ∃ A2 c2, ∃ A4 c4, ∃ A5 c5, W.heap[g]? = some (.cells #[.int .i64 f0, .int .i64 f1, .slice A2 f2.length c2, .int .i64 f3, .slice A4 f4.length c4, .slice A5 f5.length c5] 85 (0, 0)) ∧ w0.heap.size ≤ g ∧ Kd.C (Kd.int .i64) w0 A2 f2.length f2 ∧ Kd.C (Kd.int .i64) w0 A4 f4.length f4 ∧ Kd.C (Kd.int .i64) w0 A5 f5.length f5
theorem IsS85.grown {w0 W : World} {g : Nat} {f0 : Int} {f1 : Int} {f2 : List Int} {f3 : Int} {f4 : List Int} {f5 : List Int} {W1 : World} {row : Option Nat} (h : IsS85 w0 W g f0 f1 f2 f3 f4 f5) (hw : W.grownBy W1 row) (hne : some g ≠ row) : IsS85 w0 W1 g f0 f1 f2 f3 f4 f5 := by
 obtain ⟨A2, c2, A4, c4, A5, c5, hb, hg, hr2, hr4, hr5⟩ := h
 exact ⟨A2, c2, A4, c4, A5, c5, blk_grown hb hw hne, hg, hr2, hr4, hr5⟩
theorem IsS85.kept {w0 W : World} {g : Nat} {f0 : Int} {f1 : Int} {f2 : List Int} {f3 : Int} {f4 : List Int} {f5 : List Int} {W1 : World} {S : Nat → Prop} (h : IsS85 w0 W g f0 f1 f2 f3 f4 f5) (hk : Kept W W1 S) (hne : ¬ S g) : IsS85 w0 W1 g f0 f1 f2 f3 f4 f5 := by
 obtain ⟨A2, c2, A4, c4, A5, c5, hb, hg, hr2, hr4, hr5⟩ := h
 exact ⟨A2, c2, A4, c4, A5, c5, blk_kept hb hk hne, hg, hr2, hr4, hr5⟩
theorem IsS85.below {w0 W : World} {g : Nat} {f0 : Int} {f1 : Int} {f2 : List Int} {f3 : Int} {f4 : List Int} {f5 : List Int} {W1 : World} (h : IsS85 w0 W g f0 f1 f2 f3 f4 f5) (hw : Below W.heap.size W W1) : IsS85 w0 W1 g f0 f1 f2 f3 f4 f5 := h.grown (grown_of_below hw none) (by simp)
theorem IsS85.alloc {w0 W : World} {g : Nat} {f0 : Int} {f1 : Int} {f2 : List Int} {f3 : Int} {f4 : List Int} {f5 : List Int} (h : IsS85 w0 W g f0 f1 f2 f3 f4 f5) (o : Obj) : IsS85 w0 (W.alloc o) g f0 f1 f2 f3 f4 f5 := h.below (below_alloc (Below.refl _ _) o)
theorem IsS85.drewN {w0 W : World} {g : Nat} {f0 : Int} {f1 : Int} {f2 : List Int} {f3 : Int} {f4 : List Int} {f5 : List Int} (h : IsS85 w0 W g f0 f1 f2 f3 f4 f5) (m : Nat) : IsS85 w0 (W.drewN m) g f0 f1 f2 f3 f4 f5 := h
theorem IsS85.drew {w0 W : World} {g : Nat} {f0 : Int} {f1 : Int} {f2 : List Int} {f3 : Int} {f4 : List Int} {f5 : List Int} (h : IsS85 w0 W g f0 f1 f2 f3 f4 f5) : IsS85 w0 W.drew g f0 f1 f2 f3 f4 f5 := h
theorem IsS85.apart {w0 W : World} {g : Nat} {f0 : Int} {f1 : Int} {f2 : List Int} {f3 : Int} {f4 : List Int} {f5 : List Int} {α : Type} {d : Kd α} {e : Nat} {base : Nat} {ok : Nat → Prop} {v : Value} {xs : List α} (h : IsS85 w0 W g f0 f1 f2 f3 f4 f5) (ho : d.R e W base ok v xs) (ht : ∀ q, q ∈ e :: d.E → q ≠ 85) : d.R e W base (fun k => ok k ∧ k ≠ g) v xs := by
 obtain ⟨A2, c2, A4, c4, A5, c5, hb, hg, hr2, hr4, hr5⟩ := h
 exact Kd.R_types ho hb ht
theorem IsS85.own_ne {w0 W : World} {g : Nat} {f0 : Int} {f1 : Int} {f2 : List Int} {f3 : Int} {f4 : List Int} {f5 : List Int} {α : Type} {d : Kd α} {e : Nat} {base : Nat} {ok : Nat → Prop} {v : Value} {xs : List α} (h : IsS85 w0 W g f0 f1 f2 f3 f4 f5) (ho : d.R e W base ok v xs) (ht : e ≠ 85) : some g ≠ v.ownBlock := by
 obtain ⟨A2, c2, A4, c4, A5, c5, hb, hg, hr2, hr4, hr5⟩ := h
 exact Kd.R_ne ho hb ht
theorem IsS85.lt {w0 W : World} {g : Nat} {f0 : Int} {f1 : Int} {f2 : List Int} {f3 : Int} {f4 : List Int} {f5 : List Int} (h : IsS85 w0 W g f0 f1 f2 f3 f4 f5) : g < W.heap.size := by
 obtain ⟨A2, c2, A4, c4, A5, c5, hb, hg, hr2, hr4, hr5⟩ := h
 exact blk_lt hb
theorem IsS85.ge {w0 W : World} {g : Nat} {f0 : Int} {f1 : Int} {f2 : List Int} {f3 : Int} {f4 : List Int} {f5 : List Int} (h : IsS85 w0 W g f0 f1 f2 f3 f4 f5) : w0.heap.size ≤ g := by
 obtain ⟨A2, c2, A4, c4, A5, c5, hb, hg, hr2, hr4, hr5⟩ := h
 exact hg
theorem IsS85.far {w0 W : World} {g : Nat} {f0 : Int} {f1 : Int} {f2 : List Int} {f3 : Int} {f4 : List Int} {f5 : List Int} {p : Addr} (h : IsS85 w0 W g f0 f1 f2 f3 f4 f5) (hne : g ≠ p.block) (u : Value) : IsS85 w0 (W.setCell p u) g f0 f1 f2 f3 f4 f5 := by
 obtain ⟨A2, c2, A4, c4, A5, c5, hb, hg, hr2, hr4, hr5⟩ := h
 exact ⟨A2, c2, A4, c4, A5, c5, blk_far hb hne u, hg, hr2, hr4, hr5⟩
theorem cellS85_0 {W : World} {g : Nat} {A2 : Option Addr} {c2 : Nat} {A4 : Option Addr} {c4 : Nat} {A5 : Option Addr} {c5 : Nat} {f0 : Int} {f1 : Int} {f2 : List Int} {f3 : Int} {f4 : List Int} {f5 : List Int} (h : W.heap[g]? = some (.cells #[.int .i64 f0, .int .i64 f1, .slice A2 f2.length c2, .int .i64 f3, .slice A4 f4.length c4, .slice A5 f5.length c5] 85 (0, 0))) : W.cell? ⟨g, 0, none⟩ = some (.int .i64 f0) := (blk_cell h 0).trans rfl
theorem cellS85_1 {W : World} {g : Nat} {A2 : Option Addr} {c2 : Nat} {A4 : Option Addr} {c4 : Nat} {A5 : Option Addr} {c5 : Nat} {f0 : Int} {f1 : Int} {f2 : List Int} {f3 : Int} {f4 : List Int} {f5 : List Int} (h : W.heap[g]? = some (.cells #[.int .i64 f0, .int .i64 f1, .slice A2 f2.length c2, .int .i64 f3, .slice A4 f4.length c4, .slice A5 f5.length c5] 85 (0, 0))) : W.cell? ⟨g, 1, none⟩ = some (.int .i64 f1) := (blk_cell h 1).trans rfl
theorem cellS85_2 {W : World} {g : Nat} {A2 : Option Addr} {c2 : Nat} {A4 : Option Addr} {c4 : Nat} {A5 : Option Addr} {c5 : Nat} {f0 : Int} {f1 : Int} {f2 : List Int} {f3 : Int} {f4 : List Int} {f5 : List Int} (h : W.heap[g]? = some (.cells #[.int .i64 f0, .int .i64 f1, .slice A2 f2.length c2, .int .i64 f3, .slice A4 f4.length c4, .slice A5 f5.length c5] 85 (0, 0))) : W.cell? ⟨g, 2, none⟩ = some (.slice A2 f2.length c2) := (blk_cell h 2).trans rfl
theorem cellS85_3 {W : World} {g : Nat} {A2 : Option Addr} {c2 : Nat} {A4 : Option Addr} {c4 : Nat} {A5 : Option Addr} {c5 : Nat} {f0 : Int} {f1 : Int} {f2 : List Int} {f3 : Int} {f4 : List Int} {f5 : List Int} (h : W.heap[g]? = some (.cells #[.int .i64 f0, .int .i64 f1, .slice A2 f2.length c2, .int .i64 f3, .slice A4 f4.length c4, .slice A5 f5.length c5] 85 (0, 0))) : W.cell? ⟨g, 3, none⟩ = some (.int .i64 f3) := (blk_cell h 3).trans rfl
theorem cellS85_4 {W : World} {g : Nat} {A2 : Option Addr} {c2 : Nat} {A4 : Option Addr} {c4 : Nat} {A5 : Option Addr} {c5 : Nat} {f0 : Int} {f1 : Int} {f2 : List Int} {f3 : Int} {f4 : List Int} {f5 : List Int} (h : W.heap[g]? = some (.cells #[.int .i64 f0, .int .i64 f1, .slice A2 f2.length c2, .int .i64 f3, .slice A4 f4.length c4, .slice A5 f5.length c5] 85 (0, 0))) : W.cell? ⟨g, 4, none⟩ = some (.slice A4 f4.length c4) := (blk_cell h 4).trans rfl
theorem cellS85_5 {W : World} {g : Nat} {A2 : Option Addr} {c2 : Nat} {A4 : Option Addr} {c4 : Nat} {A5 : Option Addr} {c5 : Nat} {f0 : Int} {f1 : Int} {f2 : List Int} {f3 : Int} {f4 : List Int} {f5 : List Int} (h : W.heap[g]? = some (.cells #[.int .i64 f0, .int .i64 f1, .slice A2 f2.length c2, .int .i64 f3, .slice A4 f4.length c4, .slice A5 f5.length c5] 85 (0, 0))) : W.cell? ⟨g, 5, none⟩ = some (.slice A5 f5.length c5) := (blk_cell h 5).trans rfl
def field_GF_Is.f (s0_0 : Int) (s0_1 : Int) (s0_2 : List Int) (s0_3 : Int) (s0_4 : List Int) (s0_5 : List Int) (a1 : Int) : Option (Bool × Int × Int × Int) := if a1 ≥ 0 then (some (decide (a1 < s0_3), s0_0, s0_1, s0_3)) else (some (false, s0_0, s0_1, s0_3))
set_option maxHeartbeats 8000000 in
set_option maxRecDepth 100000 in
theorem field_GF_Is.calls (g : Nat) (s0_0 : Int) (s0_1 : Int) (s0_2 : List Int) (s0_3 : Int) (s0_4 : List Int) (s0_5 : List Int) (a1 : Int) (r1 : Bool) (r2 : Int) (r3 : Int) (r4 : Int) (w0 w : World) (hI : IsS85 w0 w g s0_0 s0_1 s0_2 s0_3 s0_4 s0_5) (hB : Below w0.heap.size w0 w) (h : field_GF_Is.f s0_0 s0_1 s0_2 s0_3 s0_4 s0_5 a1 = some (r1, r2, r3, r4)) :
  Calls Try.prog 71 #[.pointer (some ⟨g, 0, none⟩), .int .i64 a1] w fun e w' => e = .returned (.bool r1) ∧ IsS85 w0 w' g r2 r3 s0_2 r4 s0_4 s0_5 ∧ Below w0.heap.size w0 w' ∧ KeepBut w w' g none := by
 have HI0 := Aside0.mk hI
 have HK := Aside0.mk (KeepBut.refl w g none)
 have HL := Aside0.mk hB.size
 clear hI
 have HW0 := Aside0.mk hB.size
 have HB := Aside0.mk hB
 clear hB
 have H : (if a1 ≥ 0 then (some (decide (a1 < s0_3), s0_0, s0_1, s0_3)) else (some (false, s0_0, s0_1, s0_3))) = some (r1, r2, r3, r4) := h
 clear h
 by_cases c3 : a1 ≥ 0
 ·rw [if_pos c3] at H
  have c3b0 : decide (0 ≤ a1) = true := decide_eq_true c3
  clear c3
  simp only [Option.some.injEq, Prod.mk.injEq] at H
  obtain ⟨rfl, rfl, rfl, rfl⟩ := H
  obtain ⟨ASz4_2, cSz4_2, ASz4_4, cSz4_4, ASz4_5, cSz4_5, HGz4, hgz4, HSz4_2, HSz4_4, HSz4_5⟩ := HI0.out
  have hcz4_0 := cellS85_0 HGz4
  have hcz4_1 := cellS85_1 HGz4
  have hcz4_2 := cellS85_2 HGz4
  have hcz4_3 := cellS85_3 HGz4
  have hcz4_4 := cellS85_4 HGz4
  have hcz4_5 := cellS85_5 HGz4
  have hfz4_0 := blk_frozen HGz4 0
  have hfz4_1 := blk_frozen HGz4 1
  have hfz4_3 := blk_frozen HGz4 3
  clear HGz4 hgz4
  go_enter Try.func71, Try.ntmps71
  go_wp2
  go_ret
  exact ⟨by rfl, by exact HI0.out, by exact HB.out, by exact HK.out⟩
 ·rw [if_neg c3] at H
  have c3b0 : decide (0 ≤ a1) = false := decide_eq_false c3
  clear c3
  simp only [Option.some.injEq, Prod.mk.injEq] at H
  obtain ⟨rfl, rfl, rfl, rfl⟩ := H
  go_enter Try.func71, Try.ntmps71
  go_wp2
  go_ret
  exact ⟨by rfl, by exact HI0.out, by exact HB.out, by exact HK.out⟩
def poly_Canon.l0 : Nat → List Int → List Int → Int → Int → Int → Int → List Int → Int → List Int → List Int → Option (List Int × Int × Int × Int)
 | 0, _, _, _, _, _, _, _, _, _, _ => none
 | k + 1, x5, x11, x12, x13, x1000, x1001, x1002, x1003, x1004, x1005 => if x13 < x12 then (if 0 ≤ x13 then (if x13 < (x11.length : Int) then ((field_GF_Is.f x1000 x1001 x1002 x1003 x1004 x1005 (rd x11 x13)).bind fun bt194 => (if bt194.1 = true then (if x13 < (x5.length : Int) then (poly_Canon.l0 k (x5.set (x13 : Int).toNat (rd x11 x13)) x11 x12 (wrap64 (x13 + 1)) bt194.2.1 bt194.2.2.1 x1002 bt194.2.2.2 x1004 x1005) else (none)) else (poly_Canon.l0 k x5 x11 x12 (wrap64 (x13 + 1)) bt194.2.1 bt194.2.2.1 x1002 bt194.2.2.2 x1004 x1005))) else (none)) else (none)) else ((poly_trim.f k x5).bind fun t199 => (some (t199, x1000, x1001, x1003)))
def poly_Canon.f (k : Nat) (s0_0 : Int) (s0_1 : Int) (s0_2 : List Int) (s0_3 : Int) (s0_4 : List Int) (s0_5 : List Int) (l1 : List Int) : Option (List Int × Int × Int × Int) := if 0 ≤ (l1.length : Int) then (if ((l1.length : Int) : Int).toNat ≤ 35184372088832 then (poly_Canon.l0 k (List.replicate ((l1.length : Int) : Int).toNat 0) l1 (l1.length : Int) 0 s0_0 s0_1 s0_2 s0_3 s0_4 s0_5) else (none)) else (none)
set_option maxHeartbeats 8000000 in
set_option maxRecDepth 100000 in
theorem poly_Canon.calls (k : Nat) (g : Nat) (s0_0 : Int) (s0_1 : Int) (s0_2 : List Int) (s0_3 : Int) (s0_4 : List Int) (s0_5 : List Int) (A1 : Option Addr) (c1 : Nat) (l1 : List Int) (r1 : List Int) (r2 : Int) (r3 : Int) (r4 : Int) (w0 w : World) (hI : IsS85 w0 w g s0_0 s0_1 s0_2 s0_3 s0_4 s0_5) (hB : Below w0.heap.size w0 w) (hr1 : Kd.C (Kd.int .i64) w A1 l1.length l1) (hc1 : l1.length ≤ c1) (hf1 : ∀ ad, A1 = some ad → 0 < l1.length → ad.block ≠ g) (h : poly_Canon.f k s0_0 s0_1 s0_2 s0_3 s0_4 s0_5 l1 = some (r1, r2, r3, r4)) :
  Calls Try.prog 40 #[.pointer (some ⟨g, 0, none⟩), .slice A1 l1.length c1] w fun e w' => ∃ v0_ : Value, e = .returned (v0_) ∧ Kd.R (Kd.int .i64) 3 w' w.heap.size (fun _ => True) v0_ r1 ∧ IsS85 w0 w' g r2 r3 s0_2 r4 s0_4 s0_5 ∧ Below w0.heap.size w0 w' ∧ KeepBut w w' g none := by
 have HR1 := Aside0.mk hr1
 have HC1 := Aside0.mk hc1
 clear hr1 hc1
 have HI0 := Aside0.mk hI
 have HK := Aside0.mk (KeepBut.refl w g none)
 have HL := Aside0.mk hB.size
 clear hI
 have HW0 := Aside0.mk hB.size
 have HB := Aside0.mk hB
 clear hB
 have H : (if 0 ≤ (l1.length : Int) then (if ((l1.length : Int) : Int).toNat ≤ 35184372088832 then (poly_Canon.l0 k (List.replicate ((l1.length : Int) : Int).toNat 0) l1 (l1.length : Int) 0 s0_0 s0_1 s0_2 s0_3 s0_4 s0_5) else (none)) else (none)) = some (r1, r2, r3, r4) := h
 clear h
 by_cases c3 : 0 ≤ (l1.length : Int)
 ·rw [if_pos c3] at H
  have c3b0 := eq_true c3
  have c3b1 : decide (0 ≤ (l1.length : Int)) = true := decide_eq_true c3
  clear c3
  by_cases c4 : ((l1.length : Int) : Int).toNat ≤ 35184372088832
  ·rw [if_pos c4] at H
   have c4b0 := eq_true c4
   have c4b1 : decide (((l1.length : Int) : Int).toNat ≤ 35184372088832) = true := decide_eq_true c4
   clear c4
   obtain ⟨y190, hy190⟩ : ∃ y_ : List Int, y_ = (List.replicate ((l1.length : Int) : Int).toNat 0) := ⟨_, rfl⟩
   replace H : (poly_Canon.l0 k y190 l1 (l1.length : Int) 0 s0_0 s0_1 s0_2 s0_3 s0_4 s0_5) = some (r1, r2, r3, r4) := by (rw [hy190]; with_reducible exact H)
   have Ny190 := Aside0.mk hy190
   clear hy190
   have H' := Aside0.mk H
   clear H
   go_enter Try.func40, Try.ntmps40
   go_wp2_with (((with_reducible refine gate_dst (N := 10) rfl ?_); refine Kd.R_make (Kd.int .i64) _ 3 rfl (N := 10) rfl 22 _ _ rfl (l1.length : Int) rfl rfl Try.underlying22 (.int .i64 0) 8 info3 rfl (by decide) (by omega) 0 (ok := fun _ => True) (okp := fun _ => True) rfl (fun _ hk => hk) trivial (of_decide_eq_true (by (with_reducible assumption))) (Nat.le_trans (Nat.mul_le_mul_right _ (of_decide_eq_true (by (with_reducible assumption)) : (l1.length : Int).toNat ≤ 35184372088832)) (by omega)) (Below.refl _ _) (Nat.le_refl _) ?_; intro v191 w5 ho6 hb hg_ hnew_; clear hg_ hnew_; ((rw [← Ny190.out] at ho6)); have n0_ := Aside0.mk (Kd.R_lower ho6 (keep_size (w := w) (g := g) (row := none) HK.out)); have n1_ := Aside0.mk (IsS85.below HI0.out hb); have n2_ := Aside0.mk (KeepBut.trans HK.out (KeepBut.of_below hb g none) (.inl rfl)); have n3_ := Aside0.mk (below_step HB.out hb); clear HI0; clear HK; clear HB; have HO192 := n0_; have HI0 := n1_; have HK := n2_; have HB := n3_; clear n0_ n1_ n2_ n3_; clear hb ho6))
   go_loopg [13] k (fun kq v13 w' => ∃ (x5_1 : List Int) (x13_1 : Int) (x1000_1 : Int) (x1001_1 : Int) (x1003_1 : Int), v13 = .int .i64 x13_1 ∧ Aside0 (poly_Canon.l0 kq x5_1 l1 (l1.length : Int) x13_1 x1000_1 x1001_1 s0_2 x1003_1 s0_4 s0_5 = some (r1, r2, r3, r4)) ∧ Aside0 (kq ≤ k) ∧ Aside0 (Kd.R (Kd.int .i64) 3 w' w.heap.size (fun _ => True) v191 x5_1) ∧ Aside0 (IsS85 w0 w' g x1000_1 x1001_1 s0_2 x1003_1 s0_4 s0_5) ∧ Aside0 (KeepBut w w' g none) ∧ Aside0 (Below w0.heap.size w0 w'))
   case atStart => exact ⟨(y190), (0), (s0_0), (s0_1), (s0_3), (by rfl), H', ⟨Nat.le_refl _⟩, ⟨HO192.out⟩, ⟨by exact HI0.out⟩, ⟨by exact HK.out⟩, ⟨by exact HB.out⟩⟩
   case round =>
    clear H' c3b0 c3b1 c4b0 c4b1
    obtain ⟨x5_1, x13_1, x1000_1, x1001_1, x1003_1, rfl, HA, HK1, HO_5, HI0, HK, HB⟩ := hrel
    cases gk with
    | zero => exact absurd HA.out (by simp [poly_Canon.l0])
    | succ k1 =>
     have H := HA.out
     clear HA
     simp only [poly_Canon.l0] at H
     by_cases c7 : x13_1 < (l1.length : Int)
     ·rw [if_pos c7] at H
      have c7b0 : decide (x13_1 < (l1.length : Int)) = true := decide_eq_true c7
      clear c7
      by_cases c8 : 0 ≤ x13_1
      ·rw [if_pos c8] at H
       have c8b0 : decide (0 ≤ x13_1) = true := decide_eq_true c8
       clear c8
       by_cases c9 : x13_1 < (l1.length : Int)
       ·rw [if_pos c9] at H
        have c9b0 : decide (x13_1 < (l1.length : Int)) = true := decide_eq_true c9
        clear c9
        replace H := Option.bind_eq_some_iff.mp H
        obtain ⟨⟨t194, t195, t196, t197⟩, A100, H⟩ := H
        replace H : (if t194 = true then (if x13_1 < (x5_1.length : Int) then (poly_Canon.l0 k1 (x5_1.set (x13_1 : Int).toNat (rd l1 x13_1)) l1 (l1.length : Int) (wrap64 (x13_1 + 1)) t195 t196 s0_2 t197 s0_4 s0_5) else (none)) else (poly_Canon.l0 k1 x5_1 l1 (l1.length : Int) (wrap64 (x13_1 + 1)) t195 t196 s0_2 t197 s0_4 s0_5)) = some (r1, r2, r3, r4) := H
        have A10 := Aside0.mk A100
        clear A100
        by_cases c11 : t194 = true
        ·subst c11
         have H1 : (if x13_1 < (x5_1.length : Int) then (poly_Canon.l0 k1 (x5_1.set (x13_1 : Int).toNat (rd l1 x13_1)) l1 (l1.length : Int) (wrap64 (x13_1 + 1)) t195 t196 s0_2 t197 s0_4 s0_5) else (none)) = some (r1, r2, r3, r4) := by rw [if_pos rfl] at H; exact H
         clear H
         have H := H1
         clear H1
         by_cases c12 : x13_1 < (x5_1.length : Int)
         ·rw [if_pos c12] at H
          have c12b0 : decide (x13_1 < (x5_1.length : Int)) = true := decide_eq_true c12
          clear c12
          obtain ⟨y198, hy198⟩ : ∃ y_ : List Int, y_ = (x5_1.set (x13_1 : Int).toNat (rd l1 x13_1)) := ⟨_, rfl⟩
          replace H : (poly_Canon.l0 k1 y198 l1 (l1.length : Int) (wrap64 (x13_1 + 1)) t195 t196 s0_2 t197 s0_4 s0_5) = some (r1, r2, r3, r4) := by (rw [hy198]; with_reducible exact H)
          have Ny198 := Aside0.mk hy198
          clear hy198
          have H' := Aside0.mk H
          clear H
          have p193 : 0 ≤ (x13_1 : Int) := of_decide_eq_true (by (with_reducible assumption))
          have q193 : x13_1 < (l1.length : Int) := of_decide_eq_true (by (with_reducible assumption))
          obtain ⟨ad193, e193, hx193_0⟩ := Kd.at_int HR1.out x13_1 p193 q193
          cases e193
          replace hx193_0 := keep_cell HK.out hx193_0 (by (rw [add_block]; exact hf1 _ rfl (by omega)))
          replace p193 := eq_true p193
          replace q193 := eq_true q193
          go_wp2_with (first | ((with_reducible refine gate_callee (f := 71) rfl ?_); refine goesL_ (some 20) rfl rfl Try.func71 (by kernel_rfl) rfl #[.pointer (some ⟨g, 0, none⟩), .int .i64 (rd l1 x13_1)] rfl (by ((simp only [List.map_toArray, List.map_cons, List.map_nil])); (rfl)) ?_; (with_reducible refine (field_GF_Is.calls g x1000_1 x1001_1 s0_2 x1003_1 s0_4 s0_5 (rd l1 x13_1) true t195 t196 t197 w0 _ ?side1 ?side2 A10.out).mono ?_); (case side1 => repeat ((with_reducible (exact HI0.out)))); (case side2 => repeat ((with_reducible (exact HB.out)))); rintro e w14 ⟨rfl, hi, hb, hk⟩; refine ⟨_, rfl, ?_⟩; have n0_ := Aside0.mk (Kd.R_mono (Kd.R_keep (IsS85.apart (show IsS85 w0 _ g x1000_1 x1001_1 s0_2 x1003_1 s0_4 s0_5 from by exact HI0.out) HO_5.out (by decide)) hk (fun _ h => h.2)) (fun _ h => h.1)); have n1_ := Aside0.mk (KeepBut.trans HK.out hk (.inl rfl)); have n2_ := Aside0.mk (hb); have n3_ := Aside0.mk (hi); clear HO_5; clear HK; clear HB; clear HI0; have HO_5 := n0_; have HK := n1_; have HB := n2_; have HI0 := n3_; clear n0_ n1_ n2_ n3_; ((clear hb)); (skip); ((clear hk)); ((clear hi)); have p13 : 0 ≤ (x13_1 : Int) := of_decide_eq_true (by (with_reducible assumption)); have q13 : (x13_1 : Int) < ((x5_1.length : Int) : Int) := of_decide_eq_true (by (with_reducible assumption)); obtain ⟨go13, co13, eo13, gb13, gl13, cl13, HG13⟩ := Kd.R_form HO_5.out (by omega); ((cases eo13)); have GB13 := Aside0.mk gb13; have GG13 := Aside0.mk HG13; clear gb13 gl13 HG13; obtain ⟨hx13_0, hf13_0⟩ := Kd.R_celln 0 HO_5.out (x13_1 : Int) p13 q13; replace p13 := eq_true p13; replace q13 := eq_true q13; obtain ⟨hy15_, hz15_⟩ := Kd.R_celln 0 HO_5.out (x13_1 : Int) (of_decide_eq_true (by (with_reducible assumption))) (of_decide_eq_true (by (with_reducible assumption))); have HP15 := Kd.R_putg HO_5.out (x13_1 : Int) (rd l1 x13_1)) | ((with_reducible refine gate_store (t := 3) (p := 24) rfl ?_); refine store_event (t := 3) (p := 24) (v := ?vo_w16) (w1 := (w14.setCell ⟨go13, (x13_1 : Int).toNat, none⟩ (.int .i64 (rd l1 x13_1)))) ?hg ?ho ?hn ?hr ?_; (case ho => rfl); (case hg => rfl); (case hn => rfl); (case hr => (go_simp; done)); intro w16 hw; have hg : w14.grownBy w16 (some go13) := (by rw [hw]; exact HP15.2); have hp_ : Kd.R (Kd.int .i64) 3 w16 w.heap.size (fun _ => True) (.slice (some ⟨go13, 0, none⟩) x5_1.length co13) y198 := (by rw [hw, Ny198.out]; exact HP15.1); clear HP15; have n0_ := Aside0.mk (hp_); have n1_ := Aside0.mk (IsS85.grown HI0.out hg (IsS85.own_ne HI0.out HO_5.out (by decide))); have n2_ := Aside0.mk ((by rw [hw]; exact below_set (HB.out) (Nat.le_trans HL.out GB13.out) : Below w0.heap.size w0 w16)); have n3_ := Aside0.mk (KeepBut.trans HK.out (KeepBut.of_grown hg g) (Kd.R_base2 HO_5.out)); clear HO_5; clear HI0; clear HB; clear HK; have HO_5 := n0_; have HI0 := n1_; have HB := n2_; have HK := n3_; clear n0_ n1_ n2_ n3_; clear hg hw hp_))
          go_roundg k1
          case measure => have := HK1.out; omega
          case rel => exact ⟨(y198), (wrap64 (x13_1 + 1)), (t195), (t196), (t197), (by rfl), H', ⟨by have := HK1.out; omega⟩, ⟨HO_5.out⟩, ⟨by exact HI0.out⟩, ⟨by exact HK.out⟩, ⟨by exact HB.out⟩⟩
         ·rw [if_neg c12] at H
          exact absurd H (by simp)
        ·replace c11 := Bool.eq_false_iff.mpr c11
         subst c11
         have H1 : (poly_Canon.l0 k1 x5_1 l1 (l1.length : Int) (wrap64 (x13_1 + 1)) t195 t196 s0_2 t197 s0_4 s0_5) = some (r1, r2, r3, r4) := by rw [if_neg (show ¬ (false = true) by decide)] at H; exact H
         clear H
         have H := H1
         clear H1
         have H' := Aside0.mk H
         clear H
         have p193 : 0 ≤ (x13_1 : Int) := of_decide_eq_true (by (with_reducible assumption))
         have q193 : x13_1 < (l1.length : Int) := of_decide_eq_true (by (with_reducible assumption))
         obtain ⟨ad193, e193, hx193_0⟩ := Kd.at_int HR1.out x13_1 p193 q193
         cases e193
         replace hx193_0 := keep_cell HK.out hx193_0 (by (rw [add_block]; exact hf1 _ rfl (by omega)))
         replace p193 := eq_true p193
         replace q193 := eq_true q193
         go_wp2_with (((with_reducible refine gate_callee (f := 71) rfl ?_); refine goesL_ (some 20) rfl rfl Try.func71 (by kernel_rfl) rfl #[.pointer (some ⟨g, 0, none⟩), .int .i64 (rd l1 x13_1)] rfl (by ((simp only [List.map_toArray, List.map_cons, List.map_nil])); (rfl)) ?_; (with_reducible refine (field_GF_Is.calls g x1000_1 x1001_1 s0_2 x1003_1 s0_4 s0_5 (rd l1 x13_1) false t195 t196 t197 w0 _ ?side1 ?side2 A10.out).mono ?_); (case side1 => repeat ((with_reducible (exact HI0.out)))); (case side2 => repeat ((with_reducible (exact HB.out)))); rintro e w17 ⟨rfl, hi, hb, hk⟩; refine ⟨_, rfl, ?_⟩; have n0_ := Aside0.mk (Kd.R_mono (Kd.R_keep (IsS85.apart (show IsS85 w0 _ g x1000_1 x1001_1 s0_2 x1003_1 s0_4 s0_5 from by exact HI0.out) HO_5.out (by decide)) hk (fun _ h => h.2)) (fun _ h => h.1)); have n1_ := Aside0.mk (KeepBut.trans HK.out hk (.inl rfl)); have n2_ := Aside0.mk (hb); have n3_ := Aside0.mk (hi); clear HO_5; clear HK; clear HB; clear HI0; have HO_5 := n0_; have HK := n1_; have HB := n2_; have HI0 := n3_; clear n0_ n1_ n2_ n3_; ((clear hb)); (skip); ((clear hk)); ((clear hi))))
         go_roundg k1
         case measure => have := HK1.out; omega
         case rel => exact ⟨(x5_1), (wrap64 (x13_1 + 1)), (t195), (t196), (t197), (by rfl), H', ⟨by have := HK1.out; omega⟩, ⟨HO_5.out⟩, ⟨by exact HI0.out⟩, ⟨by exact HK.out⟩, ⟨by exact HB.out⟩⟩
       ·rw [if_neg c9] at H
        exact absurd H (by simp)
      ·rw [if_neg c8] at H
       exact absurd H (by simp)
     ·rw [if_neg c7] at H
      have c7b0 : decide (x13_1 < (l1.length : Int)) = false := decide_eq_false c7
      clear c7
      obtain ⟨t199, A180, H⟩ := Option.bind_eq_some_iff.mp H
      replace H : (some (t199, x1000_1, x1001_1, x1003_1)) = some (r1, r2, r3, r4) := H
      have A18 := Aside0.mk A180
      clear A180
      simp only [Option.some.injEq, Prod.mk.injEq] at H
      obtain ⟨rfl, rfl, rfl, rfl⟩ := H
      obtain ⟨Ao19, co19, eo19⟩ := Kd.R_slice HO_5.out
      subst eo19
      go_wp2_with (((with_reducible refine gate_callee (f := 50) rfl ?_); refine goesL_ (some 27) rfl rfl Try.func50 (by kernel_rfl) rfl #[.slice Ao19 x5_1.length co19] rfl (by ((simp only [List.map_toArray, List.map_cons, List.map_nil])); (rfl)) ?_; (with_reducible refine (poly_trim.calls k1 (fun k_ => some k_ = (.slice Ao19 x5_1.length co19 : Value).ownBlock) (.slice Ao19 x5_1.length co19) x5_1 t199 w0 _ ?side1 ?side2 A18.out).mono ?_); (case side1 => repeat ((with_reducible (exact HB.out)))); (case side2 => exact Kd.R_lower (Kd.R_tight rfl HO_5.out) HL.out); rintro e w20 ⟨v200, rfl, ho0, hb, hkp⟩; refine ⟨_, rfl, ?_⟩; have n0_ := Aside0.mk (IsS85.kept HI0.out hkp (fun hs_ => (fun e_ => (IsS85.own_ne HI0.out HO_5.out (by decide)) e_) hs_)); have n1_ := Aside0.mk (Kd.R_mono (ok' := fun k_ => True) (Kd.R_raise (d := (Kd.int .i64)) (b := w0.heap.size) (b' := w.heap.size) (fun _ _ _ _ h_ => h_) ho0 (fun k_ e_ => Or.elim (ho0.1 k_ e_) (fun hs_ => (fun e_ => Kd.R_base HO_5.out k_ e_.symm) hs_) (fun hn_ => Nat.le_trans (keep_size (w := w) (g := g) (row := none) HK.out) hn_))) (fun k_ hk_ => trivial)); have n2_ := Aside0.mk (Kept.keepG HK.out hkp (fun k_ hs_ => (fun e_ => .inr (Kd.R_base HO_5.out k_ e_.symm)) hs_)); have n3_ := Aside0.mk (hb); clear HI0; clear HK; clear HB; clear HO_5; have HI0 := n0_; have HO201 := n1_; have HK := n2_; have HB := n3_; clear n0_ n1_ n2_ n3_; ((clear hb)); ((clear hkp)); ((clear ho0))))
      go_ret
      exact ⟨_, by rfl, by exact HO201.out, by exact HI0.out, by exact HB.out, by exact HK.out⟩
  ·rw [if_neg c4] at H
   exact absurd H (by simp)
 ·rw [if_neg c3] at H
  exact absurd H (by simp)
def field_GF_in.f (s0_0 : Int) (s0_1 : Int) (s0_2 : List Int) (s0_3 : Int) (s0_4 : List Int) (s0_5 : List Int) (a1 : Int) : Option (Int × Int × Int × Int) := (field_GF_Is.f s0_0 s0_1 s0_2 s0_3 s0_4 s0_5 a1).bind fun bt202 => (if bt202.1 = true then (some (a1, bt202.2.1, bt202.2.2.1, bt202.2.2.2)) else (some (0, bt202.2.1, bt202.2.2.1, bt202.2.2.2)))
set_option maxHeartbeats 8000000 in
set_option maxRecDepth 100000 in
theorem field_GF_in.calls (g : Nat) (s0_0 : Int) (s0_1 : Int) (s0_2 : List Int) (s0_3 : Int) (s0_4 : List Int) (s0_5 : List Int) (a1 : Int) (r1 : Int) (r2 : Int) (r3 : Int) (r4 : Int) (w0 w : World) (hI : IsS85 w0 w g s0_0 s0_1 s0_2 s0_3 s0_4 s0_5) (hB : Below w0.heap.size w0 w) (h : field_GF_in.f s0_0 s0_1 s0_2 s0_3 s0_4 s0_5 a1 = some (r1, r2, r3, r4)) :
  Calls Try.prog 77 #[.pointer (some ⟨g, 0, none⟩), .int .i64 a1] w fun e w' => e = .returned (.int .i64 r1) ∧ IsS85 w0 w' g r2 r3 s0_2 r4 s0_4 s0_5 ∧ Below w0.heap.size w0 w' ∧ KeepBut w w' g none := by
 have HI0 := Aside0.mk hI
 have HK := Aside0.mk (KeepBut.refl w g none)
 have HL := Aside0.mk hB.size
 clear hI
 have HW0 := Aside0.mk hB.size
 have HB := Aside0.mk hB
 clear hB
 have H : ((field_GF_Is.f s0_0 s0_1 s0_2 s0_3 s0_4 s0_5 a1).bind fun bt202 => (if bt202.1 = true then (some (a1, bt202.2.1, bt202.2.2.1, bt202.2.2.2)) else (some (0, bt202.2.1, bt202.2.2.1, bt202.2.2.2)))) = some (r1, r2, r3, r4) := h
 clear h
 replace H := Option.bind_eq_some_iff.mp H
 obtain ⟨⟨t202, t203, t204, t205⟩, A30, H⟩ := H
 replace H : (if t202 = true then (some (a1, t203, t204, t205)) else (some (0, t203, t204, t205))) = some (r1, r2, r3, r4) := H
 have A3 := Aside0.mk A30
 clear A30
 by_cases c4 : t202 = true
 ·subst c4
  have H1 : (some (a1, t203, t204, t205)) = some (r1, r2, r3, r4) := by rw [if_pos rfl] at H; exact H
  clear H
  have H := H1
  clear H1
  simp only [Option.some.injEq, Prod.mk.injEq] at H
  obtain ⟨rfl, rfl, rfl, rfl⟩ := H
  go_enter Try.func77, Try.ntmps77
  go_wp2_with (((with_reducible refine gate_callee (f := 71) rfl ?_); refine goesL_ (some 7) rfl rfl Try.func71 (by kernel_rfl) rfl #[.pointer (some ⟨g, 0, none⟩), .int .i64 a1] rfl (by ((simp only [List.map_toArray, List.map_cons, List.map_nil])); (rfl)) ?_; (with_reducible refine (field_GF_Is.calls g s0_0 s0_1 s0_2 s0_3 s0_4 s0_5 a1 true t203 t204 t205 w0 _ ?side1 ?side2 A3.out).mono ?_); (case side1 => repeat ((with_reducible (exact HI0.out)))); (case side2 => repeat ((with_reducible (exact HB.out)))); rintro e w5 ⟨rfl, hi, hb, hk⟩; refine ⟨_, rfl, ?_⟩; have n0_ := Aside0.mk (KeepBut.trans HK.out hk (.inl rfl)); have n1_ := Aside0.mk (hb); have n2_ := Aside0.mk (hi); clear HK; clear HB; clear HI0; have HK := n0_; have HB := n1_; have HI0 := n2_; clear n0_ n1_ n2_; ((clear hb)); (skip); ((clear hk)); ((clear hi))))
  go_ret
  exact ⟨by rfl, by exact HI0.out, by exact HB.out, by exact HK.out⟩
 ·replace c4 := Bool.eq_false_iff.mpr c4
  subst c4
  have H1 : (some (0, t203, t204, t205)) = some (r1, r2, r3, r4) := by rw [if_neg (show ¬ (false = true) by decide)] at H; exact H
  clear H
  have H := H1
  clear H1
  simp only [Option.some.injEq, Prod.mk.injEq] at H
  obtain ⟨rfl, rfl, rfl, rfl⟩ := H
  go_enter Try.func77, Try.ntmps77
  go_wp2_with (((with_reducible refine gate_callee (f := 71) rfl ?_); refine goesL_ (some 7) rfl rfl Try.func71 (by kernel_rfl) rfl #[.pointer (some ⟨g, 0, none⟩), .int .i64 a1] rfl (by ((simp only [List.map_toArray, List.map_cons, List.map_nil])); (rfl)) ?_; (with_reducible refine (field_GF_Is.calls g s0_0 s0_1 s0_2 s0_3 s0_4 s0_5 a1 false t203 t204 t205 w0 _ ?side1 ?side2 A3.out).mono ?_); (case side1 => repeat ((with_reducible (exact HI0.out)))); (case side2 => repeat ((with_reducible (exact HB.out)))); rintro e w6 ⟨rfl, hi, hb, hk⟩; refine ⟨_, rfl, ?_⟩; have n0_ := Aside0.mk (KeepBut.trans HK.out hk (.inl rfl)); have n1_ := Aside0.mk (hb); have n2_ := Aside0.mk (hi); clear HK; clear HB; clear HI0; have HK := n0_; have HB := n1_; have HI0 := n2_; clear n0_ n1_ n2_; ((clear hb)); (skip); ((clear hk)); ((clear hi))))
  go_ret
  exact ⟨by rfl, by exact HI0.out, by exact HB.out, by exact HK.out⟩
def field_GF_Mul.f (s0_0 : Int) (s0_1 : Int) (s0_2 : List Int) (s0_3 : Int) (s0_4 : List Int) (s0_5 : List Int) (a1 : Int) (a2 : Int) : Option (Int × Int × Int × Int) := (field_GF_in.f s0_0 s0_1 s0_2 s0_3 s0_4 s0_5 a1).bind fun bt206 => ((field_GF_in.f bt206.2.1 bt206.2.2.1 s0_2 bt206.2.2.2 s0_4 s0_5 a2).bind fun bt210 => (if bt206.1 = 0 then (some (0, bt210.2.1, bt210.2.2.1, bt210.2.2.2)) else (if bt210.1 = 0 then (some (0, bt210.2.1, bt210.2.2.1, bt210.2.2.2)) else (if 0 ≤ bt206.1 then (if bt206.1 < (s0_5.length : Int) then (if 0 ≤ bt210.1 then (if bt210.1 < (s0_5.length : Int) then (if (wrap64 (bt210.2.2.2 - 1)) = 0 then (none) else (if 0 ≤ (Int.tmod (wrap64 ((rd s0_5 bt206.1) + (rd s0_5 bt210.1))) (wrap64 (bt210.2.2.2 - 1))) then (if (Int.tmod (wrap64 ((rd s0_5 bt206.1) + (rd s0_5 bt210.1))) (wrap64 (bt210.2.2.2 - 1))) < (s0_4.length : Int) then (some (rd s0_4 (Int.tmod (wrap64 ((rd s0_5 bt206.1) + (rd s0_5 bt210.1))) (wrap64 (bt210.2.2.2 - 1))), bt210.2.1, bt210.2.2.1, bt210.2.2.2)) else (none)) else (none))) else (none)) else (none)) else (none)) else (none)))))
set_option maxHeartbeats 8000000 in
set_option maxRecDepth 100000 in
theorem field_GF_Mul.calls (g : Nat) (s0_0 : Int) (s0_1 : Int) (s0_2 : List Int) (s0_3 : Int) (s0_4 : List Int) (s0_5 : List Int) (a1 : Int) (a2 : Int) (r1 : Int) (r2 : Int) (r3 : Int) (r4 : Int) (w0 w : World) (hI : IsS85 w0 w g s0_0 s0_1 s0_2 s0_3 s0_4 s0_5) (hB : Below w0.heap.size w0 w) (h : field_GF_Mul.f s0_0 s0_1 s0_2 s0_3 s0_4 s0_5 a1 a2 = some (r1, r2, r3, r4)) :
  Calls Try.prog 49 #[.pointer (some ⟨g, 0, none⟩), .int .i64 a1, .int .i64 a2] w fun e w' => e = .returned (.int .i64 r1) ∧ IsS85 w0 w' g r2 r3 s0_2 r4 s0_4 s0_5 ∧ Below w0.heap.size w0 w' ∧ KeepBut w w' g none := by
 have HI0 := Aside0.mk hI
 have HK := Aside0.mk (KeepBut.refl w g none)
 have HL := Aside0.mk hB.size
 clear hI
 have HW0 := Aside0.mk hB.size
 have HB := Aside0.mk hB
 clear hB
 have H : ((field_GF_in.f s0_0 s0_1 s0_2 s0_3 s0_4 s0_5 a1).bind fun bt206 => ((field_GF_in.f bt206.2.1 bt206.2.2.1 s0_2 bt206.2.2.2 s0_4 s0_5 a2).bind fun bt210 => (if bt206.1 = 0 then (some (0, bt210.2.1, bt210.2.2.1, bt210.2.2.2)) else (if bt210.1 = 0 then (some (0, bt210.2.1, bt210.2.2.1, bt210.2.2.2)) else (if 0 ≤ bt206.1 then (if bt206.1 < (s0_5.length : Int) then (if 0 ≤ bt210.1 then (if bt210.1 < (s0_5.length : Int) then (if (wrap64 (bt210.2.2.2 - 1)) = 0 then (none) else (if 0 ≤ (Int.tmod (wrap64 ((rd s0_5 bt206.1) + (rd s0_5 bt210.1))) (wrap64 (bt210.2.2.2 - 1))) then (if (Int.tmod (wrap64 ((rd s0_5 bt206.1) + (rd s0_5 bt210.1))) (wrap64 (bt210.2.2.2 - 1))) < (s0_4.length : Int) then (some (rd s0_4 (Int.tmod (wrap64 ((rd s0_5 bt206.1) + (rd s0_5 bt210.1))) (wrap64 (bt210.2.2.2 - 1))), bt210.2.1, bt210.2.2.1, bt210.2.2.2)) else (none)) else (none))) else (none)) else (none)) else (none)) else (none)))))) = some (r1, r2, r3, r4) := h
 clear h
 replace H := Option.bind_eq_some_iff.mp H
 obtain ⟨⟨t206, t207, t208, t209⟩, A40, H⟩ := H
 replace H : ((field_GF_in.f t207 t208 s0_2 t209 s0_4 s0_5 a2).bind fun bt210 => (if t206 = 0 then (some (0, bt210.2.1, bt210.2.2.1, bt210.2.2.2)) else (if bt210.1 = 0 then (some (0, bt210.2.1, bt210.2.2.1, bt210.2.2.2)) else (if 0 ≤ t206 then (if t206 < (s0_5.length : Int) then (if 0 ≤ bt210.1 then (if bt210.1 < (s0_5.length : Int) then (if (wrap64 (bt210.2.2.2 - 1)) = 0 then (none) else (if 0 ≤ (Int.tmod (wrap64 ((rd s0_5 t206) + (rd s0_5 bt210.1))) (wrap64 (bt210.2.2.2 - 1))) then (if (Int.tmod (wrap64 ((rd s0_5 t206) + (rd s0_5 bt210.1))) (wrap64 (bt210.2.2.2 - 1))) < (s0_4.length : Int) then (some (rd s0_4 (Int.tmod (wrap64 ((rd s0_5 t206) + (rd s0_5 bt210.1))) (wrap64 (bt210.2.2.2 - 1))), bt210.2.1, bt210.2.2.1, bt210.2.2.2)) else (none)) else (none))) else (none)) else (none)) else (none)) else (none))))) = some (r1, r2, r3, r4) := H
 have A4 := Aside0.mk A40
 clear A40
 replace H := Option.bind_eq_some_iff.mp H
 obtain ⟨⟨t210, t211, t212, t213⟩, A50, H⟩ := H
 replace H : (if t206 = 0 then (some (0, t211, t212, t213)) else (if t210 = 0 then (some (0, t211, t212, t213)) else (if 0 ≤ t206 then (if t206 < (s0_5.length : Int) then (if 0 ≤ t210 then (if t210 < (s0_5.length : Int) then (if (wrap64 (t213 - 1)) = 0 then (none) else (if 0 ≤ (Int.tmod (wrap64 ((rd s0_5 t206) + (rd s0_5 t210))) (wrap64 (t213 - 1))) then (if (Int.tmod (wrap64 ((rd s0_5 t206) + (rd s0_5 t210))) (wrap64 (t213 - 1))) < (s0_4.length : Int) then (some (rd s0_4 (Int.tmod (wrap64 ((rd s0_5 t206) + (rd s0_5 t210))) (wrap64 (t213 - 1))), t211, t212, t213)) else (none)) else (none))) else (none)) else (none)) else (none)) else (none)))) = some (r1, r2, r3, r4) := H
 have A5 := Aside0.mk A50
 clear A50
 by_cases c6 : t206 = 0
 ·rw [if_pos c6] at H
  have c6b0 : (t206 == 0) = true := beq_iff_eq.mpr c6
  have c6b1 : (t206 != 0) = false := bne_eq_false_iff_eq.mpr c6
  clear c6
  simp only [Option.some.injEq, Prod.mk.injEq] at H
  obtain ⟨rfl, rfl, rfl, rfl⟩ := H
  go_enter Try.func49, Try.ntmps49
  go_wp2_with (first | (go_at_call 77; (with_reducible refine (field_GF_in.calls g s0_0 s0_1 s0_2 s0_3 s0_4 s0_5 a1 t206 t207 t208 t209 w0 _ ?side1 ?side2 A4.out).mono ?_); (case side1 => repeat ((with_reducible (exact HI0.out)))); (case side2 => repeat ((with_reducible (exact HB.out)))); rintro e w7 ⟨rfl, hi, hb, hk⟩; have n0_ := Aside0.mk (KeepBut.trans HK.out hk (.inl rfl)); have n1_ := Aside0.mk (hb); have n2_ := Aside0.mk (hi); clear HK; clear HB; clear HI0; have HK := n0_; have HB := n1_; have HI0 := n2_; clear n0_ n1_ n2_; ((clear hb)); (skip); ((clear hk)); ((clear hi))) | (go_at_call 77; (with_reducible refine (field_GF_in.calls g t207 t208 s0_2 t209 s0_4 s0_5 a2 t210 t211 t212 t213 w0 _ ?side1 ?side2 A5.out).mono ?_); (case side1 => repeat ((with_reducible (exact HI0.out)))); (case side2 => repeat ((with_reducible (exact HB.out)))); rintro e w8 ⟨rfl, hi, hb, hk⟩; have n0_ := Aside0.mk (KeepBut.trans HK.out hk (.inl rfl)); have n1_ := Aside0.mk (hb); have n2_ := Aside0.mk (hi); clear HK; clear HB; clear HI0; have HK := n0_; have HB := n1_; have HI0 := n2_; clear n0_ n1_ n2_; ((clear hb)); (skip); ((clear hk)); ((clear hi))))
  repeat (go_quiet (first | (go_at_call 77; (with_reducible refine (field_GF_in.calls g s0_0 s0_1 s0_2 s0_3 s0_4 s0_5 a1 t206 t207 t208 t209 w0 _ ?side1 ?side2 A4.out).mono ?_); (case side1 => repeat (first | (with_reducible first | exact HI0.out | apply IsS85.alloc | apply IsS85.drewN | apply IsS85.drew | apply IsS85.set_0 | apply IsS85.set_1 | apply IsS85.set_3) | exact HI0.out)); (case side2 => repeat (first | (with_reducible first | exact HB.out | apply below_alloc | apply pw_below_drewN | apply below_drew1 | refine below_set ?_ (IsS85.ge HI0.out)) | exact HB.out)); rintro e w7 ⟨rfl, hi, hb, hk⟩; have n0_ := Aside0.mk (KeepBut.trans (by repeat (first | (with_reducible first | exact HK.out | apply KeepBut.set_ | apply keep_drewN | apply keep_drew | apply keep_alloc) | exact HK.out)) hk (.inl rfl)); have n1_ := Aside0.mk (hb); have n2_ := Aside0.mk (hi); clear HK; clear HB; clear HI0; have HK := n0_; have HB := n1_; have HI0 := n2_; clear n0_ n1_ n2_; (try clear hb); (try clear hb2); (try clear hk); (try clear hi)) | (go_at_call 77; (with_reducible refine (field_GF_in.calls g t207 t208 s0_2 t209 s0_4 s0_5 a2 t210 t211 t212 t213 w0 _ ?side1 ?side2 A5.out).mono ?_); (case side1 => repeat (first | (with_reducible first | exact HI0.out | apply IsS85.alloc | apply IsS85.drewN | apply IsS85.drew | apply IsS85.set_0 | apply IsS85.set_1 | apply IsS85.set_3) | exact HI0.out)); (case side2 => repeat (first | (with_reducible first | exact HB.out | apply below_alloc | apply pw_below_drewN | apply below_drew1 | refine below_set ?_ (IsS85.ge HI0.out)) | exact HB.out)); rintro e w8 ⟨rfl, hi, hb, hk⟩; have n0_ := Aside0.mk (KeepBut.trans (by repeat (first | (with_reducible first | exact HK.out | apply KeepBut.set_ | apply keep_drewN | apply keep_drew | apply keep_alloc) | exact HK.out)) hk (.inl rfl)); have n1_ := Aside0.mk (hb); have n2_ := Aside0.mk (hi); clear HK; clear HB; clear HI0; have HK := n0_; have HB := n1_; have HI0 := n2_; clear n0_ n1_ n2_; (try clear hb); (try clear hb2); (try clear hk); (try clear hi))); try go_wp2_with (first | (go_at_call 77; (with_reducible refine (field_GF_in.calls g s0_0 s0_1 s0_2 s0_3 s0_4 s0_5 a1 t206 t207 t208 t209 w0 _ ?side1 ?side2 A4.out).mono ?_); (case side1 => repeat (first | (with_reducible first | exact HI0.out | apply IsS85.alloc | apply IsS85.drewN | apply IsS85.drew | apply IsS85.set_0 | apply IsS85.set_1 | apply IsS85.set_3) | exact HI0.out)); (case side2 => repeat (first | (with_reducible first | exact HB.out | apply below_alloc | apply pw_below_drewN | apply below_drew1 | refine below_set ?_ (IsS85.ge HI0.out)) | exact HB.out)); rintro e w7 ⟨rfl, hi, hb, hk⟩; have n0_ := Aside0.mk (KeepBut.trans (by repeat (first | (with_reducible first | exact HK.out | apply KeepBut.set_ | apply keep_drewN | apply keep_drew | apply keep_alloc) | exact HK.out)) hk (.inl rfl)); have n1_ := Aside0.mk (hb); have n2_ := Aside0.mk (hi); clear HK; clear HB; clear HI0; have HK := n0_; have HB := n1_; have HI0 := n2_; clear n0_ n1_ n2_; (try clear hb); (try clear hb2); (try clear hk); (try clear hi)) | (go_at_call 77; (with_reducible refine (field_GF_in.calls g t207 t208 s0_2 t209 s0_4 s0_5 a2 t210 t211 t212 t213 w0 _ ?side1 ?side2 A5.out).mono ?_); (case side1 => repeat (first | (with_reducible first | exact HI0.out | apply IsS85.alloc | apply IsS85.drewN | apply IsS85.drew | apply IsS85.set_0 | apply IsS85.set_1 | apply IsS85.set_3) | exact HI0.out)); (case side2 => repeat (first | (with_reducible first | exact HB.out | apply below_alloc | apply pw_below_drewN | apply below_drew1 | refine below_set ?_ (IsS85.ge HI0.out)) | exact HB.out)); rintro e w8 ⟨rfl, hi, hb, hk⟩; have n0_ := Aside0.mk (KeepBut.trans (by repeat (first | (with_reducible first | exact HK.out | apply KeepBut.set_ | apply keep_drewN | apply keep_drew | apply keep_alloc) | exact HK.out)) hk (.inl rfl)); have n1_ := Aside0.mk (hb); have n2_ := Aside0.mk (hi); clear HK; clear HB; clear HI0; have HK := n0_; have HB := n1_; have HI0 := n2_; clear n0_ n1_ n2_; (try clear hb); (try clear hb2); (try clear hk); (try clear hi))))
  go_ret
  exact ⟨by rfl, by exact HI0.out, by exact HB.out, by exact HK.out⟩
 ·rw [if_neg c6] at H
  have c6b0 : (t206 == 0) = false := beq_eq_false_iff_ne.mpr c6
  have c6b1 : (t206 != 0) = true := bne_iff_ne.mpr c6
  by_cases c9 : t210 = 0
  ·rw [if_pos c9] at H
   have c9b0 : (t210 == 0) = true := beq_iff_eq.mpr c9
   have c9b1 : (t210 != 0) = false := bne_eq_false_iff_eq.mpr c9
   clear c9
   simp only [Option.some.injEq, Prod.mk.injEq] at H
   obtain ⟨rfl, rfl, rfl, rfl⟩ := H
   go_enter Try.func49, Try.ntmps49
   go_wp2_with (first | (go_at_call 77; (with_reducible refine (field_GF_in.calls g s0_0 s0_1 s0_2 s0_3 s0_4 s0_5 a1 t206 t207 t208 t209 w0 _ ?side1 ?side2 A4.out).mono ?_); (case side1 => repeat ((with_reducible (exact HI0.out)))); (case side2 => repeat ((with_reducible (exact HB.out)))); rintro e w10 ⟨rfl, hi, hb, hk⟩; have n0_ := Aside0.mk (KeepBut.trans HK.out hk (.inl rfl)); have n1_ := Aside0.mk (hb); have n2_ := Aside0.mk (hi); clear HK; clear HB; clear HI0; have HK := n0_; have HB := n1_; have HI0 := n2_; clear n0_ n1_ n2_; ((clear hb)); (skip); ((clear hk)); ((clear hi))) | (go_at_call 77; (with_reducible refine (field_GF_in.calls g t207 t208 s0_2 t209 s0_4 s0_5 a2 t210 t211 t212 t213 w0 _ ?side1 ?side2 A5.out).mono ?_); (case side1 => repeat ((with_reducible (exact HI0.out)))); (case side2 => repeat ((with_reducible (exact HB.out)))); rintro e w11 ⟨rfl, hi, hb, hk⟩; have n0_ := Aside0.mk (KeepBut.trans HK.out hk (.inl rfl)); have n1_ := Aside0.mk (hb); have n2_ := Aside0.mk (hi); clear HK; clear HB; clear HI0; have HK := n0_; have HB := n1_; have HI0 := n2_; clear n0_ n1_ n2_; ((clear hb)); (skip); ((clear hk)); ((clear hi))))
   repeat (go_quiet (first | (go_at_call 77; (with_reducible refine (field_GF_in.calls g s0_0 s0_1 s0_2 s0_3 s0_4 s0_5 a1 t206 t207 t208 t209 w0 _ ?side1 ?side2 A4.out).mono ?_); (case side1 => repeat (first | (with_reducible first | exact HI0.out | apply IsS85.alloc | apply IsS85.drewN | apply IsS85.drew | apply IsS85.set_0 | apply IsS85.set_1 | apply IsS85.set_3) | exact HI0.out)); (case side2 => repeat (first | (with_reducible first | exact HB.out | apply below_alloc | apply pw_below_drewN | apply below_drew1 | refine below_set ?_ (IsS85.ge HI0.out)) | exact HB.out)); rintro e w10 ⟨rfl, hi, hb, hk⟩; have n0_ := Aside0.mk (KeepBut.trans (by repeat (first | (with_reducible first | exact HK.out | apply KeepBut.set_ | apply keep_drewN | apply keep_drew | apply keep_alloc) | exact HK.out)) hk (.inl rfl)); have n1_ := Aside0.mk (hb); have n2_ := Aside0.mk (hi); clear HK; clear HB; clear HI0; have HK := n0_; have HB := n1_; have HI0 := n2_; clear n0_ n1_ n2_; (try clear hb); (try clear hb2); (try clear hk); (try clear hi)) | (go_at_call 77; (with_reducible refine (field_GF_in.calls g t207 t208 s0_2 t209 s0_4 s0_5 a2 t210 t211 t212 t213 w0 _ ?side1 ?side2 A5.out).mono ?_); (case side1 => repeat (first | (with_reducible first | exact HI0.out | apply IsS85.alloc | apply IsS85.drewN | apply IsS85.drew | apply IsS85.set_0 | apply IsS85.set_1 | apply IsS85.set_3) | exact HI0.out)); (case side2 => repeat (first | (with_reducible first | exact HB.out | apply below_alloc | apply pw_below_drewN | apply below_drew1 | refine below_set ?_ (IsS85.ge HI0.out)) | exact HB.out)); rintro e w11 ⟨rfl, hi, hb, hk⟩; have n0_ := Aside0.mk (KeepBut.trans (by repeat (first | (with_reducible first | exact HK.out | apply KeepBut.set_ | apply keep_drewN | apply keep_drew | apply keep_alloc) | exact HK.out)) hk (.inl rfl)); have n1_ := Aside0.mk (hb); have n2_ := Aside0.mk (hi); clear HK; clear HB; clear HI0; have HK := n0_; have HB := n1_; have HI0 := n2_; clear n0_ n1_ n2_; (try clear hb); (try clear hb2); (try clear hk); (try clear hi))); try go_wp2_with (first | (go_at_call 77; (with_reducible refine (field_GF_in.calls g s0_0 s0_1 s0_2 s0_3 s0_4 s0_5 a1 t206 t207 t208 t209 w0 _ ?side1 ?side2 A4.out).mono ?_); (case side1 => repeat (first | (with_reducible first | exact HI0.out | apply IsS85.alloc | apply IsS85.drewN | apply IsS85.drew | apply IsS85.set_0 | apply IsS85.set_1 | apply IsS85.set_3) | exact HI0.out)); (case side2 => repeat (first | (with_reducible first | exact HB.out | apply below_alloc | apply pw_below_drewN | apply below_drew1 | refine below_set ?_ (IsS85.ge HI0.out)) | exact HB.out)); rintro e w10 ⟨rfl, hi, hb, hk⟩; have n0_ := Aside0.mk (KeepBut.trans (by repeat (first | (with_reducible first | exact HK.out | apply KeepBut.set_ | apply keep_drewN | apply keep_drew | apply keep_alloc) | exact HK.out)) hk (.inl rfl)); have n1_ := Aside0.mk (hb); have n2_ := Aside0.mk (hi); clear HK; clear HB; clear HI0; have HK := n0_; have HB := n1_; have HI0 := n2_; clear n0_ n1_ n2_; (try clear hb); (try clear hb2); (try clear hk); (try clear hi)) | (go_at_call 77; (with_reducible refine (field_GF_in.calls g t207 t208 s0_2 t209 s0_4 s0_5 a2 t210 t211 t212 t213 w0 _ ?side1 ?side2 A5.out).mono ?_); (case side1 => repeat (first | (with_reducible first | exact HI0.out | apply IsS85.alloc | apply IsS85.drewN | apply IsS85.drew | apply IsS85.set_0 | apply IsS85.set_1 | apply IsS85.set_3) | exact HI0.out)); (case side2 => repeat (first | (with_reducible first | exact HB.out | apply below_alloc | apply pw_below_drewN | apply below_drew1 | refine below_set ?_ (IsS85.ge HI0.out)) | exact HB.out)); rintro e w11 ⟨rfl, hi, hb, hk⟩; have n0_ := Aside0.mk (KeepBut.trans (by repeat (first | (with_reducible first | exact HK.out | apply KeepBut.set_ | apply keep_drewN | apply keep_drew | apply keep_alloc) | exact HK.out)) hk (.inl rfl)); have n1_ := Aside0.mk (hb); have n2_ := Aside0.mk (hi); clear HK; clear HB; clear HI0; have HK := n0_; have HB := n1_; have HI0 := n2_; clear n0_ n1_ n2_; (try clear hb); (try clear hb2); (try clear hk); (try clear hi))))
   go_ret
   exact ⟨by rfl, by exact HI0.out, by exact HB.out, by exact HK.out⟩
  ·rw [if_neg c9] at H
   have c9b0 : (t210 == 0) = false := beq_eq_false_iff_ne.mpr c9
   have c9b1 : (t210 != 0) = true := bne_iff_ne.mpr c9
   by_cases c12 : 0 ≤ t206
   ·rw [if_pos c12] at H
    have c12b0 : decide (0 ≤ t206) = true := decide_eq_true c12
    clear c12
    by_cases c13 : t206 < (s0_5.length : Int)
    ·rw [if_pos c13] at H
     have c13b0 : decide (t206 < (s0_5.length : Int)) = true := decide_eq_true c13
     clear c13
     by_cases c14 : 0 ≤ t210
     ·rw [if_pos c14] at H
      have c14b0 : decide (0 ≤ t210) = true := decide_eq_true c14
      clear c14
      by_cases c15 : t210 < (s0_5.length : Int)
      ·rw [if_pos c15] at H
       have c15b0 : decide (t210 < (s0_5.length : Int)) = true := decide_eq_true c15
       clear c15
       by_cases c16 : (wrap64 (t213 - 1)) = 0
       ·rw [if_pos c16] at H
        exact absurd H (by simp)
       ·rw [if_neg c16] at H
        have c16b0 : ((wrap64 (t213 - 1)) == 0) = false := beq_eq_false_iff_ne.mpr c16
        have c16b1 : ((wrap64 (t213 - 1)) != 0) = true := bne_iff_ne.mpr c16
        obtain ⟨ji17, hji17⟩ : ∃ j_ : Int, (Int.tmod (wrap64 ((rd s0_5 t206) + (rd s0_5 t210))) (wrap64 (t213 - 1))) = j_ := ⟨_, rfl⟩
        replace H : (if 0 ≤ (ji17) then (if (ji17) < (s0_4.length : Int) then (some (rd s0_4 (ji17), t211, t212, t213)) else (none)) else (none)) = some (r1, r2, r3, r4) := by (rw [hji17] at H; exact H)
        by_cases c18 : 0 ≤ (ji17)
        ·rw [if_pos c18] at H
         have c18b0 : decide (0 ≤ (ji17)) = true := decide_eq_true c18
         clear c18
         by_cases c19 : (ji17) < (s0_4.length : Int)
         ·rw [if_pos c19] at H
          have c19b0 : decide ((ji17) < (s0_4.length : Int)) = true := decide_eq_true c19
          clear c19
          simp only [Option.some.injEq, Prod.mk.injEq] at H
          obtain ⟨rfl, rfl, rfl, rfl⟩ := H
          go_enter Try.func49, Try.ntmps49
          go_wp2_with (first | (go_at_call 77; (with_reducible refine (field_GF_in.calls g s0_0 s0_1 s0_2 s0_3 s0_4 s0_5 a1 t206 t207 t208 t209 w0 _ ?side1 ?side2 A4.out).mono ?_); (case side1 => repeat ((with_reducible (exact HI0.out)))); (case side2 => repeat ((with_reducible (exact HB.out)))); rintro e w20 ⟨rfl, hi, hb, hk⟩; have n0_ := Aside0.mk (KeepBut.trans HK.out hk (.inl rfl)); have n1_ := Aside0.mk (hb); have n2_ := Aside0.mk (hi); clear HK; clear HB; clear HI0; have HK := n0_; have HB := n1_; have HI0 := n2_; clear n0_ n1_ n2_; ((clear hb)); (skip); ((clear hk)); ((clear hi))) | (go_at_call 77; (with_reducible refine (field_GF_in.calls g t207 t208 s0_2 t209 s0_4 s0_5 a2 t210 t211 t212 t213 w0 _ ?side1 ?side2 A5.out).mono ?_); (case side1 => repeat ((with_reducible (exact HI0.out)))); (case side2 => repeat ((with_reducible (exact HB.out)))); rintro e w21 ⟨rfl, hi, hb, hk⟩; have n0_ := Aside0.mk (KeepBut.trans HK.out hk (.inl rfl)); have n1_ := Aside0.mk (hb); have n2_ := Aside0.mk (hi); clear HK; clear HB; clear HI0; have HK := n0_; have HB := n1_; have HI0 := n2_; clear n0_ n1_ n2_; ((clear hb)); (skip); ((clear hk)); ((clear hi)); obtain ⟨ASz22_2, cSz22_2, ASz22_4, cSz22_4, ASz22_5, cSz22_5, HGz22, hgz22, HSz22_2, HSz22_4, HSz22_5⟩ := HI0.out; have hcz22_0 := cellS85_0 HGz22; have hcz22_1 := cellS85_1 HGz22; have hcz22_2 := cellS85_2 HGz22; have hcz22_3 := cellS85_3 HGz22; have hcz22_4 := cellS85_4 HGz22; have hcz22_5 := cellS85_5 HGz22; have hfz22_0 := blk_frozen HGz22 0; have hfz22_1 := blk_frozen HGz22 1; have hfz22_3 := blk_frozen HGz22 3; clear HGz22 hgz22; have p214 : 0 ≤ (t206 : Int) := of_decide_eq_true (by (with_reducible assumption)); have q214 : t206 < (s0_5.length : Int) := of_decide_eq_true (by (with_reducible assumption)); obtain ⟨ad214, e214, hx214_0⟩ := Kd.at_int HSz22_5 t206 p214 q214; cases e214; replace hx214_0 := pw_cell_below HB.out hx214_0; replace p214 := eq_true p214; replace q214 := eq_true q214; have p215 : 0 ≤ (t210 : Int) := of_decide_eq_true (by (with_reducible assumption)); have q215 : t210 < (s0_5.length : Int) := of_decide_eq_true (by (with_reducible assumption)); obtain ⟨ad215, e215, hx215_0⟩ := Kd.at_int HSz22_5 t210 p215 q215; obtain rfl : ad214 = ad215 := (by injection e215); replace hx215_0 := pw_cell_below HB.out hx215_0; replace p215 := eq_true p215; replace q215 := eq_true q215; have p216 : 0 ≤ ((ji17) : Int) := of_decide_eq_true (by (with_reducible assumption)); have q216 : (ji17) < (s0_4.length : Int) := of_decide_eq_true (by (with_reducible assumption)); obtain ⟨ad216, e216, hx216_0⟩ := Kd.at_int HSz22_4 (ji17) p216 q216; cases e216; replace hx216_0 := pw_cell_below HB.out hx216_0; replace p216 := eq_true p216; replace q216 := eq_true q216))
          repeat (go_quiet (first | (go_at_call 77; (with_reducible refine (field_GF_in.calls g s0_0 s0_1 s0_2 s0_3 s0_4 s0_5 a1 t206 t207 t208 t209 w0 _ ?side1 ?side2 A4.out).mono ?_); (case side1 => repeat (first | (with_reducible first | exact HI0.out | apply IsS85.alloc | apply IsS85.drewN | apply IsS85.drew | apply IsS85.set_0 | apply IsS85.set_1 | apply IsS85.set_3) | exact HI0.out)); (case side2 => repeat (first | (with_reducible first | exact HB.out | apply below_alloc | apply pw_below_drewN | apply below_drew1 | refine below_set ?_ (IsS85.ge HI0.out)) | exact HB.out)); rintro e w20 ⟨rfl, hi, hb, hk⟩; have n0_ := Aside0.mk (KeepBut.trans (by repeat (first | (with_reducible first | exact HK.out | apply KeepBut.set_ | apply keep_drewN | apply keep_drew | apply keep_alloc) | exact HK.out)) hk (.inl rfl)); have n1_ := Aside0.mk (hb); have n2_ := Aside0.mk (hi); clear HK; clear HB; clear HI0; have HK := n0_; have HB := n1_; have HI0 := n2_; clear n0_ n1_ n2_; (try clear hb); (try clear hb2); (try clear hk); (try clear hi)) | (go_at_call 77; (with_reducible refine (field_GF_in.calls g t207 t208 s0_2 t209 s0_4 s0_5 a2 t210 t211 t212 t213 w0 _ ?side1 ?side2 A5.out).mono ?_); (case side1 => repeat (first | (with_reducible first | exact HI0.out | apply IsS85.alloc | apply IsS85.drewN | apply IsS85.drew | apply IsS85.set_0 | apply IsS85.set_1 | apply IsS85.set_3) | exact HI0.out)); (case side2 => repeat (first | (with_reducible first | exact HB.out | apply below_alloc | apply pw_below_drewN | apply below_drew1 | refine below_set ?_ (IsS85.ge HI0.out)) | exact HB.out)); rintro e w21 ⟨rfl, hi, hb, hk⟩; have n0_ := Aside0.mk (KeepBut.trans (by repeat (first | (with_reducible first | exact HK.out | apply KeepBut.set_ | apply keep_drewN | apply keep_drew | apply keep_alloc) | exact HK.out)) hk (.inl rfl)); have n1_ := Aside0.mk (hb); have n2_ := Aside0.mk (hi); clear HK; clear HB; clear HI0; have HK := n0_; have HB := n1_; have HI0 := n2_; clear n0_ n1_ n2_; (try clear hb); (try clear hb2); (try clear hk); (try clear hi); obtain ⟨ASz22_2, cSz22_2, ASz22_4, cSz22_4, ASz22_5, cSz22_5, HGz22, hgz22, HSz22_2, HSz22_4, HSz22_5⟩ := HI0.out; have hcz22_0 := cellS85_0 HGz22; have hcz22_1 := cellS85_1 HGz22; have hcz22_2 := cellS85_2 HGz22; have hcz22_3 := cellS85_3 HGz22; have hcz22_4 := cellS85_4 HGz22; have hcz22_5 := cellS85_5 HGz22; have hfz22_0 := blk_frozen HGz22 0; have hfz22_1 := blk_frozen HGz22 1; have hfz22_3 := blk_frozen HGz22 3; clear HGz22 hgz22; have p214 : 0 ≤ (t206 : Int) := of_decide_eq_true (by first | (with_reducible assumption) | assumption); have q214 : t206 < (s0_5.length : Int) := of_decide_eq_true (by first | (with_reducible assumption) | assumption); obtain ⟨ad214, e214, hx214_0⟩ := Kd.at_int HSz22_5 t206 p214 q214; cases e214; replace hx214_0 := pw_cell_below HB.out hx214_0; replace p214 := eq_true p214; replace q214 := eq_true q214; have p215 : 0 ≤ (t210 : Int) := of_decide_eq_true (by first | (with_reducible assumption) | assumption); have q215 : t210 < (s0_5.length : Int) := of_decide_eq_true (by first | (with_reducible assumption) | assumption); obtain ⟨ad215, e215, hx215_0⟩ := Kd.at_int HSz22_5 t210 p215 q215; obtain rfl : ad214 = ad215 := (by injection e215); replace hx215_0 := pw_cell_below HB.out hx215_0; replace p215 := eq_true p215; replace q215 := eq_true q215; have p216 : 0 ≤ ((ji17) : Int) := of_decide_eq_true (by first | (with_reducible assumption) | assumption); have q216 : (ji17) < (s0_4.length : Int) := of_decide_eq_true (by first | (with_reducible assumption) | assumption); obtain ⟨ad216, e216, hx216_0⟩ := Kd.at_int HSz22_4 (ji17) p216 q216; cases e216; replace hx216_0 := pw_cell_below HB.out hx216_0; replace p216 := eq_true p216; replace q216 := eq_true q216)); (go_wp2_with (fail)))
          go_ret
          exact ⟨by rfl, by repeat ((with_reducible first | (exact HI0.out) | (apply IsS85.drewN))), by repeat ((with_reducible first | (exact HB.out) | (apply pw_below_drewN))), by repeat ((with_reducible first | (exact HK.out) | (apply keep_drewN)))⟩
         ·rw [if_neg c19] at H
          exact absurd H (by simp)
        ·rw [if_neg c18] at H
         exact absurd H (by simp)
      ·rw [if_neg c15] at H
       exact absurd H (by simp)
     ·rw [if_neg c14] at H
      exact absurd H (by simp)
    ·rw [if_neg c13] at H
     exact absurd H (by simp)
   ·rw [if_neg c12] at H
    exact absurd H (by simp)
end Go.Proofs.Ytiejggpmjapajaa.PA
end
section
namespace Go.Proofs.Ytiejggpmjapajaa.PA
open Go.RowKit Go.Proofs.YtiejggpmjapajaaW.PrintWords Go.Proofs.YtiejggpmjapajaaW.PrintLast Go.Proofs.YtiejggpmjapajaaW.PrintMore
attribute [local go_sem] max2_int min2_int max_two min_two max_three min_three max_four min_four
set_option linter.unusedVariables false
set_option linter.unusedSimpArgs false
def field_GF_Add.l0 : Nat → Int → Int → Int → Int → Int → Int → List Int → Int → List Int → List Int → Option (Int × Int × Int × Int)
 | 0, _, _, _, _, _, _, _, _, _, _ => none
 | k + 1, x1, x2, x7, x8, x1000, x1001, x1002, x1003, x1004, x1005 => if x1 > 0 then (if x1000 = 0 then (none) else (field_GF_Add.l0 k (wrap64 (Int.tdiv x1 x1000)) (wrap64 (Int.tdiv x2 x1000)) (wrap64 (x7 + (wrap64 ((Int.tmod (wrap64 ((Int.tmod x1 x1000) + (Int.tmod x2 x1000))) x1000) * x8)))) (wrap64 (x8 * x1000)) x1000 x1001 x1002 x1003 x1004 x1005)) else (if x2 > 0 then (if x1000 = 0 then (none) else (field_GF_Add.l0 k (wrap64 (Int.tdiv x1 x1000)) (wrap64 (Int.tdiv x2 x1000)) (wrap64 (x7 + (wrap64 ((Int.tmod (wrap64 ((Int.tmod x1 x1000) + (Int.tmod x2 x1000))) x1000) * x8)))) (wrap64 (x8 * x1000)) x1000 x1001 x1002 x1003 x1004 x1005)) else (some (x7, x1000, x1001, x1003)))
def field_GF_Add.f (k : Nat) (s0_0 : Int) (s0_1 : Int) (s0_2 : List Int) (s0_3 : Int) (s0_4 : List Int) (s0_5 : List Int) (a1 : Int) (a2 : Int) : Option (Int × Int × Int × Int) := (field_GF_in.f s0_0 s0_1 s0_2 s0_3 s0_4 s0_5 a1).bind fun bt217 => ((field_GF_in.f bt217.2.1 bt217.2.2.1 s0_2 bt217.2.2.2 s0_4 s0_5 a2).bind fun bt221 => (if bt221.2.1 = 2 then (some (Go.bits .xor .i64 bt217.1 bt221.1, bt221.2.1, bt221.2.2.1, bt221.2.2.2)) else (field_GF_Add.l0 k bt217.1 bt221.1 0 1 bt221.2.1 bt221.2.2.1 s0_2 bt221.2.2.2 s0_4 s0_5)))
set_option maxHeartbeats 8000000 in
set_option maxRecDepth 100000 in
theorem field_GF_Add.calls (k : Nat) (g : Nat) (s0_0 : Int) (s0_1 : Int) (s0_2 : List Int) (s0_3 : Int) (s0_4 : List Int) (s0_5 : List Int) (a1 : Int) (a2 : Int) (r1 : Int) (r2 : Int) (r3 : Int) (r4 : Int) (w0 w : World) (hI : IsS85 w0 w g s0_0 s0_1 s0_2 s0_3 s0_4 s0_5) (hB : Below w0.heap.size w0 w) (h : field_GF_Add.f k s0_0 s0_1 s0_2 s0_3 s0_4 s0_5 a1 a2 = some (r1, r2, r3, r4)) :
  Calls Try.prog 58 #[.pointer (some ⟨g, 0, none⟩), .int .i64 a1, .int .i64 a2] w fun e w' => e = .returned (.int .i64 r1) ∧ IsS85 w0 w' g r2 r3 s0_2 r4 s0_4 s0_5 ∧ Below w0.heap.size w0 w' ∧ KeepBut w w' g none := by
 have HI0 := Aside0.mk hI
 have HK := Aside0.mk (KeepBut.refl w g none)
 have HL := Aside0.mk hB.size
 clear hI
 have HW0 := Aside0.mk hB.size
 have HB := Aside0.mk hB
 clear hB
 have H : ((field_GF_in.f s0_0 s0_1 s0_2 s0_3 s0_4 s0_5 a1).bind fun bt217 => ((field_GF_in.f bt217.2.1 bt217.2.2.1 s0_2 bt217.2.2.2 s0_4 s0_5 a2).bind fun bt221 => (if bt221.2.1 = 2 then (some (Go.bits .xor .i64 bt217.1 bt221.1, bt221.2.1, bt221.2.2.1, bt221.2.2.2)) else (field_GF_Add.l0 k bt217.1 bt221.1 0 1 bt221.2.1 bt221.2.2.1 s0_2 bt221.2.2.2 s0_4 s0_5)))) = some (r1, r2, r3, r4) := h
 clear h
 replace H := Option.bind_eq_some_iff.mp H
 obtain ⟨⟨t217, t218, t219, t220⟩, A40, H⟩ := H
 replace H : ((field_GF_in.f t218 t219 s0_2 t220 s0_4 s0_5 a2).bind fun bt221 => (if bt221.2.1 = 2 then (some (Go.bits .xor .i64 t217 bt221.1, bt221.2.1, bt221.2.2.1, bt221.2.2.2)) else (field_GF_Add.l0 k t217 bt221.1 0 1 bt221.2.1 bt221.2.2.1 s0_2 bt221.2.2.2 s0_4 s0_5))) = some (r1, r2, r3, r4) := H
 have A4 := Aside0.mk A40
 clear A40
 replace H := Option.bind_eq_some_iff.mp H
 obtain ⟨⟨t221, t222, t223, t224⟩, A50, H⟩ := H
 replace H : (if t222 = 2 then (some (Go.bits .xor .i64 t217 t221, t222, t223, t224)) else (field_GF_Add.l0 k t217 t221 0 1 t222 t223 s0_2 t224 s0_4 s0_5)) = some (r1, r2, r3, r4) := H
 have A5 := Aside0.mk A50
 clear A50
 by_cases c6 : t222 = 2
 ·rw [if_pos c6] at H
  have c6b0 : (t222 == 2) = true := beq_iff_eq.mpr c6
  have c6b1 : (t222 != 2) = false := bne_eq_false_iff_eq.mpr c6
  clear c6
  simp only [Option.some.injEq, Prod.mk.injEq] at H
  obtain ⟨rfl, rfl, rfl, rfl⟩ := H
  go_enter Try.func58, Try.ntmps58
  go_wp2_with (first | (go_at_call 77; (with_reducible refine (field_GF_in.calls g s0_0 s0_1 s0_2 s0_3 s0_4 s0_5 a1 t217 t218 t219 t220 w0 _ ?side1 ?side2 A4.out).mono ?_); (case side1 => repeat ((with_reducible (exact HI0.out)))); (case side2 => repeat ((with_reducible (exact HB.out)))); rintro e w7 ⟨rfl, hi, hb, hk⟩; have n0_ := Aside0.mk (KeepBut.trans HK.out hk (.inl rfl)); have n1_ := Aside0.mk (hb); have n2_ := Aside0.mk (hi); clear HK; clear HB; clear HI0; have HK := n0_; have HB := n1_; have HI0 := n2_; clear n0_ n1_ n2_; ((clear hb)); (skip); ((clear hk)); ((clear hi))) | (go_at_call 77; (with_reducible refine (field_GF_in.calls g t218 t219 s0_2 t220 s0_4 s0_5 a2 t221 t222 t223 t224 w0 _ ?side1 ?side2 A5.out).mono ?_); (case side1 => repeat ((with_reducible (exact HI0.out)))); (case side2 => repeat ((with_reducible (exact HB.out)))); rintro e w8 ⟨rfl, hi, hb, hk⟩; have n0_ := Aside0.mk (KeepBut.trans HK.out hk (.inl rfl)); have n1_ := Aside0.mk (hb); have n2_ := Aside0.mk (hi); clear HK; clear HB; clear HI0; have HK := n0_; have HB := n1_; have HI0 := n2_; clear n0_ n1_ n2_; ((clear hb)); (skip); ((clear hk)); ((clear hi)); obtain ⟨ASz9_2, cSz9_2, ASz9_4, cSz9_4, ASz9_5, cSz9_5, HGz9, hgz9, HSz9_2, HSz9_4, HSz9_5⟩ := HI0.out; have hcz9_0 := cellS85_0 HGz9; have hcz9_1 := cellS85_1 HGz9; have hcz9_2 := cellS85_2 HGz9; have hcz9_3 := cellS85_3 HGz9; have hcz9_4 := cellS85_4 HGz9; have hcz9_5 := cellS85_5 HGz9; have hfz9_0 := blk_frozen HGz9 0; have hfz9_1 := blk_frozen HGz9 1; have hfz9_3 := blk_frozen HGz9 3; clear HGz9 hgz9))
  repeat (go_quiet (first | (go_at_call 77; (with_reducible refine (field_GF_in.calls g s0_0 s0_1 s0_2 s0_3 s0_4 s0_5 a1 t217 t218 t219 t220 w0 _ ?side1 ?side2 A4.out).mono ?_); (case side1 => repeat (first | (with_reducible first | exact HI0.out | apply IsS85.alloc | apply IsS85.drewN | apply IsS85.drew | apply IsS85.set_0 | apply IsS85.set_1 | apply IsS85.set_3) | exact HI0.out)); (case side2 => repeat (first | (with_reducible first | exact HB.out | apply below_alloc | apply pw_below_drewN | apply below_drew1 | refine below_set ?_ (IsS85.ge HI0.out)) | exact HB.out)); rintro e w7 ⟨rfl, hi, hb, hk⟩; have n0_ := Aside0.mk (KeepBut.trans (by repeat (first | (with_reducible first | exact HK.out | apply KeepBut.set_ | apply keep_drewN | apply keep_drew | apply keep_alloc) | exact HK.out)) hk (.inl rfl)); have n1_ := Aside0.mk (hb); have n2_ := Aside0.mk (hi); clear HK; clear HB; clear HI0; have HK := n0_; have HB := n1_; have HI0 := n2_; clear n0_ n1_ n2_; (try clear hb); (try clear hb2); (try clear hk); (try clear hi)) | (go_at_call 77; (with_reducible refine (field_GF_in.calls g t218 t219 s0_2 t220 s0_4 s0_5 a2 t221 t222 t223 t224 w0 _ ?side1 ?side2 A5.out).mono ?_); (case side1 => repeat (first | (with_reducible first | exact HI0.out | apply IsS85.alloc | apply IsS85.drewN | apply IsS85.drew | apply IsS85.set_0 | apply IsS85.set_1 | apply IsS85.set_3) | exact HI0.out)); (case side2 => repeat (first | (with_reducible first | exact HB.out | apply below_alloc | apply pw_below_drewN | apply below_drew1 | refine below_set ?_ (IsS85.ge HI0.out)) | exact HB.out)); rintro e w8 ⟨rfl, hi, hb, hk⟩; have n0_ := Aside0.mk (KeepBut.trans (by repeat (first | (with_reducible first | exact HK.out | apply KeepBut.set_ | apply keep_drewN | apply keep_drew | apply keep_alloc) | exact HK.out)) hk (.inl rfl)); have n1_ := Aside0.mk (hb); have n2_ := Aside0.mk (hi); clear HK; clear HB; clear HI0; have HK := n0_; have HB := n1_; have HI0 := n2_; clear n0_ n1_ n2_; (try clear hb); (try clear hb2); (try clear hk); (try clear hi); obtain ⟨ASz9_2, cSz9_2, ASz9_4, cSz9_4, ASz9_5, cSz9_5, HGz9, hgz9, HSz9_2, HSz9_4, HSz9_5⟩ := HI0.out; have hcz9_0 := cellS85_0 HGz9; have hcz9_1 := cellS85_1 HGz9; have hcz9_2 := cellS85_2 HGz9; have hcz9_3 := cellS85_3 HGz9; have hcz9_4 := cellS85_4 HGz9; have hcz9_5 := cellS85_5 HGz9; have hfz9_0 := blk_frozen HGz9 0; have hfz9_1 := blk_frozen HGz9 1; have hfz9_3 := blk_frozen HGz9 3; clear HGz9 hgz9)); try go_wp2_with (first | (go_at_call 77; (with_reducible refine (field_GF_in.calls g s0_0 s0_1 s0_2 s0_3 s0_4 s0_5 a1 t217 t218 t219 t220 w0 _ ?side1 ?side2 A4.out).mono ?_); (case side1 => repeat (first | (with_reducible first | exact HI0.out | apply IsS85.alloc | apply IsS85.drewN | apply IsS85.drew | apply IsS85.set_0 | apply IsS85.set_1 | apply IsS85.set_3) | exact HI0.out)); (case side2 => repeat (first | (with_reducible first | exact HB.out | apply below_alloc | apply pw_below_drewN | apply below_drew1 | refine below_set ?_ (IsS85.ge HI0.out)) | exact HB.out)); rintro e w7 ⟨rfl, hi, hb, hk⟩; have n0_ := Aside0.mk (KeepBut.trans (by repeat (first | (with_reducible first | exact HK.out | apply KeepBut.set_ | apply keep_drewN | apply keep_drew | apply keep_alloc) | exact HK.out)) hk (.inl rfl)); have n1_ := Aside0.mk (hb); have n2_ := Aside0.mk (hi); clear HK; clear HB; clear HI0; have HK := n0_; have HB := n1_; have HI0 := n2_; clear n0_ n1_ n2_; (try clear hb); (try clear hb2); (try clear hk); (try clear hi)) | (go_at_call 77; (with_reducible refine (field_GF_in.calls g t218 t219 s0_2 t220 s0_4 s0_5 a2 t221 t222 t223 t224 w0 _ ?side1 ?side2 A5.out).mono ?_); (case side1 => repeat (first | (with_reducible first | exact HI0.out | apply IsS85.alloc | apply IsS85.drewN | apply IsS85.drew | apply IsS85.set_0 | apply IsS85.set_1 | apply IsS85.set_3) | exact HI0.out)); (case side2 => repeat (first | (with_reducible first | exact HB.out | apply below_alloc | apply pw_below_drewN | apply below_drew1 | refine below_set ?_ (IsS85.ge HI0.out)) | exact HB.out)); rintro e w8 ⟨rfl, hi, hb, hk⟩; have n0_ := Aside0.mk (KeepBut.trans (by repeat (first | (with_reducible first | exact HK.out | apply KeepBut.set_ | apply keep_drewN | apply keep_drew | apply keep_alloc) | exact HK.out)) hk (.inl rfl)); have n1_ := Aside0.mk (hb); have n2_ := Aside0.mk (hi); clear HK; clear HB; clear HI0; have HK := n0_; have HB := n1_; have HI0 := n2_; clear n0_ n1_ n2_; (try clear hb); (try clear hb2); (try clear hk); (try clear hi); obtain ⟨ASz9_2, cSz9_2, ASz9_4, cSz9_4, ASz9_5, cSz9_5, HGz9, hgz9, HSz9_2, HSz9_4, HSz9_5⟩ := HI0.out; have hcz9_0 := cellS85_0 HGz9; have hcz9_1 := cellS85_1 HGz9; have hcz9_2 := cellS85_2 HGz9; have hcz9_3 := cellS85_3 HGz9; have hcz9_4 := cellS85_4 HGz9; have hcz9_5 := cellS85_5 HGz9; have hfz9_0 := blk_frozen HGz9 0; have hfz9_1 := blk_frozen HGz9 1; have hfz9_3 := blk_frozen HGz9 3; clear HGz9 hgz9)))
  go_ret
  exact ⟨by rfl, by exact HI0.out, by exact HB.out, by exact HK.out⟩
 ·rw [if_neg c6] at H
  have c6b0 : (t222 == 2) = false := beq_eq_false_iff_ne.mpr c6
  have c6b1 : (t222 != 2) = true := bne_iff_ne.mpr c6
  have H' := Aside0.mk H
  clear H
  go_enter Try.func58, Try.ntmps58
  go_wp2_with (first | (go_at_call 77; (with_reducible refine (field_GF_in.calls g s0_0 s0_1 s0_2 s0_3 s0_4 s0_5 a1 t217 t218 t219 t220 w0 _ ?side1 ?side2 A4.out).mono ?_); (case side1 => repeat ((with_reducible (exact HI0.out)))); (case side2 => repeat ((with_reducible (exact HB.out)))); rintro e w10 ⟨rfl, hi, hb, hk⟩; have n0_ := Aside0.mk (KeepBut.trans HK.out hk (.inl rfl)); have n1_ := Aside0.mk (hb); have n2_ := Aside0.mk (hi); clear HK; clear HB; clear HI0; have HK := n0_; have HB := n1_; have HI0 := n2_; clear n0_ n1_ n2_; ((clear hb)); (skip); ((clear hk)); ((clear hi))) | (go_at_call 77; (with_reducible refine (field_GF_in.calls g t218 t219 s0_2 t220 s0_4 s0_5 a2 t221 t222 t223 t224 w0 _ ?side1 ?side2 A5.out).mono ?_); (case side1 => repeat ((with_reducible (exact HI0.out)))); (case side2 => repeat ((with_reducible (exact HB.out)))); rintro e w11 ⟨rfl, hi, hb, hk⟩; have n0_ := Aside0.mk (KeepBut.trans HK.out hk (.inl rfl)); have n1_ := Aside0.mk (hb); have n2_ := Aside0.mk (hi); clear HK; clear HB; clear HI0; have HK := n0_; have HB := n1_; have HI0 := n2_; clear n0_ n1_ n2_; ((clear hb)); (skip); ((clear hk)); ((clear hi)); obtain ⟨ASz12_2, cSz12_2, ASz12_4, cSz12_4, ASz12_5, cSz12_5, HGz12, hgz12, HSz12_2, HSz12_4, HSz12_5⟩ := HI0.out; have hcz12_0 := cellS85_0 HGz12; have hcz12_1 := cellS85_1 HGz12; have hcz12_2 := cellS85_2 HGz12; have hcz12_3 := cellS85_3 HGz12; have hcz12_4 := cellS85_4 HGz12; have hcz12_5 := cellS85_5 HGz12; have hfz12_0 := blk_frozen HGz12 0; have hfz12_1 := blk_frozen HGz12 1; have hfz12_3 := blk_frozen HGz12 3; clear HGz12 hgz12))
  repeat (go_quiet (first | (go_at_call 77; (with_reducible refine (field_GF_in.calls g s0_0 s0_1 s0_2 s0_3 s0_4 s0_5 a1 t217 t218 t219 t220 w0 _ ?side1 ?side2 A4.out).mono ?_); (case side1 => repeat (first | (with_reducible first | exact HI0.out | apply IsS85.alloc | apply IsS85.drewN | apply IsS85.drew | apply IsS85.set_0 | apply IsS85.set_1 | apply IsS85.set_3) | exact HI0.out)); (case side2 => repeat (first | (with_reducible first | exact HB.out | apply below_alloc | apply pw_below_drewN | apply below_drew1 | refine below_set ?_ (IsS85.ge HI0.out)) | exact HB.out)); rintro e w10 ⟨rfl, hi, hb, hk⟩; have n0_ := Aside0.mk (KeepBut.trans (by repeat (first | (with_reducible first | exact HK.out | apply KeepBut.set_ | apply keep_drewN | apply keep_drew | apply keep_alloc) | exact HK.out)) hk (.inl rfl)); have n1_ := Aside0.mk (hb); have n2_ := Aside0.mk (hi); clear HK; clear HB; clear HI0; have HK := n0_; have HB := n1_; have HI0 := n2_; clear n0_ n1_ n2_; (try clear hb); (try clear hb2); (try clear hk); (try clear hi)) | (go_at_call 77; (with_reducible refine (field_GF_in.calls g t218 t219 s0_2 t220 s0_4 s0_5 a2 t221 t222 t223 t224 w0 _ ?side1 ?side2 A5.out).mono ?_); (case side1 => repeat (first | (with_reducible first | exact HI0.out | apply IsS85.alloc | apply IsS85.drewN | apply IsS85.drew | apply IsS85.set_0 | apply IsS85.set_1 | apply IsS85.set_3) | exact HI0.out)); (case side2 => repeat (first | (with_reducible first | exact HB.out | apply below_alloc | apply pw_below_drewN | apply below_drew1 | refine below_set ?_ (IsS85.ge HI0.out)) | exact HB.out)); rintro e w11 ⟨rfl, hi, hb, hk⟩; have n0_ := Aside0.mk (KeepBut.trans (by repeat (first | (with_reducible first | exact HK.out | apply KeepBut.set_ | apply keep_drewN | apply keep_drew | apply keep_alloc) | exact HK.out)) hk (.inl rfl)); have n1_ := Aside0.mk (hb); have n2_ := Aside0.mk (hi); clear HK; clear HB; clear HI0; have HK := n0_; have HB := n1_; have HI0 := n2_; clear n0_ n1_ n2_; (try clear hb); (try clear hb2); (try clear hk); (try clear hi); obtain ⟨ASz12_2, cSz12_2, ASz12_4, cSz12_4, ASz12_5, cSz12_5, HGz12, hgz12, HSz12_2, HSz12_4, HSz12_5⟩ := HI0.out; have hcz12_0 := cellS85_0 HGz12; have hcz12_1 := cellS85_1 HGz12; have hcz12_2 := cellS85_2 HGz12; have hcz12_3 := cellS85_3 HGz12; have hcz12_4 := cellS85_4 HGz12; have hcz12_5 := cellS85_5 HGz12; have hfz12_0 := blk_frozen HGz12 0; have hfz12_1 := blk_frozen HGz12 1; have hfz12_3 := blk_frozen HGz12 3; clear HGz12 hgz12)); try go_wp2_with (first | (go_at_call 77; (with_reducible refine (field_GF_in.calls g s0_0 s0_1 s0_2 s0_3 s0_4 s0_5 a1 t217 t218 t219 t220 w0 _ ?side1 ?side2 A4.out).mono ?_); (case side1 => repeat (first | (with_reducible first | exact HI0.out | apply IsS85.alloc | apply IsS85.drewN | apply IsS85.drew | apply IsS85.set_0 | apply IsS85.set_1 | apply IsS85.set_3) | exact HI0.out)); (case side2 => repeat (first | (with_reducible first | exact HB.out | apply below_alloc | apply pw_below_drewN | apply below_drew1 | refine below_set ?_ (IsS85.ge HI0.out)) | exact HB.out)); rintro e w10 ⟨rfl, hi, hb, hk⟩; have n0_ := Aside0.mk (KeepBut.trans (by repeat (first | (with_reducible first | exact HK.out | apply KeepBut.set_ | apply keep_drewN | apply keep_drew | apply keep_alloc) | exact HK.out)) hk (.inl rfl)); have n1_ := Aside0.mk (hb); have n2_ := Aside0.mk (hi); clear HK; clear HB; clear HI0; have HK := n0_; have HB := n1_; have HI0 := n2_; clear n0_ n1_ n2_; (try clear hb); (try clear hb2); (try clear hk); (try clear hi)) | (go_at_call 77; (with_reducible refine (field_GF_in.calls g t218 t219 s0_2 t220 s0_4 s0_5 a2 t221 t222 t223 t224 w0 _ ?side1 ?side2 A5.out).mono ?_); (case side1 => repeat (first | (with_reducible first | exact HI0.out | apply IsS85.alloc | apply IsS85.drewN | apply IsS85.drew | apply IsS85.set_0 | apply IsS85.set_1 | apply IsS85.set_3) | exact HI0.out)); (case side2 => repeat (first | (with_reducible first | exact HB.out | apply below_alloc | apply pw_below_drewN | apply below_drew1 | refine below_set ?_ (IsS85.ge HI0.out)) | exact HB.out)); rintro e w11 ⟨rfl, hi, hb, hk⟩; have n0_ := Aside0.mk (KeepBut.trans (by repeat (first | (with_reducible first | exact HK.out | apply KeepBut.set_ | apply keep_drewN | apply keep_drew | apply keep_alloc) | exact HK.out)) hk (.inl rfl)); have n1_ := Aside0.mk (hb); have n2_ := Aside0.mk (hi); clear HK; clear HB; clear HI0; have HK := n0_; have HB := n1_; have HI0 := n2_; clear n0_ n1_ n2_; (try clear hb); (try clear hb2); (try clear hk); (try clear hi); obtain ⟨ASz12_2, cSz12_2, ASz12_4, cSz12_4, ASz12_5, cSz12_5, HGz12, hgz12, HSz12_2, HSz12_4, HSz12_5⟩ := HI0.out; have hcz12_0 := cellS85_0 HGz12; have hcz12_1 := cellS85_1 HGz12; have hcz12_2 := cellS85_2 HGz12; have hcz12_3 := cellS85_3 HGz12; have hcz12_4 := cellS85_4 HGz12; have hcz12_5 := cellS85_5 HGz12; have hfz12_0 := blk_frozen HGz12 0; have hfz12_1 := blk_frozen HGz12 1; have hfz12_3 := blk_frozen HGz12 3; clear HGz12 hgz12)))
  go_loopg [1, 2, 7, 8] k (fun kq v1 v2 v7 v8 w' => ∃ (x1_1 : Int) (x2_1 : Int) (x7_1 : Int) (x8_1 : Int), v1 = .int .i64 x1_1 ∧ v2 = .int .i64 x2_1 ∧ v7 = .int .i64 x7_1 ∧ v8 = .int .i64 x8_1 ∧ Aside0 (field_GF_Add.l0 kq x1_1 x2_1 x7_1 x8_1 t222 t223 s0_2 t224 s0_4 s0_5 = some (r1, r2, r3, r4)) ∧ Aside0 (kq ≤ k) ∧ Aside0 (IsS85 w0 w' g t222 t223 s0_2 t224 s0_4 s0_5) ∧ Aside0 (KeepBut w w' g none) ∧ Aside0 (Below w0.heap.size w0 w'))
  case atStart => exact ⟨(t217), (t221), (0), (1), (by rfl), (by rfl), (by rfl), (by rfl), H', ⟨Nat.le_refl _⟩, ⟨by exact HI0.out⟩, ⟨by exact HK.out⟩, ⟨by exact HB.out⟩⟩
  case round =>
   clear H' c6 c6b0 c6b1 hcz12_0 hcz12_1 hcz12_2 hcz12_3 hcz12_4 hcz12_5 hfz12_0 hfz12_1 hfz12_3
   obtain ⟨x1_1, x2_1, x7_1, x8_1, rfl, rfl, rfl, rfl, HA, HK1, HI0, HK, HB⟩ := hrel
   cases gk with
   | zero => exact absurd HA.out (by simp [field_GF_Add.l0])
   | succ k1 =>
    have H := HA.out
    clear HA
    simp only [field_GF_Add.l0] at H
    by_cases c13 : x1_1 > 0
    ·rw [if_pos c13] at H
     have c13b0 : decide (0 < x1_1) = true := decide_eq_true c13
     clear c13
     by_cases c14 : t222 = 0
     ·rw [if_pos c14] at H
      exact absurd H (by simp)
     ·rw [if_neg c14] at H
      have c14b0 : (t222 == 0) = false := beq_eq_false_iff_ne.mpr c14
      have c14b1 : (t222 != 0) = true := bne_iff_ne.mpr c14
      have H' := Aside0.mk H
      clear H
      obtain ⟨ASz15_2, cSz15_2, ASz15_4, cSz15_4, ASz15_5, cSz15_5, HGz15, hgz15, HSz15_2, HSz15_4, HSz15_5⟩ := HI0.out
      have hcz15_0 := cellS85_0 HGz15
      have hcz15_1 := cellS85_1 HGz15
      have hcz15_2 := cellS85_2 HGz15
      have hcz15_3 := cellS85_3 HGz15
      have hcz15_4 := cellS85_4 HGz15
      have hcz15_5 := cellS85_5 HGz15
      have hfz15_0 := blk_frozen HGz15 0
      have hfz15_1 := blk_frozen HGz15 1
      have hfz15_3 := blk_frozen HGz15 3
      clear HGz15 hgz15
      go_wp2
      repeat (go_quiet (fail); (go_wp2))
      go_roundg k1
      case measure => have := HK1.out; omega
      case rel => exact ⟨(wrap64 (Int.tdiv x1_1 t222)), (wrap64 (Int.tdiv x2_1 t222)), (wrap64 (x7_1 + (wrap64 ((Int.tmod (wrap64 ((Int.tmod x1_1 t222) + (Int.tmod x2_1 t222))) t222) * x8_1)))), (wrap64 (x8_1 * t222)), (by rfl), (by rfl), (by rfl), (by rfl), H', ⟨by have := HK1.out; omega⟩, ⟨by repeat ((with_reducible first | (exact HI0.out) | (apply IsS85.drewN)))⟩, ⟨by repeat ((with_reducible first | (exact HK.out) | (apply keep_drewN)))⟩, ⟨by repeat ((with_reducible first | (exact HB.out) | (apply pw_below_drewN)))⟩⟩
    ·rw [if_neg c13] at H
     have c13b0 : decide (0 < x1_1) = false := decide_eq_false c13
     clear c13
     by_cases c16 : x2_1 > 0
     ·rw [if_pos c16] at H
      have c16b0 : decide (0 < x2_1) = true := decide_eq_true c16
      clear c16
      by_cases c17 : t222 = 0
      ·rw [if_pos c17] at H
       exact absurd H (by simp)
      ·rw [if_neg c17] at H
       have c17b0 : (t222 == 0) = false := beq_eq_false_iff_ne.mpr c17
       have c17b1 : (t222 != 0) = true := bne_iff_ne.mpr c17
       have H' := Aside0.mk H
       clear H
       obtain ⟨ASz18_2, cSz18_2, ASz18_4, cSz18_4, ASz18_5, cSz18_5, HGz18, hgz18, HSz18_2, HSz18_4, HSz18_5⟩ := HI0.out
       have hcz18_0 := cellS85_0 HGz18
       have hcz18_1 := cellS85_1 HGz18
       have hcz18_2 := cellS85_2 HGz18
       have hcz18_3 := cellS85_3 HGz18
       have hcz18_4 := cellS85_4 HGz18
       have hcz18_5 := cellS85_5 HGz18
       have hfz18_0 := blk_frozen HGz18 0
       have hfz18_1 := blk_frozen HGz18 1
       have hfz18_3 := blk_frozen HGz18 3
       clear HGz18 hgz18
       go_wp2
       repeat (go_quiet (fail); (go_wp2))
       go_roundg k1
       case measure => have := HK1.out; omega
       case rel => exact ⟨(wrap64 (Int.tdiv x1_1 t222)), (wrap64 (Int.tdiv x2_1 t222)), (wrap64 (x7_1 + (wrap64 ((Int.tmod (wrap64 ((Int.tmod x1_1 t222) + (Int.tmod x2_1 t222))) t222) * x8_1)))), (wrap64 (x8_1 * t222)), (by rfl), (by rfl), (by rfl), (by rfl), H', ⟨by have := HK1.out; omega⟩, ⟨by repeat ((with_reducible first | (exact HI0.out) | (apply IsS85.drewN)))⟩, ⟨by repeat ((with_reducible first | (exact HK.out) | (apply keep_drewN)))⟩, ⟨by repeat ((with_reducible first | (exact HB.out) | (apply pw_below_drewN)))⟩⟩
     ·rw [if_neg c16] at H
      have c16b0 : decide (0 < x2_1) = false := decide_eq_false c16
      clear c16
      simp only [Option.some.injEq, Prod.mk.injEq] at H
      obtain ⟨rfl, rfl, rfl, rfl⟩ := H
      go_wp2
      repeat (go_quiet (fail); try go_wp2)
      go_ret
      exact ⟨by rfl, by exact HI0.out, by exact HB.out, by exact HK.out⟩
mutual
def poly_product.j0 : Nat → List Int → List Int → Bool → Int → Int → List Int → Int → List Int → List Int → Option (List Int × Int × Int × Int)
 | 0, _, _, _, _, _, _, _, _, _ => none
 | k + 1, x1, x2, x25, x1000, x1001, x1002, x1003, x1004, x1005 => if x25 = true then (some (([] : List Int), x1000, x1001, x1003)) else (if 0 ≤ (wrap64 ((wrap64 ((x1.length : Int) + (x2.length : Int))) - 1)) then (if (wrap64 ((wrap64 ((x1.length : Int) + (x2.length : Int))) - 1) : Int).toNat ≤ 35184372088832 then (poly_product.l0 k x2 (List.replicate (wrap64 ((wrap64 ((x1.length : Int) + (x2.length : Int))) - 1) : Int).toNat 0) x1 (x1.length : Int) 0 x1000 x1001 x1002 x1003 x1004 x1005) else (none)) else (none))
def poly_product.l0 : Nat → List Int → List Int → List Int → Int → Int → Int → Int → List Int → Int → List Int → List Int → Option (List Int × Int × Int × Int)
 | 0, _, _, _, _, _, _, _, _, _, _, _ => none
 | k + 1, x2, x7, x33, x34, x35, x1000, x1001, x1002, x1003, x1004, x1005 => if x35 < x34 then (if 0 ≤ x35 then (if x35 < (x33.length : Int) then (poly_product.l1 k x2 x7 x35 (rd x33 x35) x33 x34 x35 x2 (x2.length : Int) 0 x1000 x1001 x1002 x1003 x1004 x1005) else (none)) else (none)) else (some (x7, x1000, x1001, x1003))
def poly_product.l1 : Nat → List Int → List Int → Int → Int → List Int → Int → Int → List Int → Int → Int → Int → Int → List Int → Int → List Int → List Int → Option (List Int × Int × Int × Int)
 | 0, _, _, _, _, _, _, _, _, _, _, _, _, _, _, _, _ => none
 | k + 1, x2, x7, x8, x9, x33, x34, x35, x40, x41, x42, x1000, x1001, x1002, x1003, x1004, x1005 => if x42 < x41 then (if 0 ≤ x42 then (if x42 < (x40.length : Int) then (if 0 ≤ (wrap64 (x8 + x42)) then (if (wrap64 (x8 + x42)) < (x7.length : Int) then ((field_GF_Mul.f x1000 x1001 x1002 x1003 x1004 x1005 x9 (rd x40 x42)).bind fun bt243 => ((field_GF_Add.f k bt243.2.1 bt243.2.2.1 x1002 bt243.2.2.2 x1004 x1005 (rd x7 (wrap64 (x8 + x42))) bt243.1).bind fun bt247 => (poly_product.l1 k x2 (x7.set ((wrap64 (x8 + x42)) : Int).toNat bt247.1) x8 x9 x33 x34 x35 x40 x41 (wrap64 (x42 + 1)) bt247.2.1 bt247.2.2.1 x1002 bt247.2.2.2 x1004 x1005))) else (none)) else (none)) else (none)) else (none)) else (poly_product.l0 k x2 x7 x33 x34 (wrap64 (x35 + 1)) x1000 x1001 x1002 x1003 x1004 x1005)
end
def poly_product.f (k : Nat) (s0_0 : Int) (s0_1 : Int) (s0_2 : List Int) (s0_3 : Int) (s0_4 : List Int) (s0_5 : List Int) (l1 : List Int) (l2 : List Int) : Option (List Int × Int × Int × Int) := (poly_Canon.f k s0_0 s0_1 s0_2 s0_3 s0_4 s0_5 l1).bind fun bt225 => ((poly_Canon.f k bt225.2.1 bt225.2.2.1 s0_2 bt225.2.2.2 s0_4 s0_5 l2).bind fun bt231 => (if (bt225.1.length : Int) = 0 then (poly_product.j0 k bt225.1 bt231.1 true bt231.2.1 bt231.2.2.1 s0_2 bt231.2.2.2 s0_4 s0_5) else (poly_product.j0 k bt225.1 bt231.1 ((bt231.1.length : Int) == 0) bt231.2.1 bt231.2.2.1 s0_2 bt231.2.2.2 s0_4 s0_5)))
def poly_product.T11 : Bool × List (List Nat × List Nat) := (true, [([], []), ([], []), ([], []), ([1, 2], [1, 2]), ([], []), ([], []), ([], []), ([], []), ([6, 7], [6, 7]), ([5, 8], [5, 8]), ([9], [9]), ([], []), ([], []), ([], []), ([11, 12, 13], [11, 12, 13]), ([4, 10, 14, 14], [4, 10, 14]), ([0, 3, 0, 1, 2, 3, 4, 5, 6, 7, 8, 9, 10, 11, 12, 13, 14, 15], [0, 3]), ([16, 15, 15, 0, 1, 2, 3, 4, 5, 6, 7, 8, 9, 10, 11, 12, 13, 14, 15], [15, 16])])
def poly_product.B11 : List Nat := [0, 0, 0, 6, 0, 0, 0, 0, 192, 480, 992, 0, 0, 0, 14336, 32752, 65535, 131071]
theorem poly_product.tab11 : rtab .any (opsOf Try.f41 11) = poly_product.T11 := by kernel_rfl
theorem poly_product.bits11 : waitsOk poly_product.T11.2 poly_product.B11 = true := by kernel_rfl
set_option maxHeartbeats 8000000 in
set_option maxRecDepth 100000 in
theorem poly_product.calls (k : Nat) (g : Nat) (s0_0 : Int) (s0_1 : Int) (s0_2 : List Int) (s0_3 : Int) (s0_4 : List Int) (s0_5 : List Int) (A1 : Option Addr) (c1 : Nat) (l1 : List Int) (A2 : Option Addr) (c2 : Nat) (l2 : List Int) (r1 : List Int) (r2 : Int) (r3 : Int) (r4 : Int) (w0 w : World) (hI : IsS85 w0 w g s0_0 s0_1 s0_2 s0_3 s0_4 s0_5) (hB : Below w0.heap.size w0 w) (hr1 : Kd.C (Kd.int .i64) w A1 l1.length l1) (hc1 : l1.length ≤ c1) (hf1 : ∀ ad, A1 = some ad → 0 < l1.length → ad.block ≠ g) (hr2 : Kd.C (Kd.int .i64) w A2 l2.length l2) (hc2 : l2.length ≤ c2) (hf2 : ∀ ad, A2 = some ad → 0 < l2.length → ad.block ≠ g) (h : poly_product.f k s0_0 s0_1 s0_2 s0_3 s0_4 s0_5 l1 l2 = some (r1, r2, r3, r4)) :
  Calls Try.prog 41 #[.pointer (some ⟨g, 0, none⟩), .slice A1 l1.length c1, .slice A2 l2.length c2] w fun e w' => ∃ v0_ : Value, e = .returned (v0_) ∧ Kd.R (Kd.int .i64) 3 w' w.heap.size (fun _ => True) v0_ r1 ∧ IsS85 w0 w' g r2 r3 s0_2 r4 s0_4 s0_5 ∧ Below w0.heap.size w0 w' ∧ KeepBut w w' g none := by
 have HR1 := Aside0.mk hr1
 have HC1 := Aside0.mk hc1
 clear hr1 hc1
 have HR2 := Aside0.mk hr2
 have HC2 := Aside0.mk hc2
 clear hr2 hc2
 have HI0 := Aside0.mk hI
 have HK := Aside0.mk (KeepBut.refl w g none)
 have HL := Aside0.mk hB.size
 clear hI
 have HW0 := Aside0.mk hB.size
 have HB := Aside0.mk hB
 clear hB
 have H : ((poly_Canon.f k s0_0 s0_1 s0_2 s0_3 s0_4 s0_5 l1).bind fun bt225 => ((poly_Canon.f k bt225.2.1 bt225.2.2.1 s0_2 bt225.2.2.2 s0_4 s0_5 l2).bind fun bt231 => (if (bt225.1.length : Int) = 0 then (poly_product.j0 k bt225.1 bt231.1 true bt231.2.1 bt231.2.2.1 s0_2 bt231.2.2.2 s0_4 s0_5) else (poly_product.j0 k bt225.1 bt231.1 ((bt231.1.length : Int) == 0) bt231.2.1 bt231.2.2.1 s0_2 bt231.2.2.2 s0_4 s0_5)))) = some (r1, r2, r3, r4) := h
 clear h
 replace H := Option.bind_eq_some_iff.mp H
 obtain ⟨⟨t225, t228, t229, t230⟩, A40, H⟩ := H
 replace H : ((poly_Canon.f k t228 t229 s0_2 t230 s0_4 s0_5 l2).bind fun bt231 => (if (t225.length : Int) = 0 then (poly_product.j0 k t225 bt231.1 true bt231.2.1 bt231.2.2.1 s0_2 bt231.2.2.2 s0_4 s0_5) else (poly_product.j0 k t225 bt231.1 ((bt231.1.length : Int) == 0) bt231.2.1 bt231.2.2.1 s0_2 bt231.2.2.2 s0_4 s0_5))) = some (r1, r2, r3, r4) := H
 have A4 := Aside0.mk A40
 clear A40
 replace H := Option.bind_eq_some_iff.mp H
 obtain ⟨⟨t231, t234, t235, t236⟩, A50, H⟩ := H
 replace H : (if (t225.length : Int) = 0 then (poly_product.j0 k t225 t231 true t234 t235 s0_2 t236 s0_4 s0_5) else (poly_product.j0 k t225 t231 ((t231.length : Int) == 0) t234 t235 s0_2 t236 s0_4 s0_5)) = some (r1, r2, r3, r4) := H
 have A5 := Aside0.mk A50
 clear A50
 have HC6 := Aside0.mk H
 clear H
 go_enter Try.func41, Try.ntmps41
 go_upto_region 2 with (first | ((with_reducible refine gate_callee (f := 40) rfl ?_); refine goesL_ (some 14) rfl rfl Try.func40 (by kernel_rfl) rfl #[.pointer (some ⟨g, 0, none⟩), .slice A1 l1.length c1] rfl (by ((simp only [List.map_toArray, List.map_cons, List.map_nil])); (rfl)) ?_; (with_reducible refine (poly_Canon.calls k g s0_0 s0_1 s0_2 s0_3 s0_4 s0_5 _ _ l1 t225 t228 t229 t230 w0 _ ?side1 ?side2 ?side3 ?side4 ?side5 A4.out).mono ?_); (case side1 => repeat ((with_reducible (exact HI0.out)))); (case side2 => repeat ((with_reducible (exact HB.out)))); (case side3 => exact Kd.C_keep 0 HR1.out HK.out hf1); (case side4 => exact HC1.out); (case side5 => exact hf1); rintro e w7 ⟨v226, rfl, ho0, hi, hb, hk⟩; refine ⟨_, rfl, ?_⟩; have n0_ := Aside0.mk (Kd.R_lower ho0 (keep_size (w := w) (g := g) (row := none) HK.out)); have n1_ := Aside0.mk (KeepBut.trans HK.out hk (.inl rfl)); have n2_ := Aside0.mk (hb); have n3_ := Aside0.mk (hi); clear HK; clear HB; clear HI0; have HO227 := n0_; have HK := n1_; have HB := n2_; have HI0 := n3_; clear n0_ n1_ n2_ n3_; ((clear hb)); (skip); ((clear hk)); ((clear hi)); ((clear ho0))) | ((with_reducible refine gate_callee (f := 40) rfl ?_); refine goesL_ (some 17) rfl rfl Try.func40 (by kernel_rfl) rfl #[.pointer (some ⟨g, 0, none⟩), .slice A2 l2.length c2] rfl (by ((simp only [List.map_toArray, List.map_cons, List.map_nil])); (rfl)) ?_; (with_reducible refine (poly_Canon.calls k g t228 t229 s0_2 t230 s0_4 s0_5 _ _ l2 t231 t234 t235 t236 w0 _ ?side1 ?side2 ?side3 ?side4 ?side5 A5.out).mono ?_); (case side1 => repeat ((with_reducible (exact HI0.out)))); (case side2 => repeat ((with_reducible (exact HB.out)))); (case side3 => exact Kd.C_keep 0 HR2.out HK.out hf2); (case side4 => exact HC2.out); (case side5 => exact hf2); rintro e w8 ⟨v232, rfl, ho0, hi, hb, hk⟩; refine ⟨_, rfl, ?_⟩; have n0_ := Aside0.mk (Kd.R_mono (Kd.R_told (Kd.R_oldK (IsS85.apart (show IsS85 w0 _ g t228 t229 s0_2 t230 s0_4 s0_5 from by exact HI0.out) HO227.out (by decide)) hk) (Kd.R_base ho0)) (fun _ h_ => h_.1)); have n1_ := Aside0.mk (Kd.R_lower (Kd.R_new' ho0 (Kd.R_lt HO227.out)) (keep_size (w := w) (g := g) (row := none) HK.out)); have n2_ := Aside0.mk (KeepBut.trans HK.out hk (.inl rfl)); have n3_ := Aside0.mk (hb); have n4_ := Aside0.mk (hi); clear HO227; clear HK; clear HB; clear HI0; have HO227 := n0_; have HO233 := n1_; have HK := n2_; have HB := n3_; have HI0 := n4_; clear n0_ n1_ n2_ n3_ n4_; ((clear hb)); (skip); ((clear hk)); ((clear hi)); ((clear ho0))))
 go_cut [25] (fun v25 wc => ∃ (kq : Nat) (x25_5 : Bool), v25 = .bool x25_5 ∧ Aside0 (poly_product.j0 kq t225 t231 x25_5 t234 t235 s0_2 t236 s0_4 s0_5 = some (r1, r2, r3, r4)) ∧ Aside0 (kq ≤ k) ∧ Aside0 (Kd.R (Kd.int .i64) 3 wc w.heap.size (fun k_ => some k_ ≠ (v232 : Value).ownBlock) v226 t225) ∧ Aside0 (Kd.R (Kd.int .i64) 3 wc w.heap.size (fun k_ => some k_ ≠ (v226 : Value).ownBlock) v232 t231) ∧ Aside0 (IsS85 w0 wc g t234 t235 s0_2 t236 s0_4 s0_5) ∧ Aside0 (KeepBut w wc g none) ∧ Aside0 (Below w0.heap.size w0 wc))
 case first =>
  have H := HC6.out
  clear HC6
  by_cases c9 : (t225.length : Int) = 0
  ·rw [if_pos c9] at H
   have c9b0 : ((t225.length : Int) == 0) = true := beq_iff_eq.mpr c9
   have c9b1 : ((t225.length : Int) != 0) = false := bne_eq_false_iff_eq.mpr c9
   clear c9
   ((skip))
   have H' := Aside0.mk H
   clear H
   obtain ⟨Ao10, co10, eo10⟩ := Kd.R_slice HO227.out
   subst eo10
   go_wp2
   go_meet
   case rel => exact ⟨_, (true), (by rfl), H', ⟨by (omega)⟩, ⟨by exact Kd.R_mono HO227.out (fun _ hk => hk.2)⟩, ⟨by exact Kd.R_mono HO233.out (fun _ hk => hk.2)⟩, ⟨by exact HI0.out⟩, ⟨by exact HK.out⟩, ⟨by exact HB.out⟩⟩
  ·rw [if_neg c9] at H
   have c9b0 : ((t225.length : Int) == 0) = false := beq_eq_false_iff_ne.mpr c9
   have c9b1 : ((t225.length : Int) != 0) = true := bne_iff_ne.mpr c9
   have c9b2 : ¬ (t225 = []) := fun h_ => c9 (by rw [h_]; rfl)
   ((skip))
   have H' := Aside0.mk H
   clear H
   obtain ⟨Ao11, co11, eo11⟩ := Kd.R_slice HO227.out
   subst eo11
   obtain ⟨Ao12, co12, eo12⟩ := Kd.R_slice HO233.out
   subst eo12
   go_wp2
   go_meet
   case rel => exact ⟨_, (((t231.length : Int) == 0)), (by rfl), H', ⟨by (omega)⟩, ⟨by exact Kd.R_mono HO227.out (fun _ hk => hk.2)⟩, ⟨by exact Kd.R_mono HO233.out (fun _ hk => hk.2)⟩, ⟨by exact HI0.out⟩, ⟨by exact HK.out⟩, ⟨by exact HB.out⟩⟩
 case rest =>
  clear HC6
  obtain ⟨kq, x25_5, rfl, HA, HJ5, HO_1, HO_2, HI0, HK, HB⟩ := hcut
  cases kq with
  | zero => exact absurd HA.out (by simp [poly_product.j0])
  | succ kj5 =>
   have H := HA.out
   clear HA
   simp only [poly_product.j0] at H
   by_cases c13 : x25_5 = true
   ·subst c13
    have H1 : (some (([] : List Int), t234, t235, t236)) = some (r1, r2, r3, r4) := by rw [if_pos rfl] at H; exact H
    clear H
    have H := H1
    clear H1
    simp only [Option.some.injEq, Prod.mk.injEq] at H
    obtain ⟨rfl, rfl, rfl, rfl⟩ := H
    go_wp2
    go_ret
    exact ⟨_, by rfl, by (exact Kd.R_nil _ _ _ _ _), by exact HI0.out, by exact HB.out, by exact HK.out⟩
   ·replace c13 := Bool.eq_false_iff.mpr c13
    subst c13
    have H1 : (if 0 ≤ (wrap64 ((wrap64 ((t225.length : Int) + (t231.length : Int))) - 1)) then (if (wrap64 ((wrap64 ((t225.length : Int) + (t231.length : Int))) - 1) : Int).toNat ≤ 35184372088832 then (poly_product.l0 kj5 t231 (List.replicate (wrap64 ((wrap64 ((t225.length : Int) + (t231.length : Int))) - 1) : Int).toNat 0) t225 (t225.length : Int) 0 t234 t235 s0_2 t236 s0_4 s0_5) else (none)) else (none)) = some (r1, r2, r3, r4) := by rw [if_neg (show ¬ (false = true) by decide)] at H; exact H
    clear H
    have H := H1
    clear H1
    obtain ⟨ji14, hji14⟩ : ∃ j_ : Int, (wrap64 ((wrap64 ((t225.length : Int) + (t231.length : Int))) - 1)) = j_ := ⟨_, rfl⟩
    replace H : (if 0 ≤ (ji14) then (if (ji14 : Int).toNat ≤ 35184372088832 then (poly_product.l0 kj5 t231 (List.replicate (ji14 : Int).toNat 0) t225 (t225.length : Int) 0 t234 t235 s0_2 t236 s0_4 s0_5) else (none)) else (none)) = some (r1, r2, r3, r4) := by (rw [hji14] at H; exact H)
    have hji14w : (IntKind.i64.wrap ((wrap64 ((t225.length : Int) + (t231.length : Int))) - 1)) = ji14 := (i64_w _).trans hji14
    by_cases c15 : 0 ≤ (ji14)
    ·rw [if_pos c15] at H
     have c15b0 := eq_true c15
     have c15b1 : decide (0 ≤ (ji14)) = true := decide_eq_true c15
     clear c15
     by_cases c16 : (ji14 : Int).toNat ≤ 35184372088832
     ·rw [if_pos c16] at H
      have c16b0 := eq_true c16
      have c16b1 : decide ((ji14 : Int).toNat ≤ 35184372088832) = true := decide_eq_true c16
      clear c16
      obtain ⟨y237, hy237⟩ : ∃ y_ : List Int, y_ = (List.replicate (ji14 : Int).toNat 0) := ⟨_, rfl⟩
      replace H : (poly_product.l0 kj5 t231 y237 t225 (t225.length : Int) 0 t234 t235 s0_2 t236 s0_4 s0_5) = some (r1, r2, r3, r4) := by (rw [hy237]; with_reducible exact H)
      have Ny237 := Aside0.mk hy237
      clear hy237
      have H' := Aside0.mk H
      clear H
      obtain ⟨Ao17, co17, eo17⟩ := Kd.R_slice HO_1.out
      subst eo17
      obtain ⟨Ao18, co18, eo18⟩ := Kd.R_slice HO_2.out
      subst eo18
      go_wp2_with (((with_reducible refine gate_dst (N := 32) rfl ?_); ((refine gate_guard (by rfl) ?_; dsimp only)); refine Kd.R_make (Kd.int .i64) _ 3 rfl (N := 32) rfl 22 _ _ rfl ji14 rfl rfl Try.underlying22 (.int .i64 0) 8 info3 rfl (by decide) (by omega) 0 (ok := fun _ => True) (okp := fun _ => True) rfl (fun _ hk => hk) trivial (of_decide_eq_true (by (with_reducible assumption))) (Nat.le_trans (Nat.mul_le_mul_right _ (of_decide_eq_true (by (with_reducible assumption)) : ji14.toNat ≤ 35184372088832)) (by omega)) (Below.refl _ _) (Nat.le_refl _) ?_; intro v238 w19 ho20 hb hg_ hnew_; clear hg_ hnew_; ((rw [← Ny237.out] at ho20)); have n0_ := Aside0.mk (Kd.R_elder' HO_1.out (Kd.R_base ho20) hb); have n1_ := Aside0.mk (Kd.R_elder' HO_2.out (Kd.R_base ho20) hb); have n2_ := Aside0.mk (Kd.R_lower (Kd.R_new' (Kd.R_new' ho20 (Kd.R_lt HO_1.out)) (Kd.R_lt HO_2.out)) (keep_size (w := w) (g := g) (row := none) HK.out)); have n3_ := Aside0.mk (IsS85.below HI0.out hb); have n4_ := Aside0.mk (KeepBut.trans HK.out (KeepBut.of_below hb g none) (.inl rfl)); have n5_ := Aside0.mk (below_step HB.out hb); clear HO_1; clear HO_2; clear HI0; clear HK; clear HB; have HO_1 := n0_; have HO_2 := n1_; have HO239 := n2_; have HI0 := n3_; have HK := n4_; have HB := n5_; clear n0_ n1_ n2_ n3_ n4_ n5_; clear hb ho20))
      go_loopg [35] kj5 (fun kq v35 w' => ∃ (x7_2 : List Int) (x35_2 : Int) (x1000_2 : Int) (x1001_2 : Int) (x1003_2 : Int), v35 = .int .i64 x35_2 ∧ Aside0 (poly_product.l0 kq t231 x7_2 t225 (t225.length : Int) x35_2 x1000_2 x1001_2 s0_2 x1003_2 s0_4 s0_5 = some (r1, r2, r3, r4)) ∧ Aside0 (kq ≤ kj5) ∧ Aside0 (Kd.R (Kd.int .i64) 3 w' w.heap.size (fun k_ => some k_ ≠ (v238 : Value).ownBlock ∧ some k_ ≠ ((.slice Ao17 t225.length co17) : Value).ownBlock) (.slice Ao18 t231.length co18) t231) ∧ Aside0 (Kd.R (Kd.int .i64) 3 w' w.heap.size (fun k_ => some k_ ≠ ((.slice Ao18 t231.length co18) : Value).ownBlock ∧ some k_ ≠ ((.slice Ao17 t225.length co17) : Value).ownBlock) v238 x7_2) ∧ Aside0 (Kd.R (Kd.int .i64) 3 w' w.heap.size (fun k_ => some k_ ≠ ((.slice Ao18 t231.length co18) : Value).ownBlock ∧ some k_ ≠ (v238 : Value).ownBlock) (.slice Ao17 t225.length co17) t225) ∧ Aside0 (IsS85 w0 w' g x1000_2 x1001_2 s0_2 x1003_2 s0_4 s0_5) ∧ Aside0 (KeepBut w w' g none) ∧ Aside0 (Below w0.heap.size w0 w'))
      case atStart => exact ⟨(y237), (0), (t234), (t235), (t236), (by rfl), H', ⟨Nat.le_refl _⟩, ⟨by exact Kd.R_mono HO_2.out (fun _ hk => ⟨hk.2, hk.1⟩)⟩, ⟨by exact Kd.R_mono HO239.out (fun _ hk => ⟨hk.2, hk.1.2⟩)⟩, ⟨HO_1.out⟩, ⟨by exact HI0.out⟩, ⟨by exact HK.out⟩, ⟨by exact HB.out⟩⟩
      case round =>
       clear H' c15b0 c15b1 c16b0 c16b1
       obtain ⟨x7_2, x35_2, x1000_2, x1001_2, x1003_2, rfl, HA, HK2, HO_2, HO_7, HO_33, HI0, HK, HB⟩ := hrel
       cases gk with
       | zero => exact absurd HA.out (by simp [poly_product.l0])
       | succ k2 =>
        have H := HA.out
        clear HA
        simp only [poly_product.l0] at H
        by_cases c21 : x35_2 < (t225.length : Int)
        ·rw [if_pos c21] at H
         have c21b0 : decide (x35_2 < (t225.length : Int)) = true := decide_eq_true c21
         clear c21
         by_cases c22 : 0 ≤ x35_2
         ·rw [if_pos c22] at H
          have c22b0 : decide (0 ≤ x35_2) = true := decide_eq_true c22
          clear c22
          by_cases c23 : x35_2 < (t225.length : Int)
          ·rw [if_pos c23] at H
           have c23b0 : decide (x35_2 < (t225.length : Int)) = true := decide_eq_true c23
           clear c23
           have H' := Aside0.mk H
           clear H
           have p240 : 0 ≤ (x35_2 : Int) := of_decide_eq_true (by (with_reducible assumption))
           have q240 : x35_2 < (t225.length : Int) := of_decide_eq_true (by (with_reducible assumption))
           obtain ⟨ad240, e240, hx240_0⟩ := Kd.at_int (Kd.R_reads' HO_33.out).2.2 x35_2 p240 q240
           cases e240
           replace p240 := eq_true p240
           replace q240 := eq_true q240
           go_wp2
           go_loopg [42] k2 (fun kq v42 w' => ∃ (x7_3 : List Int) (x42_3 : Int) (x1000_3 : Int) (x1001_3 : Int) (x1003_3 : Int), v42 = .int .i64 x42_3 ∧ Aside0 (poly_product.l1 kq t231 x7_3 x35_2 (rd t225 x35_2) t225 (t225.length : Int) x35_2 t231 (t231.length : Int) x42_3 x1000_3 x1001_3 s0_2 x1003_3 s0_4 s0_5 = some (r1, r2, r3, r4)) ∧ Aside0 (kq ≤ k2) ∧ Aside0 (Kd.R (Kd.int .i64) 3 w' w.heap.size (fun k_ => some k_ ≠ (v238 : Value).ownBlock ∧ some k_ ≠ ((.slice (some ad240) t225.length co17) : Value).ownBlock) (.slice Ao18 t231.length co18) t231) ∧ Aside0 (Kd.R (Kd.int .i64) 3 w' w.heap.size (fun k_ => some k_ ≠ ((.slice Ao18 t231.length co18) : Value).ownBlock ∧ some k_ ≠ ((.slice (some ad240) t225.length co17) : Value).ownBlock ∧ some k_ ≠ ((.slice Ao18 t231.length co18) : Value).ownBlock) v238 x7_3) ∧ Aside0 (Kd.R (Kd.int .i64) 3 w' w.heap.size (fun k_ => some k_ ≠ ((.slice Ao18 t231.length co18) : Value).ownBlock ∧ some k_ ≠ (v238 : Value).ownBlock ∧ some k_ ≠ ((.slice Ao18 t231.length co18) : Value).ownBlock) (.slice (some ad240) t225.length co17) t225) ∧ Aside0 (Kd.R (Kd.int .i64) 3 w' w.heap.size (fun k_ => some k_ ≠ (v238 : Value).ownBlock ∧ some k_ ≠ ((.slice (some ad240) t225.length co17) : Value).ownBlock) (.slice Ao18 t231.length co18) t231) ∧ Aside0 (IsS85 w0 w' g x1000_3 x1001_3 s0_2 x1003_3 s0_4 s0_5) ∧ Aside0 (KeepBut w w' g none) ∧ Aside0 (Below w0.heap.size w0 w'))
           case atStart => exact ⟨(x7_2), (0), (x1000_2), (x1001_2), (x1003_2), (by rfl), H', ⟨Nat.le_refl _⟩, ⟨HO_2.out⟩, ⟨by exact Kd.R_mono HO_7.out (fun _ hk => ⟨hk.1, ⟨hk.2, hk.1⟩⟩)⟩, ⟨by exact Kd.R_mono HO_33.out (fun _ hk => ⟨hk.1, ⟨hk.2, hk.1⟩⟩)⟩, ⟨HO_2.out⟩, ⟨by exact HI0.out⟩, ⟨by exact HK.out⟩, ⟨by exact HB.out⟩⟩
           case round =>
            clear H' c21b0 c22b0 c23b0 hx240_0 p240 q240
            obtain ⟨x7_3, x42_3, x1000_3, x1001_3, x1003_3, rfl, HA, HK3, HO_2, HO_7, HO_33, HO_40, HI0, HK, HB⟩ := hrel
            cases gk with
            | zero => exact absurd HA.out (by simp [poly_product.l1])
            | succ k3 =>
             have H := HA.out
             clear HA
             simp only [poly_product.l1] at H
             by_cases c24 : x42_3 < (t231.length : Int)
             ·rw [if_pos c24] at H
              have c24b0 : decide (x42_3 < (t231.length : Int)) = true := decide_eq_true c24
              clear c24
              by_cases c25 : 0 ≤ x42_3
              ·rw [if_pos c25] at H
               have c25b0 : decide (0 ≤ x42_3) = true := decide_eq_true c25
               clear c25
               by_cases c26 : x42_3 < (t231.length : Int)
               ·rw [if_pos c26] at H
                have c26b0 : decide (x42_3 < (t231.length : Int)) = true := decide_eq_true c26
                clear c26
                obtain ⟨ji27, hji27⟩ : ∃ j_ : Int, (wrap64 (x35_2 + x42_3)) = j_ := ⟨_, rfl⟩
                replace H : (if 0 ≤ (ji27) then (if (ji27) < (x7_3.length : Int) then ((field_GF_Mul.f x1000_3 x1001_3 s0_2 x1003_3 s0_4 s0_5 (rd t225 x35_2) (rd t231 x42_3)).bind fun bt243 => ((field_GF_Add.f k3 bt243.2.1 bt243.2.2.1 s0_2 bt243.2.2.2 s0_4 s0_5 (rd x7_3 (ji27)) bt243.1).bind fun bt247 => (poly_product.l1 k3 t231 (x7_3.set ((ji27) : Int).toNat bt247.1) x35_2 (rd t225 x35_2) t225 (t225.length : Int) x35_2 t231 (t231.length : Int) (wrap64 (x42_3 + 1)) bt247.2.1 bt247.2.2.1 s0_2 bt247.2.2.2 s0_4 s0_5))) else (none)) else (none)) = some (r1, r2, r3, r4) := by (rw [hji27] at H; exact H)
                have hji27w : (IntKind.i64.wrap (x35_2 + x42_3)) = ji27 := (i64_w _).trans hji27
                by_cases c28 : 0 ≤ (ji27)
                ·rw [if_pos c28] at H
                 have c28b0 : decide (0 ≤ (ji27)) = true := decide_eq_true c28
                 clear c28
                 by_cases c29 : (ji27) < (x7_3.length : Int)
                 ·rw [if_pos c29] at H
                  have c29b0 : decide ((ji27) < (x7_3.length : Int)) = true := decide_eq_true c29
                  clear c29
                  replace H := Option.bind_eq_some_iff.mp H
                  obtain ⟨⟨t243, t244, t245, t246⟩, A300, H⟩ := H
                  replace H : ((field_GF_Add.f k3 t244 t245 s0_2 t246 s0_4 s0_5 (rd x7_3 (ji27)) t243).bind fun bt247 => (poly_product.l1 k3 t231 (x7_3.set ((ji27) : Int).toNat bt247.1) x35_2 (rd t225 x35_2) t225 (t225.length : Int) x35_2 t231 (t231.length : Int) (wrap64 (x42_3 + 1)) bt247.2.1 bt247.2.2.1 s0_2 bt247.2.2.2 s0_4 s0_5)) = some (r1, r2, r3, r4) := H
                  have A30 := Aside0.mk A300
                  clear A300
                  replace H := Option.bind_eq_some_iff.mp H
                  obtain ⟨⟨t247, t248, t249, t250⟩, A310, H⟩ := H
                  replace H : (poly_product.l1 k3 t231 (x7_3.set ((ji27) : Int).toNat t247) x35_2 (rd t225 x35_2) t225 (t225.length : Int) x35_2 t231 (t231.length : Int) (wrap64 (x42_3 + 1)) t248 t249 s0_2 t250 s0_4 s0_5) = some (r1, r2, r3, r4) := H
                  have A31 := Aside0.mk A310
                  clear A310
                  obtain ⟨y251, hy251⟩ : ∃ y_ : List Int, y_ = (x7_3.set ((ji27) : Int).toNat t247) := ⟨_, rfl⟩
                  replace H : (poly_product.l1 k3 t231 y251 x35_2 (rd t225 x35_2) t225 (t225.length : Int) x35_2 t231 (t231.length : Int) (wrap64 (x42_3 + 1)) t248 t249 s0_2 t250 s0_4 s0_5) = some (r1, r2, r3, r4) := by (rw [hy251]; with_reducible exact H)
                  have Ny251 := Aside0.mk hy251
                  clear hy251
                  have H' := Aside0.mk H
                  clear H
                  have p241 : 0 ≤ (x42_3 : Int) := of_decide_eq_true (by (with_reducible assumption))
                  have q241 : x42_3 < (t231.length : Int) := of_decide_eq_true (by (with_reducible assumption))
                  obtain ⟨ad241, e241, hx241_0⟩ := Kd.at_int (Kd.R_reads' HO_40.out).2.2 x42_3 p241 q241
                  cases e241
                  replace p241 := eq_true p241
                  replace q241 := eq_true q241
                  (go_wp2)
                  have n0_ := Aside0.mk (Kd.R_drew HO_2.out)
                  have n1_ := Aside0.mk (Kd.R_drew HO_7.out)
                  have n2_ := Aside0.mk (Kd.R_drew HO_33.out)
                  have n3_ := Aside0.mk (Kd.R_drew HO_40.out)
                  have n4_ := Aside0.mk (IsS85.drew HI0.out)
                  have n5_ := Aside0.mk (keep_drew HK.out)
                  have n6_ := Aside0.mk (below_drew1 HB.out)
                  clear HO_2 HO_7 HO_33 HO_40 HI0 HK HB
                  have HO_2 := n0_
                  have HO_7 := n1_
                  have HO_33 := n2_
                  have HO_40 := n3_
                  have HI0 := n4_
                  have HK := n5_
                  have HB := n6_
                  clear n0_ n1_ n2_ n3_ n4_ n5_ n6_
                  obtain ⟨Ao34, co34, eo34⟩ := Kd.R_slice HO_7.out
                  ((subst eo34))
                  have p242 : 0 ≤ ((ji27) : Int) := of_decide_eq_true (by (with_reducible assumption))
                  have q242 : (ji27) < (x7_3.length : Int) := of_decide_eq_true (by (with_reducible assumption))
                  obtain ⟨ad242, e242, hx242_0⟩ := Kd.at_int (Kd.R_reads' HO_7.out).2.2 (ji27) p242 q242
                  cases e242
                  replace p242 := eq_true p242
                  replace q242 := eq_true q242
                  refine start_ (n := 18) (S := fun w' => w'.cell? (ad242.add ((ji27)).toNat) = some (.int .i64 (rd x7_3 (ji27)))) (ds := [17]) (bm 18 0) (by kernel_rfl) rfl rfl (hx242_0) (fun hHeld => ?_); refine with_tabW poly_product.tab11 poly_product.bits11 (fun HT_ HW_ => ?_)
                  generalize wr.drew = w33 at HO_2 HO_7 HO_33 HO_40 HI0 HK HB hx242_0 hHeld ⊢
                  refine pure_ (i := 0) (N := some 47) (v := ?_) (a' := ?_) (bm 18 1) rfl rfl (any_of HT_.out (by kernel_rfl)) (fun _ _ _ h => h) (Or.inl ⟨by rfl, ?_⟩) ?_ ?_;rotate_left;(intro w';go_simp;with_reducible rfl);rotate_left;(simp only [ps_];rfl)
                  refine pure_ (i := 1) (N := some 48) (v := ?_) (a' := ?_) (bm 18 3) rfl rfl (any_of HT_.out (by kernel_rfl)) (fun _ _ _ h => h) (Or.inl ⟨by rfl, ?_⟩) ?_ ?_;rotate_left;(intro w';go_simp;with_reducible rfl);rotate_left;(simp only [ps_];rfl)
                  refine pure_ (i := 2) (N := some 49) (v := ?_) (a' := ?_) (bm 18 7) rfl rfl (any_of HT_.out (by kernel_rfl)) (fun _ _ _ h => h) (Or.inl ⟨by rfl, ?_⟩) ?_ ?_;rotate_left;(intro w';go_simp;with_reducible rfl);rotate_left;(simp only [ps_];rfl)
                  refine pure_ (i := 3) (N := some 50) (v := ?_) (a' := ?_) (bm 18 15) rfl rfl (any_of HT_.out (by kernel_rfl)) (fun _ _ _ h => h) (Or.inl ⟨by rfl, ?_⟩) ?_ ?_;rotate_left;(intro w';go_simp;with_reducible rfl);rotate_left;(simp only [ps_];rfl)
                  refine pure_ (i := 4) (N := some 51) (v := ?_) (a' := ?_) (bm 18 31) rfl rfl (any_of HT_.out (by kernel_rfl)) (fun _ _ _ h => h) (Or.inl ⟨by rfl, ?_⟩) ?_ ?_;rotate_left;(intro w';go_simp;with_reducible rfl);rotate_left;(simp only [ps_];rfl)
                  refine pure_ (i := 5) (N := some 52) (v := ?_) (a' := ?_) (bm 18 63) rfl rfl (any_of HT_.out (by kernel_rfl)) (fun _ _ _ h => h) (Or.inl ⟨by rfl, ?_⟩) ?_ ?_;rotate_left;(intro w';go_simp;with_reducible rfl);rotate_left;(simp only [ps_];rfl)
                  refine pure_ (i := 6) (N := some 53) (v := ?_) (a' := ?_) (bm 18 127) rfl rfl (any_of HT_.out (by kernel_rfl)) (fun _ _ _ h => h) (Or.inl ⟨by rfl, ?_⟩) ?_ ?_;rotate_left;(intro w';go_simp;with_reducible rfl);rotate_left;(simp only [ps_];rfl)
                  refine pure_ (i := 7) (N := some 54) (v := ?_) (a' := ?_) (bm 18 255) rfl rfl (any_of HT_.out (by kernel_rfl)) (fun _ _ _ h => h) (Or.inl ⟨by rfl, ?_⟩) ?_ ?_;rotate_left;(intro w';go_simp;with_reducible rfl);rotate_left;(simp only [ps_];rfl)
                  refine pure_ (i := 8) (N := some 55) (v := ?_) (a' := ?_) (bm 18 511) rfl rfl (any_of HT_.out (by kernel_rfl)) (fun _ _ _ h => h) (Or.inl ⟨by rfl, ?_⟩) ?_ ?_;rotate_left;(intro w';go_simp;with_reducible rfl);rotate_left;(simp only [ps_];rfl)
                  refine pure_ (i := 9) (N := some 56) (v := ?_) (a' := ?_) (bm 18 1023) rfl rfl (any_of HT_.out (by kernel_rfl)) (fun _ _ _ h => h) (Or.inl ⟨by rfl, ?_⟩) ?_ ?_;rotate_left;(intro w';go_simp;with_reducible rfl);rotate_left;(simp only [ps_];rfl)
                  refine pure_ (i := 11) (N := some 58) (v := ?_) (a' := ?_) (bm 18 3071) rfl rfl (any_of HT_.out (by kernel_rfl)) (fun _ _ _ h => h) (Or.inl ⟨by rfl, ?_⟩) ?_ ?_;rotate_left;(intro w';go_simp;with_reducible rfl);rotate_left;(simp only [ps_];rfl)
                  refine pure_ (i := 12) (N := some 59) (v := ?_) (a' := ?_) (bm 18 7167) rfl rfl (any_of HT_.out (by kernel_rfl)) (fun _ _ _ h => h) (Or.inl ⟨by rfl, ?_⟩) ?_ ?_;rotate_left;(intro w';go_simp;with_reducible rfl);rotate_left;(simp only [ps_];rfl)
                  refine pure_ (i := 13) (N := some 60) (v := ?_) (a' := ?_) (bm 18 15359) rfl rfl (any_of HT_.out (by kernel_rfl)) (fun _ _ _ h => h) (Or.inl ⟨by rfl, ?_⟩) ?_ ?_;rotate_left;(intro w';go_simp;with_reducible rfl);rotate_left;(simp only [ps_];rfl)
                  refine take_ (i := 10) (N := some 57) (v := ?_) (a' := ?_) (bm 18 16383) rfl rfl (take_ofW HT_.out HW_.out (by kernel_rfl)) (fun _ _ _ h => h) (Or.inl ⟨by rfl, ?_⟩) hHeld ?_ ?_
                  rotate_left
                  ·intro w' s0
                   go_simp
                   with_reducible rfl
                  rotate_left
                  ·simp only [Act.put, List.setIfInBounds_toArray, List.set_cons_zero, List.set_cons_succ, i64_w, i32_w]
                   rfl
                  refine one_ (i := 14) (N := some 61) (bm 18 32767) rfl rfl (one_of HT_.out (by kernel_rfl)) (by decide) (fun K hK => ?_)
                  refine goes_ Try.func49 (by kernel_rfl) rfl #[.pointer (some ⟨g, 0, none⟩), .int .i64 (rd t225 x35_2), .int .i64 (rd t231 x42_3)] (by rfl) rfl rfl (by ((simp only [List.map_toArray, List.map_cons, List.map_nil])); (rfl)) ?_
                  with_reducible refine (field_GF_Mul.calls g x1000_3 x1001_3 s0_2 x1003_3 s0_4 s0_5 (rd t225 x35_2) (rd t231 x42_3) t243 t244 t245 t246 w0 _ ?side1 ?side2 A30.out).mono ?_
                  (case side1 => repeat ((with_reducible (exact HI0.out))))
                  (case side2 => repeat ((with_reducible (exact HB.out))))
                  rintro e w35 ⟨rfl, hi, hb, hk⟩
                  have HS0_ := keep_cell hk (hHeld) (by (rw [add_block]; exact Kd.own_blk (IsS85.own_ne HI0.out HO_7.out (by decide))))
                  refine ⟨_, rfl, ?_⟩
                  have n0_ := Aside0.mk (Kd.R_mono (Kd.R_keep (IsS85.apart (show IsS85 w0 _ g x1000_3 x1001_3 s0_2 x1003_3 s0_4 s0_5 from by exact HI0.out) HO_2.out (by decide)) hk (fun _ h => h.2)) (fun _ h => h.1))
                  have n1_ := Aside0.mk (Kd.R_mono (Kd.R_keep (IsS85.apart (show IsS85 w0 _ g x1000_3 x1001_3 s0_2 x1003_3 s0_4 s0_5 from by exact HI0.out) HO_7.out (by decide)) hk (fun _ h => h.2)) (fun _ h => h.1))
                  have n2_ := Aside0.mk (Kd.R_mono (Kd.R_keep (IsS85.apart (show IsS85 w0 _ g x1000_3 x1001_3 s0_2 x1003_3 s0_4 s0_5 from by exact HI0.out) HO_33.out (by decide)) hk (fun _ h => h.2)) (fun _ h => h.1))
                  have n3_ := Aside0.mk (Kd.R_mono (Kd.R_keep (IsS85.apart (show IsS85 w0 _ g x1000_3 x1001_3 s0_2 x1003_3 s0_4 s0_5 from by exact HI0.out) HO_40.out (by decide)) hk (fun _ h => h.2)) (fun _ h => h.1))
                  have n4_ := Aside0.mk (KeepBut.trans HK.out hk (.inl rfl))
                  have n5_ := Aside0.mk (hb)
                  have n6_ := Aside0.mk (hi)
                  clear HO_2 HO_7 HO_33 HO_40 HK HB HI0
                  have HO_2 := n0_
                  have HO_7 := n1_
                  have HO_33 := n2_
                  have HO_40 := n3_
                  have HK := n4_
                  have HB := n5_
                  have HI0 := n6_
                  clear n0_ n1_ n2_ n3_ n4_ n5_ n6_
                  ((clear hb))
                  ((clear hk))
                  ((clear hi))
                  refine hK.out _ _ (HS0_) (fun hHeld => ?_)
                  clear hK K
                  refine norm_ (a' := ?_) ?_ ?_
                  rotate_left
                  ·show Act.put _ (some 61) _ = _
                   simp only [Act.put, List.setIfInBounds_toArray, List.set_cons_zero, List.set_cons_succ, i64_w, i32_w]
                   rfl
                  refine one_ (i := 15) (N := some 62) (bm 18 65535) rfl rfl (one_of HT_.out (by kernel_rfl)) (by decide) (fun K hK => ?_)
                  refine goes_ Try.func58 (by kernel_rfl) rfl #[.pointer (some ⟨g, 0, none⟩), .int .i64 (rd x7_3 (ji27)), .int .i64 t243] (by rfl) rfl rfl (by ((simp only [List.map_toArray, List.map_cons, List.map_nil])); (rfl)) ?_
                  with_reducible refine (field_GF_Add.calls k3 g t244 t245 s0_2 t246 s0_4 s0_5 (rd x7_3 (ji27)) t243 t247 t248 t249 t250 w0 _ ?side1 ?side2 A31.out).mono ?_
                  (case side1 => repeat ((with_reducible (exact HI0.out))))
                  (case side2 => repeat ((with_reducible (exact HB.out))))
                  rintro e w36 ⟨rfl, hi, hb, hk⟩
                  have HS0_ := keep_cell hk (hHeld) (by (rw [add_block]; exact Kd.own_blk (IsS85.own_ne HI0.out HO_7.out (by decide))))
                  refine ⟨_, rfl, ?_⟩
                  have n0_ := Aside0.mk (Kd.R_mono (Kd.R_keep (IsS85.apart (show IsS85 w0 _ g t244 t245 s0_2 t246 s0_4 s0_5 from by exact HI0.out) HO_2.out (by decide)) hk (fun _ h => h.2)) (fun _ h => h.1))
                  have n1_ := Aside0.mk (Kd.R_mono (Kd.R_keep (IsS85.apart (show IsS85 w0 _ g t244 t245 s0_2 t246 s0_4 s0_5 from by exact HI0.out) HO_7.out (by decide)) hk (fun _ h => h.2)) (fun _ h => h.1))
                  have n2_ := Aside0.mk (Kd.R_mono (Kd.R_keep (IsS85.apart (show IsS85 w0 _ g t244 t245 s0_2 t246 s0_4 s0_5 from by exact HI0.out) HO_33.out (by decide)) hk (fun _ h => h.2)) (fun _ h => h.1))
                  have n3_ := Aside0.mk (Kd.R_mono (Kd.R_keep (IsS85.apart (show IsS85 w0 _ g t244 t245 s0_2 t246 s0_4 s0_5 from by exact HI0.out) HO_40.out (by decide)) hk (fun _ h => h.2)) (fun _ h => h.1))
                  have n4_ := Aside0.mk (KeepBut.trans HK.out hk (.inl rfl))
                  have n5_ := Aside0.mk (hb)
                  have n6_ := Aside0.mk (hi)
                  clear HO_2 HO_7 HO_33 HO_40 HK HB HI0
                  have HO_2 := n0_
                  have HO_7 := n1_
                  have HO_33 := n2_
                  have HO_40 := n3_
                  have HK := n4_
                  have HB := n5_
                  have HI0 := n6_
                  clear n0_ n1_ n2_ n3_ n4_ n5_ n6_
                  ((clear hb))
                  ((clear hk))
                  ((clear hi))
                  have p32 : 0 ≤ ((ji27) : Int) := of_decide_eq_true (by (with_reducible assumption))
                  have q32 : ((ji27) : Int) < ((x7_3.length : Int) : Int) := of_decide_eq_true (by (with_reducible assumption))
                  obtain ⟨go32, co32, eo32, gb32, gl32, cl32, HG32⟩ := Kd.R_form HO_7.out (by omega)
                  ((cases eo32))
                  have GB32 := Aside0.mk gb32
                  have GG32 := Aside0.mk HG32
                  clear gb32 gl32 HG32
                  ((simp only [add_plain] at hx242_0))
                  obtain ⟨hx32_0, hf32_0⟩ := Kd.R_celln 0 HO_7.out ((ji27) : Int) p32 q32
                  replace p32 := eq_true p32
                  replace q32 := eq_true q32
                  have HN0_go32 := Aside0.mk (show g ≠ go32 from by have h_ := IsS85.own_ne HI0.out HO_7.out (by decide); intro e_; exact h_ (by rw [e_]; rfl))
                  have HP37 := Kd.R_putn HO_7.out ((ji27) : Int) t247
                  rw [← Ny251.out] at HP37
                  have HQ37 := Aside0.mk HP37
                  clear HP37
                  refine hK.out _ _ (HS0_) (fun hHeld => ?_)
                  clear hK K
                  refine norm_ (a' := ?_) ?_ ?_
                  rotate_left
                  ·show Act.put _ (some 62) _ = _
                   simp only [Act.put, List.setIfInBounds_toArray, List.set_cons_zero, List.set_cons_succ, i64_w, i32_w]
                   rfl
                  refine pure_ (i := 16) (N := some 63) (v := ?_) (a' := ?_) (bm 18 131071) rfl rfl (any_of HT_.out (by kernel_rfl)) (fun _ _ _ h => h) (Or.inl ⟨by rfl, ?_⟩) ?_ ?_;rotate_left;(intro w';go_simp;with_reducible rfl);rotate_left;(simp only [ps_];rfl)
                  refine last_ (i := 17) (N := none) (bm 18 262143) rfl rfl (one_of HT_.out (by kernel_rfl)) (by decide) (fun K hK => ?_)
                  refine skip_ (w1 := ?_) (by rfl) rfl ?_ ?_
                  rotate_left
                  ·go_simp
                   rfl
                  refine hK.out _ _ ?_
                  clear hK K
                  refine done_ (done_of HT_.out (by kernel_rfl)) ?_
                  (go_wp2)
                  go_roundg k3
                  case measure => have := HJ5.out; have := HK2.out; have := HK3.out; omega
                  case rel => exact ⟨(y251), (wrap64 (x42_3 + 1)), (t248), (t249), (t250), (by rfl), H', ⟨by have := HJ5.out; have := HK2.out; have := HK3.out; omega⟩, ⟨by exact Kd.R_mono (Kd.R_far (p := ⟨go32, ((ji27) : Int).toNat, none⟩) (Kd.R_mono HO_2.out (fun k_ hk => (⟨hk, fun e_ => hk.1 (by rw [e_]; rfl)⟩ : _ ∧ k_ ≠ go32))) (fun _ hk => hk.2) (.int .i64 t247)) (fun _ hk => ⟨hk.1.1, hk.1.2⟩)⟩, ⟨HQ37.out⟩, ⟨by exact Kd.R_mono (Kd.R_far (p := ⟨go32, ((ji27) : Int).toNat, none⟩) (Kd.R_mono HO_33.out (fun k_ hk => (⟨hk, fun e_ => hk.2.1 (by rw [e_]; rfl)⟩ : _ ∧ k_ ≠ go32))) (fun _ hk => hk.2) (.int .i64 t247)) (fun _ hk => ⟨hk.1.1, ⟨hk.1.2.1, hk.1.2.2⟩⟩)⟩, ⟨by exact Kd.R_mono (Kd.R_far (p := ⟨go32, ((ji27) : Int).toNat, none⟩) (Kd.R_mono HO_40.out (fun k_ hk => (⟨hk, fun e_ => hk.1 (by rw [e_]; rfl)⟩ : _ ∧ k_ ≠ go32))) (fun _ hk => hk.2) (.int .i64 t247)) (fun _ hk => ⟨hk.1.1, hk.1.2⟩)⟩, ⟨by repeat ((with_reducible first | (exact HI0.out) | (refine IsS85.far ?_ HN0_go32.out _)))⟩, ⟨by repeat ((with_reducible first | (exact HK.out) | (refine keep_far ?_ GB32.out _)))⟩, ⟨by repeat ((with_reducible first | (exact HB.out) | (refine below_set ?_ (Nat.le_trans HL.out GB32.out))))⟩⟩
                 ·rw [if_neg c29] at H
                  exact absurd H (by simp)
                ·rw [if_neg c28] at H
                 exact absurd H (by simp)
               ·rw [if_neg c26] at H
                exact absurd H (by simp)
              ·rw [if_neg c25] at H
               exact absurd H (by simp)
             ·rw [if_neg c24] at H
              have c24b0 : decide (x42_3 < (t231.length : Int)) = false := decide_eq_false c24
              clear c24
              have H' := Aside0.mk H
              clear H
              go_wp2
              go_roundg k3
              case measure => have := HJ5.out; have := HK2.out; have := HK3.out; omega
              case rel => exact ⟨(x7_3), (wrap64 (x35_2 + 1)), (x1000_3), (x1001_3), (x1003_3), (by rfl), H', ⟨by have := HJ5.out; have := HK2.out; have := HK3.out; omega⟩, ⟨HO_2.out⟩, ⟨by exact Kd.R_mono HO_7.out (fun _ hk => ⟨hk.1, hk.2.1⟩)⟩, ⟨by exact Kd.R_mono HO_33.out (fun _ hk => ⟨hk.1, hk.2.1⟩)⟩, ⟨by exact HI0.out⟩, ⟨by exact HK.out⟩, ⟨by exact HB.out⟩⟩
          ·rw [if_neg c23] at H
           exact absurd H (by simp)
         ·rw [if_neg c22] at H
          exact absurd H (by simp)
        ·rw [if_neg c21] at H
         have c21b0 : decide (x35_2 < (t225.length : Int)) = false := decide_eq_false c21
         clear c21
         simp only [Option.some.injEq, Prod.mk.injEq] at H
         obtain ⟨rfl, rfl, rfl, rfl⟩ := H
         go_wp2
         go_ret
         exact ⟨_, by rfl, by exact Kd.R_mono HO_7.out (fun _ hk => trivial), by exact HI0.out, by exact HB.out, by exact HK.out⟩
     ·rw [if_neg c16] at H
      exact absurd H (by simp)
    ·rw [if_neg c15] at H
     exact absurd H (by simp)
end Go.Proofs.Ytiejggpmjapajaa.PA
end
section
namespace Go.Proofs.Ytiejggpmjapajaa.PA
open Go.RowKit Go.Proofs.YtiejggpmjapajaaW.PrintWords Go.Proofs.YtiejggpmjapajaaW.PrintLast Go.Proofs.YtiejggpmjapajaaW.PrintMore
attribute [local go_sem] max2_int min2_int max_two min_two max_three min_three max_four min_four
set_option linter.unusedVariables false
set_option linter.unusedSimpArgs false
def field_GF_Neg.l0 : Nat → Int → Int → Int → Int → Int → List Int → Int → List Int → List Int → Option (Int × Int × Int × Int)
 | 0, _, _, _, _, _, _, _, _, _ => none
 | k + 1, x1, x5, x6, x1000, x1001, x1002, x1003, x1004, x1005 => if x1 > 0 then (if x1000 = 0 then (none) else (field_GF_Neg.l0 k (wrap64 (Int.tdiv x1 x1000)) (wrap64 (x5 + (wrap64 ((Int.tmod (wrap64 (x1000 - (Int.tmod x1 x1000))) x1000) * x6)))) (wrap64 (x6 * x1000)) x1000 x1001 x1002 x1003 x1004 x1005)) else (some (x5, x1000, x1001, x1003))
def field_GF_Neg.f (k : Nat) (s0_0 : Int) (s0_1 : Int) (s0_2 : List Int) (s0_3 : Int) (s0_4 : List Int) (s0_5 : List Int) (a1 : Int) : Option (Int × Int × Int × Int) := (field_GF_in.f s0_0 s0_1 s0_2 s0_3 s0_4 s0_5 a1).bind fun bt252 => (field_GF_Neg.l0 k bt252.1 0 1 bt252.2.1 bt252.2.2.1 s0_2 bt252.2.2.2 s0_4 s0_5)
set_option maxHeartbeats 8000000 in
set_option maxRecDepth 100000 in
theorem field_GF_Neg.calls (k : Nat) (g : Nat) (s0_0 : Int) (s0_1 : Int) (s0_2 : List Int) (s0_3 : Int) (s0_4 : List Int) (s0_5 : List Int) (a1 : Int) (r1 : Int) (r2 : Int) (r3 : Int) (r4 : Int) (w0 w : World) (hI : IsS85 w0 w g s0_0 s0_1 s0_2 s0_3 s0_4 s0_5) (hB : Below w0.heap.size w0 w) (h : field_GF_Neg.f k s0_0 s0_1 s0_2 s0_3 s0_4 s0_5 a1 = some (r1, r2, r3, r4)) :
  Calls Try.prog 56 #[.pointer (some ⟨g, 0, none⟩), .int .i64 a1] w fun e w' => e = .returned (.int .i64 r1) ∧ IsS85 w0 w' g r2 r3 s0_2 r4 s0_4 s0_5 ∧ Below w0.heap.size w0 w' ∧ KeepBut w w' g none := by
 have HI0 := Aside0.mk hI
 have HK := Aside0.mk (KeepBut.refl w g none)
 have HL := Aside0.mk hB.size
 clear hI
 have HW0 := Aside0.mk hB.size
 have HB := Aside0.mk hB
 clear hB
 have H : ((field_GF_in.f s0_0 s0_1 s0_2 s0_3 s0_4 s0_5 a1).bind fun bt252 => (field_GF_Neg.l0 k bt252.1 0 1 bt252.2.1 bt252.2.2.1 s0_2 bt252.2.2.2 s0_4 s0_5)) = some (r1, r2, r3, r4) := h
 clear h
 replace H := Option.bind_eq_some_iff.mp H
 obtain ⟨⟨t252, t253, t254, t255⟩, A30, H⟩ := H
 replace H : (field_GF_Neg.l0 k t252 0 1 t253 t254 s0_2 t255 s0_4 s0_5) = some (r1, r2, r3, r4) := H
 have A3 := Aside0.mk A30
 clear A30
 have H' := Aside0.mk H
 clear H
 go_enter Try.func56, Try.ntmps56
 go_wp2_with ((go_at_call 77; (with_reducible refine (field_GF_in.calls g s0_0 s0_1 s0_2 s0_3 s0_4 s0_5 a1 t252 t253 t254 t255 w0 _ ?side1 ?side2 A3.out).mono ?_); (case side1 => repeat ((with_reducible (exact HI0.out)))); (case side2 => repeat ((with_reducible (exact HB.out)))); rintro e w4 ⟨rfl, hi, hb, hk⟩; have n0_ := Aside0.mk (KeepBut.trans HK.out hk (.inl rfl)); have n1_ := Aside0.mk (hb); have n2_ := Aside0.mk (hi); clear HK; clear HB; clear HI0; have HK := n0_; have HB := n1_; have HI0 := n2_; clear n0_ n1_ n2_; ((clear hb)); (skip); ((clear hk)); ((clear hi))))
 repeat (go_quiet (first | (go_at_call 77; (with_reducible refine (field_GF_in.calls g s0_0 s0_1 s0_2 s0_3 s0_4 s0_5 a1 t252 t253 t254 t255 w0 _ ?side1 ?side2 A3.out).mono ?_); (case side1 => repeat (first | (with_reducible first | exact HI0.out | apply IsS85.alloc | apply IsS85.drewN | apply IsS85.drew | apply IsS85.set_0 | apply IsS85.set_1 | apply IsS85.set_3) | exact HI0.out)); (case side2 => repeat (first | (with_reducible first | exact HB.out | apply below_alloc | apply pw_below_drewN | apply below_drew1 | refine below_set ?_ (IsS85.ge HI0.out)) | exact HB.out)); rintro e w4 ⟨rfl, hi, hb, hk⟩; have n0_ := Aside0.mk (KeepBut.trans (by repeat (first | (with_reducible first | exact HK.out | apply KeepBut.set_ | apply keep_drewN | apply keep_drew | apply keep_alloc) | exact HK.out)) hk (.inl rfl)); have n1_ := Aside0.mk (hb); have n2_ := Aside0.mk (hi); clear HK; clear HB; clear HI0; have HK := n0_; have HB := n1_; have HI0 := n2_; clear n0_ n1_ n2_; (try clear hb); (try clear hb2); (try clear hk); (try clear hi))); try go_wp2_with (first | (go_at_call 77; (with_reducible refine (field_GF_in.calls g s0_0 s0_1 s0_2 s0_3 s0_4 s0_5 a1 t252 t253 t254 t255 w0 _ ?side1 ?side2 A3.out).mono ?_); (case side1 => repeat (first | (with_reducible first | exact HI0.out | apply IsS85.alloc | apply IsS85.drewN | apply IsS85.drew | apply IsS85.set_0 | apply IsS85.set_1 | apply IsS85.set_3) | exact HI0.out)); (case side2 => repeat (first | (with_reducible first | exact HB.out | apply below_alloc | apply pw_below_drewN | apply below_drew1 | refine below_set ?_ (IsS85.ge HI0.out)) | exact HB.out)); rintro e w4 ⟨rfl, hi, hb, hk⟩; have n0_ := Aside0.mk (KeepBut.trans (by repeat (first | (with_reducible first | exact HK.out | apply KeepBut.set_ | apply keep_drewN | apply keep_drew | apply keep_alloc) | exact HK.out)) hk (.inl rfl)); have n1_ := Aside0.mk (hb); have n2_ := Aside0.mk (hi); clear HK; clear HB; clear HI0; have HK := n0_; have HB := n1_; have HI0 := n2_; clear n0_ n1_ n2_; (try clear hb); (try clear hb2); (try clear hk); (try clear hi))))
 go_loopg [1, 5, 6] k (fun kq v1 v5 v6 w' => ∃ (x1_1 : Int) (x5_1 : Int) (x6_1 : Int), v1 = .int .i64 x1_1 ∧ v5 = .int .i64 x5_1 ∧ v6 = .int .i64 x6_1 ∧ Aside0 (field_GF_Neg.l0 kq x1_1 x5_1 x6_1 t253 t254 s0_2 t255 s0_4 s0_5 = some (r1, r2, r3, r4)) ∧ Aside0 (kq ≤ k) ∧ Aside0 (IsS85 w0 w' g t253 t254 s0_2 t255 s0_4 s0_5) ∧ Aside0 (KeepBut w w' g none) ∧ Aside0 (Below w0.heap.size w0 w'))
 case atStart => exact ⟨(t252), (0), (1), (by rfl), (by rfl), (by rfl), H', ⟨Nat.le_refl _⟩, ⟨by exact HI0.out⟩, ⟨by exact HK.out⟩, ⟨by exact HB.out⟩⟩
 case round =>
  clear H'
  obtain ⟨x1_1, x5_1, x6_1, rfl, rfl, rfl, HA, HK1, HI0, HK, HB⟩ := hrel
  cases gk with
  | zero => exact absurd HA.out (by simp [field_GF_Neg.l0])
  | succ k1 =>
   have H := HA.out
   clear HA
   simp only [field_GF_Neg.l0] at H
   by_cases c5 : x1_1 > 0
   ·rw [if_pos c5] at H
    have c5b0 : decide (0 < x1_1) = true := decide_eq_true c5
    clear c5
    by_cases c6 : t253 = 0
    ·rw [if_pos c6] at H
     exact absurd H (by simp)
    ·rw [if_neg c6] at H
     have c6b0 : (t253 == 0) = false := beq_eq_false_iff_ne.mpr c6
     have c6b1 : (t253 != 0) = true := bne_iff_ne.mpr c6
     have H' := Aside0.mk H
     clear H
     obtain ⟨ASz7_2, cSz7_2, ASz7_4, cSz7_4, ASz7_5, cSz7_5, HGz7, hgz7, HSz7_2, HSz7_4, HSz7_5⟩ := HI0.out
     have hcz7_0 := cellS85_0 HGz7
     have hcz7_1 := cellS85_1 HGz7
     have hcz7_2 := cellS85_2 HGz7
     have hcz7_3 := cellS85_3 HGz7
     have hcz7_4 := cellS85_4 HGz7
     have hcz7_5 := cellS85_5 HGz7
     have hfz7_0 := blk_frozen HGz7 0
     have hfz7_1 := blk_frozen HGz7 1
     have hfz7_3 := blk_frozen HGz7 3
     clear HGz7 hgz7
     go_wp2
     repeat (go_quiet (fail); (go_wp2))
     go_roundg k1
     case measure => have := HK1.out; omega
     case rel => exact ⟨(wrap64 (Int.tdiv x1_1 t253)), (wrap64 (x5_1 + (wrap64 ((Int.tmod (wrap64 (t253 - (Int.tmod x1_1 t253))) t253) * x6_1)))), (wrap64 (x6_1 * t253)), (by rfl), (by rfl), (by rfl), H', ⟨by have := HK1.out; omega⟩, ⟨by repeat ((with_reducible first | (exact HI0.out) | (apply IsS85.drewN)))⟩, ⟨by repeat ((with_reducible first | (exact HK.out) | (apply keep_drewN)))⟩, ⟨by repeat ((with_reducible first | (exact HB.out) | (apply pw_below_drewN)))⟩⟩
   ·rw [if_neg c5] at H
    have c5b0 : decide (0 < x1_1) = false := decide_eq_false c5
    clear c5
    simp only [Option.some.injEq, Prod.mk.injEq] at H
    obtain ⟨rfl, rfl, rfl, rfl⟩ := H
    go_wp2
    repeat (go_quiet (fail); try go_wp2)
    go_ret
    exact ⟨by rfl, by exact HI0.out, by exact HB.out, by exact HK.out⟩
def field_GF_Sub.f (k : Nat) (s0_0 : Int) (s0_1 : Int) (s0_2 : List Int) (s0_3 : Int) (s0_4 : List Int) (s0_5 : List Int) (a1 : Int) (a2 : Int) : Option (Int × Int × Int × Int) := (field_GF_Neg.f k s0_0 s0_1 s0_2 s0_3 s0_4 s0_5 a2).bind fun bt256 => ((field_GF_Add.f k bt256.2.1 bt256.2.2.1 s0_2 bt256.2.2.2 s0_4 s0_5 a1 bt256.1).bind fun bt260 => (some (bt260.1, bt260.2.1, bt260.2.2.1, bt260.2.2.2)))
set_option maxHeartbeats 8000000 in
set_option maxRecDepth 100000 in
theorem field_GF_Sub.calls (k : Nat) (g : Nat) (s0_0 : Int) (s0_1 : Int) (s0_2 : List Int) (s0_3 : Int) (s0_4 : List Int) (s0_5 : List Int) (a1 : Int) (a2 : Int) (r1 : Int) (r2 : Int) (r3 : Int) (r4 : Int) (w0 w : World) (hI : IsS85 w0 w g s0_0 s0_1 s0_2 s0_3 s0_4 s0_5) (hB : Below w0.heap.size w0 w) (h : field_GF_Sub.f k s0_0 s0_1 s0_2 s0_3 s0_4 s0_5 a1 a2 = some (r1, r2, r3, r4)) :
  Calls Try.prog 59 #[.pointer (some ⟨g, 0, none⟩), .int .i64 a1, .int .i64 a2] w fun e w' => e = .returned (.int .i64 r1) ∧ IsS85 w0 w' g r2 r3 s0_2 r4 s0_4 s0_5 ∧ Below w0.heap.size w0 w' ∧ KeepBut w w' g none := by
 have HI0 := Aside0.mk hI
 have HK := Aside0.mk (KeepBut.refl w g none)
 have HL := Aside0.mk hB.size
 clear hI
 have HW0 := Aside0.mk hB.size
 have HB := Aside0.mk hB
 clear hB
 have H : ((field_GF_Neg.f k s0_0 s0_1 s0_2 s0_3 s0_4 s0_5 a2).bind fun bt256 => ((field_GF_Add.f k bt256.2.1 bt256.2.2.1 s0_2 bt256.2.2.2 s0_4 s0_5 a1 bt256.1).bind fun bt260 => (some (bt260.1, bt260.2.1, bt260.2.2.1, bt260.2.2.2)))) = some (r1, r2, r3, r4) := h
 clear h
 replace H := Option.bind_eq_some_iff.mp H
 obtain ⟨⟨t256, t257, t258, t259⟩, A40, H⟩ := H
 replace H : ((field_GF_Add.f k t257 t258 s0_2 t259 s0_4 s0_5 a1 t256).bind fun bt260 => (some (bt260.1, bt260.2.1, bt260.2.2.1, bt260.2.2.2))) = some (r1, r2, r3, r4) := H
 have A4 := Aside0.mk A40
 clear A40
 replace H := Option.bind_eq_some_iff.mp H
 obtain ⟨⟨t260, t261, t262, t263⟩, A50, H⟩ := H
 replace H : (some (t260, t261, t262, t263)) = some (r1, r2, r3, r4) := H
 have A5 := Aside0.mk A50
 clear A50
 simp only [Option.some.injEq, Prod.mk.injEq] at H
 obtain ⟨rfl, rfl, rfl, rfl⟩ := H
 go_enter Try.func59, Try.ntmps59
 go_wp2_with (first | ((with_reducible refine gate_callee (f := 56) rfl ?_); refine goesL_ (some 11) rfl rfl Try.func56 (by kernel_rfl) rfl #[.pointer (some ⟨g, 0, none⟩), .int .i64 a2] rfl (by ((simp only [List.map_toArray, List.map_cons, List.map_nil])); (rfl)) ?_; (with_reducible refine (field_GF_Neg.calls k g s0_0 s0_1 s0_2 s0_3 s0_4 s0_5 a2 t256 t257 t258 t259 w0 _ ?side1 ?side2 A4.out).mono ?_); (case side1 => repeat ((with_reducible (exact HI0.out)))); (case side2 => repeat ((with_reducible (exact HB.out)))); rintro e w6 ⟨rfl, hi, hb, hk⟩; refine ⟨_, rfl, ?_⟩; have n0_ := Aside0.mk (KeepBut.trans HK.out hk (.inl rfl)); have n1_ := Aside0.mk (hb); have n2_ := Aside0.mk (hi); clear HK; clear HB; clear HI0; have HK := n0_; have HB := n1_; have HI0 := n2_; clear n0_ n1_ n2_; ((clear hb)); (skip); ((clear hk)); ((clear hi))) | ((with_reducible refine gate_callee (f := 58) rfl ?_); refine goesL_ (some 12) rfl rfl Try.func58 (by kernel_rfl) rfl #[.pointer (some ⟨g, 0, none⟩), .int .i64 a1, .int .i64 t256] rfl (by ((simp only [List.map_toArray, List.map_cons, List.map_nil])); (rfl)) ?_; (with_reducible refine (field_GF_Add.calls k g t257 t258 s0_2 t259 s0_4 s0_5 a1 t256 t260 t261 t262 t263 w0 _ ?side1 ?side2 A5.out).mono ?_); (case side1 => repeat ((with_reducible (exact HI0.out)))); (case side2 => repeat ((with_reducible (exact HB.out)))); rintro e w7 ⟨rfl, hi, hb, hk⟩; refine ⟨_, rfl, ?_⟩; have n0_ := Aside0.mk (KeepBut.trans HK.out hk (.inl rfl)); have n1_ := Aside0.mk (hb); have n2_ := Aside0.mk (hi); clear HK; clear HB; clear HI0; have HK := n0_; have HB := n1_; have HI0 := n2_; clear n0_ n1_ n2_; ((clear hb)); (skip); ((clear hk)); ((clear hi))))
 go_ret
 exact ⟨by rfl, by exact HI0.out, by exact HB.out, by exact HK.out⟩
def field_GF_Inv.f (s0_0 : Int) (s0_1 : Int) (s0_2 : List Int) (s0_3 : Int) (s0_4 : List Int) (s0_5 : List Int) (a1 : Int) : Option (Int × Int × Int × Int × Int) := (field_GF_in.f s0_0 s0_1 s0_2 s0_3 s0_4 s0_5 a1).bind fun bt264 => (if bt264.1 = 0 then (some (0, 7, bt264.2.1, bt264.2.2.1, bt264.2.2.2)) else (if 0 ≤ bt264.1 then (if bt264.1 < (s0_5.length : Int) then (if (wrap64 (bt264.2.2.2 - 1)) = 0 then (none) else (if 0 ≤ (Int.tmod (wrap64 ((wrap64 (bt264.2.2.2 - 1)) - (rd s0_5 bt264.1))) (wrap64 (bt264.2.2.2 - 1))) then (if (Int.tmod (wrap64 ((wrap64 (bt264.2.2.2 - 1)) - (rd s0_5 bt264.1))) (wrap64 (bt264.2.2.2 - 1))) < (s0_4.length : Int) then (some (rd s0_4 (Int.tmod (wrap64 ((wrap64 (bt264.2.2.2 - 1)) - (rd s0_5 bt264.1))) (wrap64 (bt264.2.2.2 - 1))), 0, bt264.2.1, bt264.2.2.1, bt264.2.2.2)) else (none)) else (none))) else (none)) else (none)))
set_option maxHeartbeats 8000000 in
set_option maxRecDepth 100000 in
theorem field_GF_Inv.calls (g : Nat) (s0_0 : Int) (s0_1 : Int) (s0_2 : List Int) (s0_3 : Int) (s0_4 : List Int) (s0_5 : List Int) (a1 : Int) (r1 : Int) (r2 : Int) (r3 : Int) (r4 : Int) (r5 : Int) (w0 w : World) (hI : IsS85 w0 w g s0_0 s0_1 s0_2 s0_3 s0_4 s0_5) (hB : Below w0.heap.size w0 w) (h : field_GF_Inv.f s0_0 s0_1 s0_2 s0_3 s0_4 s0_5 a1 = some (r1, r2, r3, r4, r5)) :
  Calls Try.prog 62 #[.pointer (some ⟨g, 0, none⟩), .int .i64 a1] w fun e w' => e = .returned (.tuple #[.int .i64 r1, .int .i64 r2]) ∧ IsS85 w0 w' g r3 r4 s0_2 r5 s0_4 s0_5 ∧ Below w0.heap.size w0 w' ∧ KeepBut w w' g none := by
 have HI0 := Aside0.mk hI
 have HK := Aside0.mk (KeepBut.refl w g none)
 have HL := Aside0.mk hB.size
 clear hI
 have HW0 := Aside0.mk hB.size
 have HB := Aside0.mk hB
 clear hB
 have H : ((field_GF_in.f s0_0 s0_1 s0_2 s0_3 s0_4 s0_5 a1).bind fun bt264 => (if bt264.1 = 0 then (some (0, 7, bt264.2.1, bt264.2.2.1, bt264.2.2.2)) else (if 0 ≤ bt264.1 then (if bt264.1 < (s0_5.length : Int) then (if (wrap64 (bt264.2.2.2 - 1)) = 0 then (none) else (if 0 ≤ (Int.tmod (wrap64 ((wrap64 (bt264.2.2.2 - 1)) - (rd s0_5 bt264.1))) (wrap64 (bt264.2.2.2 - 1))) then (if (Int.tmod (wrap64 ((wrap64 (bt264.2.2.2 - 1)) - (rd s0_5 bt264.1))) (wrap64 (bt264.2.2.2 - 1))) < (s0_4.length : Int) then (some (rd s0_4 (Int.tmod (wrap64 ((wrap64 (bt264.2.2.2 - 1)) - (rd s0_5 bt264.1))) (wrap64 (bt264.2.2.2 - 1))), 0, bt264.2.1, bt264.2.2.1, bt264.2.2.2)) else (none)) else (none))) else (none)) else (none)))) = some (r1, r2, r3, r4, r5) := h
 clear h
 replace H := Option.bind_eq_some_iff.mp H
 obtain ⟨⟨t264, t265, t266, t267⟩, A30, H⟩ := H
 replace H : (if t264 = 0 then (some (0, 7, t265, t266, t267)) else (if 0 ≤ t264 then (if t264 < (s0_5.length : Int) then (if (wrap64 (t267 - 1)) = 0 then (none) else (if 0 ≤ (Int.tmod (wrap64 ((wrap64 (t267 - 1)) - (rd s0_5 t264))) (wrap64 (t267 - 1))) then (if (Int.tmod (wrap64 ((wrap64 (t267 - 1)) - (rd s0_5 t264))) (wrap64 (t267 - 1))) < (s0_4.length : Int) then (some (rd s0_4 (Int.tmod (wrap64 ((wrap64 (t267 - 1)) - (rd s0_5 t264))) (wrap64 (t267 - 1))), 0, t265, t266, t267)) else (none)) else (none))) else (none)) else (none))) = some (r1, r2, r3, r4, r5) := H
 have A3 := Aside0.mk A30
 clear A30
 by_cases c4 : t264 = 0
 ·rw [if_pos c4] at H
  have c4b0 : (t264 == 0) = true := beq_iff_eq.mpr c4
  have c4b1 : (t264 != 0) = false := bne_eq_false_iff_eq.mpr c4
  clear c4
  simp only [Option.some.injEq, Prod.mk.injEq] at H
  obtain ⟨rfl, rfl, rfl, rfl, rfl⟩ := H
  go_enter Try.func62, Try.ntmps62
  go_wp2_with ((go_at_call 77; (with_reducible refine (field_GF_in.calls g s0_0 s0_1 s0_2 s0_3 s0_4 s0_5 a1 t264 t265 t266 t267 w0 _ ?side1 ?side2 A3.out).mono ?_); (case side1 => repeat ((with_reducible (exact HI0.out)))); (case side2 => repeat ((with_reducible (exact HB.out)))); rintro e w5 ⟨rfl, hi, hb, hk⟩; have n0_ := Aside0.mk (KeepBut.trans HK.out hk (.inl rfl)); have n1_ := Aside0.mk (hb); have n2_ := Aside0.mk (hi); clear HK; clear HB; clear HI0; have HK := n0_; have HB := n1_; have HI0 := n2_; clear n0_ n1_ n2_; ((clear hb)); (skip); ((clear hk)); ((clear hi))))
  repeat (go_quiet (first | (go_at_call 77; (with_reducible refine (field_GF_in.calls g s0_0 s0_1 s0_2 s0_3 s0_4 s0_5 a1 t264 t265 t266 t267 w0 _ ?side1 ?side2 A3.out).mono ?_); (case side1 => repeat (first | (with_reducible first | exact HI0.out | apply IsS85.alloc | apply IsS85.drewN | apply IsS85.drew | apply IsS85.set_0 | apply IsS85.set_1 | apply IsS85.set_3) | exact HI0.out)); (case side2 => repeat (first | (with_reducible first | exact HB.out | apply below_alloc | apply pw_below_drewN | apply below_drew1 | refine below_set ?_ (IsS85.ge HI0.out)) | exact HB.out)); rintro e w5 ⟨rfl, hi, hb, hk⟩; have n0_ := Aside0.mk (KeepBut.trans (by repeat (first | (with_reducible first | exact HK.out | apply KeepBut.set_ | apply keep_drewN | apply keep_drew | apply keep_alloc) | exact HK.out)) hk (.inl rfl)); have n1_ := Aside0.mk (hb); have n2_ := Aside0.mk (hi); clear HK; clear HB; clear HI0; have HK := n0_; have HB := n1_; have HI0 := n2_; clear n0_ n1_ n2_; (try clear hb); (try clear hb2); (try clear hk); (try clear hi))); try go_wp2_with (first | (go_at_call 77; (with_reducible refine (field_GF_in.calls g s0_0 s0_1 s0_2 s0_3 s0_4 s0_5 a1 t264 t265 t266 t267 w0 _ ?side1 ?side2 A3.out).mono ?_); (case side1 => repeat (first | (with_reducible first | exact HI0.out | apply IsS85.alloc | apply IsS85.drewN | apply IsS85.drew | apply IsS85.set_0 | apply IsS85.set_1 | apply IsS85.set_3) | exact HI0.out)); (case side2 => repeat (first | (with_reducible first | exact HB.out | apply below_alloc | apply pw_below_drewN | apply below_drew1 | refine below_set ?_ (IsS85.ge HI0.out)) | exact HB.out)); rintro e w5 ⟨rfl, hi, hb, hk⟩; have n0_ := Aside0.mk (KeepBut.trans (by repeat (first | (with_reducible first | exact HK.out | apply KeepBut.set_ | apply keep_drewN | apply keep_drew | apply keep_alloc) | exact HK.out)) hk (.inl rfl)); have n1_ := Aside0.mk (hb); have n2_ := Aside0.mk (hi); clear HK; clear HB; clear HI0; have HK := n0_; have HB := n1_; have HI0 := n2_; clear n0_ n1_ n2_; (try clear hb); (try clear hb2); (try clear hk); (try clear hi))))
  go_ret2
  exact ⟨by rfl, by exact HI0.out, by exact HB.out, by exact HK.out⟩
 ·rw [if_neg c4] at H
  have c4b0 : (t264 == 0) = false := beq_eq_false_iff_ne.mpr c4
  have c4b1 : (t264 != 0) = true := bne_iff_ne.mpr c4
  by_cases c6 : 0 ≤ t264
  ·rw [if_pos c6] at H
   have c6b0 : decide (0 ≤ t264) = true := decide_eq_true c6
   clear c6
   by_cases c7 : t264 < (s0_5.length : Int)
   ·rw [if_pos c7] at H
    have c7b0 : decide (t264 < (s0_5.length : Int)) = true := decide_eq_true c7
    clear c7
    by_cases c8 : (wrap64 (t267 - 1)) = 0
    ·rw [if_pos c8] at H
     exact absurd H (by simp)
    ·rw [if_neg c8] at H
     have c8b0 : ((wrap64 (t267 - 1)) == 0) = false := beq_eq_false_iff_ne.mpr c8
     have c8b1 : ((wrap64 (t267 - 1)) != 0) = true := bne_iff_ne.mpr c8
     obtain ⟨ji9, hji9⟩ : ∃ j_ : Int, (Int.tmod (wrap64 ((wrap64 (t267 - 1)) - (rd s0_5 t264))) (wrap64 (t267 - 1))) = j_ := ⟨_, rfl⟩
     replace H : (if 0 ≤ (ji9) then (if (ji9) < (s0_4.length : Int) then (some (rd s0_4 (ji9), 0, t265, t266, t267)) else (none)) else (none)) = some (r1, r2, r3, r4, r5) := by (rw [hji9] at H; exact H)
     by_cases c10 : 0 ≤ (ji9)
     ·rw [if_pos c10] at H
      have c10b0 : decide (0 ≤ (ji9)) = true := decide_eq_true c10
      clear c10
      by_cases c11 : (ji9) < (s0_4.length : Int)
      ·rw [if_pos c11] at H
       have c11b0 : decide ((ji9) < (s0_4.length : Int)) = true := decide_eq_true c11
       clear c11
       simp only [Option.some.injEq, Prod.mk.injEq] at H
       obtain ⟨rfl, rfl, rfl, rfl, rfl⟩ := H
       go_enter Try.func62, Try.ntmps62
       go_wp2_with ((go_at_call 77; (with_reducible refine (field_GF_in.calls g s0_0 s0_1 s0_2 s0_3 s0_4 s0_5 a1 t264 t265 t266 t267 w0 _ ?side1 ?side2 A3.out).mono ?_); (case side1 => repeat ((with_reducible (exact HI0.out)))); (case side2 => repeat ((with_reducible (exact HB.out)))); rintro e w12 ⟨rfl, hi, hb, hk⟩; have n0_ := Aside0.mk (KeepBut.trans HK.out hk (.inl rfl)); have n1_ := Aside0.mk (hb); have n2_ := Aside0.mk (hi); clear HK; clear HB; clear HI0; have HK := n0_; have HB := n1_; have HI0 := n2_; clear n0_ n1_ n2_; ((clear hb)); (skip); ((clear hk)); ((clear hi)); obtain ⟨ASz13_2, cSz13_2, ASz13_4, cSz13_4, ASz13_5, cSz13_5, HGz13, hgz13, HSz13_2, HSz13_4, HSz13_5⟩ := HI0.out; have hcz13_0 := cellS85_0 HGz13; have hcz13_1 := cellS85_1 HGz13; have hcz13_2 := cellS85_2 HGz13; have hcz13_3 := cellS85_3 HGz13; have hcz13_4 := cellS85_4 HGz13; have hcz13_5 := cellS85_5 HGz13; have hfz13_0 := blk_frozen HGz13 0; have hfz13_1 := blk_frozen HGz13 1; have hfz13_3 := blk_frozen HGz13 3; clear HGz13 hgz13; have p268 : 0 ≤ (t264 : Int) := of_decide_eq_true (by (with_reducible assumption)); have q268 : t264 < (s0_5.length : Int) := of_decide_eq_true (by (with_reducible assumption)); obtain ⟨ad268, e268, hx268_0⟩ := Kd.at_int HSz13_5 t264 p268 q268; cases e268; replace hx268_0 := pw_cell_below HB.out hx268_0; replace p268 := eq_true p268; replace q268 := eq_true q268; have p269 : 0 ≤ ((ji9) : Int) := of_decide_eq_true (by (with_reducible assumption)); have q269 : (ji9) < (s0_4.length : Int) := of_decide_eq_true (by (with_reducible assumption)); obtain ⟨ad269, e269, hx269_0⟩ := Kd.at_int HSz13_4 (ji9) p269 q269; cases e269; replace hx269_0 := pw_cell_below HB.out hx269_0; replace p269 := eq_true p269; replace q269 := eq_true q269))
       repeat (go_quiet (first | (go_at_call 77; (with_reducible refine (field_GF_in.calls g s0_0 s0_1 s0_2 s0_3 s0_4 s0_5 a1 t264 t265 t266 t267 w0 _ ?side1 ?side2 A3.out).mono ?_); (case side1 => repeat (first | (with_reducible first | exact HI0.out | apply IsS85.alloc | apply IsS85.drewN | apply IsS85.drew | apply IsS85.set_0 | apply IsS85.set_1 | apply IsS85.set_3) | exact HI0.out)); (case side2 => repeat (first | (with_reducible first | exact HB.out | apply below_alloc | apply pw_below_drewN | apply below_drew1 | refine below_set ?_ (IsS85.ge HI0.out)) | exact HB.out)); rintro e w12 ⟨rfl, hi, hb, hk⟩; have n0_ := Aside0.mk (KeepBut.trans (by repeat (first | (with_reducible first | exact HK.out | apply KeepBut.set_ | apply keep_drewN | apply keep_drew | apply keep_alloc) | exact HK.out)) hk (.inl rfl)); have n1_ := Aside0.mk (hb); have n2_ := Aside0.mk (hi); clear HK; clear HB; clear HI0; have HK := n0_; have HB := n1_; have HI0 := n2_; clear n0_ n1_ n2_; (try clear hb); (try clear hb2); (try clear hk); (try clear hi); obtain ⟨ASz13_2, cSz13_2, ASz13_4, cSz13_4, ASz13_5, cSz13_5, HGz13, hgz13, HSz13_2, HSz13_4, HSz13_5⟩ := HI0.out; have hcz13_0 := cellS85_0 HGz13; have hcz13_1 := cellS85_1 HGz13; have hcz13_2 := cellS85_2 HGz13; have hcz13_3 := cellS85_3 HGz13; have hcz13_4 := cellS85_4 HGz13; have hcz13_5 := cellS85_5 HGz13; have hfz13_0 := blk_frozen HGz13 0; have hfz13_1 := blk_frozen HGz13 1; have hfz13_3 := blk_frozen HGz13 3; clear HGz13 hgz13; have p268 : 0 ≤ (t264 : Int) := of_decide_eq_true (by first | (with_reducible assumption) | assumption); have q268 : t264 < (s0_5.length : Int) := of_decide_eq_true (by first | (with_reducible assumption) | assumption); obtain ⟨ad268, e268, hx268_0⟩ := Kd.at_int HSz13_5 t264 p268 q268; cases e268; replace hx268_0 := pw_cell_below HB.out hx268_0; replace p268 := eq_true p268; replace q268 := eq_true q268; have p269 : 0 ≤ ((ji9) : Int) := of_decide_eq_true (by first | (with_reducible assumption) | assumption); have q269 : (ji9) < (s0_4.length : Int) := of_decide_eq_true (by first | (with_reducible assumption) | assumption); obtain ⟨ad269, e269, hx269_0⟩ := Kd.at_int HSz13_4 (ji9) p269 q269; cases e269; replace hx269_0 := pw_cell_below HB.out hx269_0; replace p269 := eq_true p269; replace q269 := eq_true q269)); (go_wp2_with (fail)))
       go_ret2
       exact ⟨by rfl, by repeat ((with_reducible first | (exact HI0.out) | (apply IsS85.drewN))), by repeat ((with_reducible first | (exact HB.out) | (apply pw_below_drewN))), by repeat ((with_reducible first | (exact HK.out) | (apply keep_drewN)))⟩
      ·rw [if_neg c11] at H
       exact absurd H (by simp)
     ·rw [if_neg c10] at H
      exact absurd H (by simp)
   ·rw [if_neg c7] at H
    exact absurd H (by simp)
  ·rw [if_neg c6] at H
   exact absurd H (by simp)
end Go.Proofs.Ytiejggpmjapajaa.PA
end
section
namespace Go.Proofs.Ytiejggpmjapajaa.PA
open Go.RowKit Go.Proofs.YtiejggpmjapajaaW.PrintWords Go.Proofs.YtiejggpmjapajaaW.PrintLast Go.Proofs.YtiejggpmjapajaaW.PrintMore
attribute [local go_sem] max2_int min2_int max_two min_two max_three min_three max_four min_four
set_option linter.unusedVariables false
set_option linter.unusedSimpArgs false
mutual
def poly_DivMod.l0 : Nat → List Int → List Int → List Int → Int → Int → Int → Int → List Int → Int → List Int → List Int → Option (List Int × List Int × Int × Int × Int × Int)
 | 0, _, _, _, _, _, _, _, _, _, _, _ => none
 | k + 1, x2, x6, x7, x9, x11, x1000, x1001, x1002, x1003, x1004, x1005 => if x11 ≥ 0 then (if 0 ≤ (wrap64 ((wrap64 (x11 + (x2.length : Int))) - 1)) then (if (wrap64 ((wrap64 (x11 + (x2.length : Int))) - 1)) < (x7.length : Int) then ((field_GF_Mul.f x1000 x1001 x1002 x1003 x1004 x1005 (rd x7 (wrap64 ((wrap64 (x11 + (x2.length : Int))) - 1))) x9).bind fun bt298 => (if 0 ≤ x11 then (if x11 < (x6.length : Int) then (poly_DivMod.l1 k x2 (x6.set (x11 : Int).toNat bt298.1) x7 x9 x11 bt298.1 x2 (x2.length : Int) 0 bt298.2.1 bt298.2.2.1 x1002 bt298.2.2.2 x1004 x1005) else (none)) else (none))) else (none)) else (none)) else ((poly_trim.f k x6).bind fun t291 => ((poly_trim.f k x7).bind fun t294 => (some (t291, t294, 0, x1000, x1001, x1003))))
def poly_DivMod.l1 : Nat → List Int → List Int → List Int → Int → Int → Int → List Int → Int → Int → Int → Int → List Int → Int → List Int → List Int → Option (List Int × List Int × Int × Int × Int × Int)
 | 0, _, _, _, _, _, _, _, _, _, _, _, _, _, _, _ => none
 | k + 1, x2, x6, x7, x9, x11, x12, x67, x68, x69, x1000, x1001, x1002, x1003, x1004, x1005 => if x69 < x68 then (if 0 ≤ x69 then (if x69 < (x67.length : Int) then (if 0 ≤ (wrap64 (x11 + x69)) then (if (wrap64 (x11 + x69)) < (x7.length : Int) then ((field_GF_Mul.f x1000 x1001 x1002 x1003 x1004 x1005 x12 (rd x67 x69)).bind fun bt305 => ((field_GF_Sub.f k bt305.2.1 bt305.2.2.1 x1002 bt305.2.2.2 x1004 x1005 (rd x7 (wrap64 (x11 + x69))) bt305.1).bind fun bt309 => (poly_DivMod.l1 k x2 x6 (x7.set ((wrap64 (x11 + x69)) : Int).toNat bt309.1) x9 x11 x12 x67 x68 (wrap64 (x69 + 1)) bt309.2.1 bt309.2.2.1 x1002 bt309.2.2.2 x1004 x1005))) else (none)) else (none)) else (none)) else (none)) else (poly_DivMod.l0 k x2 x6 x7 x9 (wrap64 (x11 - 1)) x1000 x1001 x1002 x1003 x1004 x1005)
end
def poly_DivMod.f (k : Nat) (s0_0 : Int) (s0_1 : Int) (s0_2 : List Int) (s0_3 : Int) (s0_4 : List Int) (s0_5 : List Int) (l1 : List Int) (l2 : List Int) : Option (List Int × List Int × Int × Int × Int × Int) := (poly_Canon.f k s0_0 s0_1 s0_2 s0_3 s0_4 s0_5 l1).bind fun bt270 => ((poly_Canon.f k bt270.2.1 bt270.2.2.1 s0_2 bt270.2.2.2 s0_4 s0_5 l2).bind fun bt276 => (if (bt276.1.length : Int) = 0 then (some (([] : List Int), ([] : List Int), 7, bt276.2.1, bt276.2.2.1, bt276.2.2.2)) else (if 0 ≤ (wrap64 ((bt276.1.length : Int) - 1)) then (if (wrap64 ((bt276.1.length : Int) - 1)) < (bt276.1.length : Int) then ((field_GF_Inv.f bt276.2.1 bt276.2.2.1 s0_2 bt276.2.2.2 s0_4 s0_5 (rd bt276.1 (wrap64 ((bt276.1.length : Int) - 1)))).bind fun bt283 => (if 0 ≤ (mx 0 (wrap64 ((wrap64 ((bt270.1.length : Int) - (bt276.1.length : Int))) + 1))) then (if (mx 0 (wrap64 ((wrap64 ((bt270.1.length : Int) - (bt276.1.length : Int))) + 1)) : Int).toNat ≤ 35184372088832 then (poly_DivMod.l0 k bt276.1 (List.replicate (mx 0 (wrap64 ((wrap64 ((bt270.1.length : Int) - (bt276.1.length : Int))) + 1)) : Int).toNat 0) bt270.1 bt283.1 (wrap64 ((bt270.1.length : Int) - (bt276.1.length : Int))) bt283.2.2.1 bt283.2.2.2.1 s0_2 bt283.2.2.2.2 s0_4 s0_5) else (none)) else (none))) else (none)) else (none))))
def poly_DivMod.T14 : Bool × List (List Nat × List Nat) := (true, [([], []), ([], []), ([], []), ([1, 2], [1, 2]), ([], []), ([], []), ([], []), ([], []), ([6, 7], [6, 7]), ([5, 8], [5, 8]), ([9], [9]), ([], []), ([], []), ([], []), ([11, 12, 13], [11, 12, 13]), ([4, 10, 14, 14], [4, 10, 14]), ([0, 3, 0, 1, 2, 3, 4, 5, 6, 7, 8, 9, 10, 11, 12, 13, 14, 15], [0, 3]), ([16, 15, 15, 0, 1, 2, 3, 4, 5, 6, 7, 8, 9, 10, 11, 12, 13, 14, 15], [15, 16])])
def poly_DivMod.B14 : List Nat := [0, 0, 0, 6, 0, 0, 0, 0, 192, 480, 992, 0, 0, 0, 14336, 32752, 65535, 131071]
theorem poly_DivMod.tab14 : rtab .any (opsOf Try.f37 14) = poly_DivMod.T14 := by kernel_rfl
theorem poly_DivMod.bits14 : waitsOk poly_DivMod.T14.2 poly_DivMod.B14 = true := by kernel_rfl
set_option maxHeartbeats 8000000 in
set_option maxRecDepth 100000 in
theorem poly_DivMod.calls (k : Nat) (g : Nat) (s0_0 : Int) (s0_1 : Int) (s0_2 : List Int) (s0_3 : Int) (s0_4 : List Int) (s0_5 : List Int) (A1 : Option Addr) (c1 : Nat) (l1 : List Int) (A2 : Option Addr) (c2 : Nat) (l2 : List Int) (r1 : List Int) (r2 : List Int) (r3 : Int) (r4 : Int) (r5 : Int) (r6 : Int) (w0 w : World) (hI : IsS85 w0 w g s0_0 s0_1 s0_2 s0_3 s0_4 s0_5) (hB : Below w0.heap.size w0 w) (hr1 : Kd.C (Kd.int .i64) w A1 l1.length l1) (hc1 : l1.length ≤ c1) (hf1 : ∀ ad, A1 = some ad → 0 < l1.length → ad.block ≠ g) (hr2 : Kd.C (Kd.int .i64) w A2 l2.length l2) (hc2 : l2.length ≤ c2) (hf2 : ∀ ad, A2 = some ad → 0 < l2.length → ad.block ≠ g) (h : poly_DivMod.f k s0_0 s0_1 s0_2 s0_3 s0_4 s0_5 l1 l2 = some (r1, r2, r3, r4, r5, r6)) :
  Calls Try.prog 37 #[.pointer (some ⟨g, 0, none⟩), .slice A1 l1.length c1, .slice A2 l2.length c2] w fun e w' => ∃ v0_ v1_ : Value, e = .returned (.tuple #[v0_, v1_, .int .i64 r3]) ∧ Kd.R (Kd.int .i64) 3 w' w.heap.size (fun k_ => some k_ ≠ (v1_ : Value).ownBlock) v0_ r1 ∧ Kd.R (Kd.int .i64) 3 w' w.heap.size (fun k_ => some k_ ≠ (v0_ : Value).ownBlock) v1_ r2 ∧ IsS85 w0 w' g r4 r5 s0_2 r6 s0_4 s0_5 ∧ Below w0.heap.size w0 w' ∧ KeepBut w w' g none := by
 have HR1 := Aside0.mk hr1
 have HC1 := Aside0.mk hc1
 clear hr1 hc1
 have HR2 := Aside0.mk hr2
 have HC2 := Aside0.mk hc2
 clear hr2 hc2
 have HI0 := Aside0.mk hI
 have HK := Aside0.mk (KeepBut.refl w g none)
 have HL := Aside0.mk hB.size
 clear hI
 have HW0 := Aside0.mk hB.size
 have HB := Aside0.mk hB
 clear hB
 have H : ((poly_Canon.f k s0_0 s0_1 s0_2 s0_3 s0_4 s0_5 l1).bind fun bt270 => ((poly_Canon.f k bt270.2.1 bt270.2.2.1 s0_2 bt270.2.2.2 s0_4 s0_5 l2).bind fun bt276 => (if (bt276.1.length : Int) = 0 then (some (([] : List Int), ([] : List Int), 7, bt276.2.1, bt276.2.2.1, bt276.2.2.2)) else (if 0 ≤ (wrap64 ((bt276.1.length : Int) - 1)) then (if (wrap64 ((bt276.1.length : Int) - 1)) < (bt276.1.length : Int) then ((field_GF_Inv.f bt276.2.1 bt276.2.2.1 s0_2 bt276.2.2.2 s0_4 s0_5 (rd bt276.1 (wrap64 ((bt276.1.length : Int) - 1)))).bind fun bt283 => (if 0 ≤ (mx 0 (wrap64 ((wrap64 ((bt270.1.length : Int) - (bt276.1.length : Int))) + 1))) then (if (mx 0 (wrap64 ((wrap64 ((bt270.1.length : Int) - (bt276.1.length : Int))) + 1)) : Int).toNat ≤ 35184372088832 then (poly_DivMod.l0 k bt276.1 (List.replicate (mx 0 (wrap64 ((wrap64 ((bt270.1.length : Int) - (bt276.1.length : Int))) + 1)) : Int).toNat 0) bt270.1 bt283.1 (wrap64 ((bt270.1.length : Int) - (bt276.1.length : Int))) bt283.2.2.1 bt283.2.2.2.1 s0_2 bt283.2.2.2.2 s0_4 s0_5) else (none)) else (none))) else (none)) else (none))))) = some (r1, r2, r3, r4, r5, r6) := h
 clear h
 replace H := Option.bind_eq_some_iff.mp H
 obtain ⟨⟨t270, t273, t274, t275⟩, A40, H⟩ := H
 replace H : ((poly_Canon.f k t273 t274 s0_2 t275 s0_4 s0_5 l2).bind fun bt276 => (if (bt276.1.length : Int) = 0 then (some (([] : List Int), ([] : List Int), 7, bt276.2.1, bt276.2.2.1, bt276.2.2.2)) else (if 0 ≤ (wrap64 ((bt276.1.length : Int) - 1)) then (if (wrap64 ((bt276.1.length : Int) - 1)) < (bt276.1.length : Int) then ((field_GF_Inv.f bt276.2.1 bt276.2.2.1 s0_2 bt276.2.2.2 s0_4 s0_5 (rd bt276.1 (wrap64 ((bt276.1.length : Int) - 1)))).bind fun bt283 => (if 0 ≤ (mx 0 (wrap64 ((wrap64 ((t270.length : Int) - (bt276.1.length : Int))) + 1))) then (if (mx 0 (wrap64 ((wrap64 ((t270.length : Int) - (bt276.1.length : Int))) + 1)) : Int).toNat ≤ 35184372088832 then (poly_DivMod.l0 k bt276.1 (List.replicate (mx 0 (wrap64 ((wrap64 ((t270.length : Int) - (bt276.1.length : Int))) + 1)) : Int).toNat 0) t270 bt283.1 (wrap64 ((t270.length : Int) - (bt276.1.length : Int))) bt283.2.2.1 bt283.2.2.2.1 s0_2 bt283.2.2.2.2 s0_4 s0_5) else (none)) else (none))) else (none)) else (none)))) = some (r1, r2, r3, r4, r5, r6) := H
 have A4 := Aside0.mk A40
 clear A40
 replace H := Option.bind_eq_some_iff.mp H
 obtain ⟨⟨t276, t279, t280, t281⟩, A50, H⟩ := H
 replace H : (if (t276.length : Int) = 0 then (some (([] : List Int), ([] : List Int), 7, t279, t280, t281)) else (if 0 ≤ (wrap64 ((t276.length : Int) - 1)) then (if (wrap64 ((t276.length : Int) - 1)) < (t276.length : Int) then ((field_GF_Inv.f t279 t280 s0_2 t281 s0_4 s0_5 (rd t276 (wrap64 ((t276.length : Int) - 1)))).bind fun bt283 => (if 0 ≤ (mx 0 (wrap64 ((wrap64 ((t270.length : Int) - (t276.length : Int))) + 1))) then (if (mx 0 (wrap64 ((wrap64 ((t270.length : Int) - (t276.length : Int))) + 1)) : Int).toNat ≤ 35184372088832 then (poly_DivMod.l0 k t276 (List.replicate (mx 0 (wrap64 ((wrap64 ((t270.length : Int) - (t276.length : Int))) + 1)) : Int).toNat 0) t270 bt283.1 (wrap64 ((t270.length : Int) - (t276.length : Int))) bt283.2.2.1 bt283.2.2.2.1 s0_2 bt283.2.2.2.2 s0_4 s0_5) else (none)) else (none))) else (none)) else (none))) = some (r1, r2, r3, r4, r5, r6) := H
 have A5 := Aside0.mk A50
 clear A50
 by_cases c6 : (t276.length : Int) = 0
 ·rw [if_pos c6] at H
  have c6b0 : ((t276.length : Int) == 0) = true := beq_iff_eq.mpr c6
  have c6b1 : ((t276.length : Int) != 0) = false := bne_eq_false_iff_eq.mpr c6
  clear c6
  simp only [Option.some.injEq, Prod.mk.injEq] at H
  obtain ⟨rfl, rfl, rfl, rfl, rfl, rfl⟩ := H
  go_enter Try.func37, Try.ntmps37
  go_wp2_with (first | ((with_reducible refine gate_callee (f := 40) rfl ?_); refine goesL_ (some 17) rfl rfl Try.func40 (by kernel_rfl) rfl #[.pointer (some ⟨g, 0, none⟩), .slice A1 l1.length c1] rfl (by ((simp only [List.map_toArray, List.map_cons, List.map_nil])); (rfl)) ?_; (with_reducible refine (poly_Canon.calls k g s0_0 s0_1 s0_2 s0_3 s0_4 s0_5 _ _ l1 t270 t273 t274 t275 w0 _ ?side1 ?side2 ?side3 ?side4 ?side5 A4.out).mono ?_); (case side1 => repeat ((with_reducible (exact HI0.out)))); (case side2 => repeat ((with_reducible (exact HB.out)))); (case side3 => exact Kd.C_keep 0 HR1.out HK.out hf1); (case side4 => exact HC1.out); (case side5 => exact hf1); rintro e w7 ⟨v271, rfl, ho0, hi, hb, hk⟩; refine ⟨_, rfl, ?_⟩; have n0_ := Aside0.mk (Kd.R_lower ho0 (keep_size (w := w) (g := g) (row := none) HK.out)); have n1_ := Aside0.mk (KeepBut.trans HK.out hk (.inl rfl)); have n2_ := Aside0.mk (hb); have n3_ := Aside0.mk (hi); clear HK; clear HB; clear HI0; have HO272 := n0_; have HK := n1_; have HB := n2_; have HI0 := n3_; clear n0_ n1_ n2_ n3_; ((clear hb)); (skip); ((clear hk)); ((clear hi)); ((clear ho0))) | ((with_reducible refine gate_callee (f := 40) rfl ?_); refine goesL_ (some 20) rfl rfl Try.func40 (by kernel_rfl) rfl #[.pointer (some ⟨g, 0, none⟩), .slice A2 l2.length c2] rfl (by ((simp only [List.map_toArray, List.map_cons, List.map_nil])); (rfl)) ?_; (with_reducible refine (poly_Canon.calls k g t273 t274 s0_2 t275 s0_4 s0_5 _ _ l2 t276 t279 t280 t281 w0 _ ?side1 ?side2 ?side3 ?side4 ?side5 A5.out).mono ?_); (case side1 => repeat ((with_reducible (exact HI0.out)))); (case side2 => repeat ((with_reducible (exact HB.out)))); (case side3 => exact Kd.C_keep 0 HR2.out HK.out hf2); (case side4 => exact HC2.out); (case side5 => exact hf2); rintro e w8 ⟨v277, rfl, ho0, hi, hb, hk⟩; refine ⟨_, rfl, ?_⟩; have n0_ := Aside0.mk (Kd.R_mono (Kd.R_told (Kd.R_oldK (IsS85.apart (show IsS85 w0 _ g t273 t274 s0_2 t275 s0_4 s0_5 from by exact HI0.out) HO272.out (by decide)) hk) (Kd.R_base ho0)) (fun _ h_ => h_.1)); have n1_ := Aside0.mk (Kd.R_lower (Kd.R_new' ho0 (Kd.R_lt HO272.out)) (keep_size (w := w) (g := g) (row := none) HK.out)); have n2_ := Aside0.mk (KeepBut.trans HK.out hk (.inl rfl)); have n3_ := Aside0.mk (hb); have n4_ := Aside0.mk (hi); clear HO272; clear HK; clear HB; clear HI0; have HO272 := n0_; have HO278 := n1_; have HK := n2_; have HB := n3_; have HI0 := n4_; clear n0_ n1_ n2_ n3_ n4_; ((clear hb)); (skip); ((clear hk)); ((clear hi)); ((clear ho0)); obtain ⟨Ao9, co9, eo9⟩ := Kd.R_slice HO278.out; subst eo9))
  go_ret3
  exact ⟨_, _, by rfl, by (exact Kd.R_nil _ _ _ _ _), by (exact Kd.R_nil _ _ _ _ _), by exact HI0.out, by exact HB.out, by exact HK.out⟩
 ·rw [if_neg c6] at H
  have c6b0 : ((t276.length : Int) == 0) = false := beq_eq_false_iff_ne.mpr c6
  have c6b1 : ((t276.length : Int) != 0) = true := bne_iff_ne.mpr c6
  have c6b2 : ¬ (t276 = []) := fun h_ => c6 (by rw [h_]; rfl)
  obtain ⟨ji10, hji10⟩ : ∃ j_ : Int, (wrap64 ((t276.length : Int) - 1)) = j_ := ⟨_, rfl⟩
  replace H : (if 0 ≤ (ji10) then (if (ji10) < (t276.length : Int) then ((field_GF_Inv.f t279 t280 s0_2 t281 s0_4 s0_5 (rd t276 (ji10))).bind fun bt283 => (if 0 ≤ (mx 0 (wrap64 ((wrap64 ((t270.length : Int) - (t276.length : Int))) + 1))) then (if (mx 0 (wrap64 ((wrap64 ((t270.length : Int) - (t276.length : Int))) + 1)) : Int).toNat ≤ 35184372088832 then (poly_DivMod.l0 k t276 (List.replicate (mx 0 (wrap64 ((wrap64 ((t270.length : Int) - (t276.length : Int))) + 1)) : Int).toNat 0) t270 bt283.1 (wrap64 ((t270.length : Int) - (t276.length : Int))) bt283.2.2.1 bt283.2.2.2.1 s0_2 bt283.2.2.2.2 s0_4 s0_5) else (none)) else (none))) else (none)) else (none)) = some (r1, r2, r3, r4, r5, r6) := by (rw [hji10] at H; exact H)
  have hji10w : (IntKind.i64.wrap ((t276.length : Int) - 1)) = ji10 := (i64_w _).trans hji10
  by_cases c11 : 0 ≤ (ji10)
  ·rw [if_pos c11] at H
   have c11b0 : decide (0 ≤ (ji10)) = true := decide_eq_true c11
   clear c11
   by_cases c12 : (ji10) < (t276.length : Int)
   ·rw [if_pos c12] at H
    have c12b0 : decide ((ji10) < (t276.length : Int)) = true := decide_eq_true c12
    clear c12
    replace H := Option.bind_eq_some_iff.mp H
    obtain ⟨⟨t283, t284, t285, t286, t287⟩, A130, H⟩ := H
    replace H : (if 0 ≤ (mx 0 (wrap64 ((wrap64 ((t270.length : Int) - (t276.length : Int))) + 1))) then (if (mx 0 (wrap64 ((wrap64 ((t270.length : Int) - (t276.length : Int))) + 1)) : Int).toNat ≤ 35184372088832 then (poly_DivMod.l0 k t276 (List.replicate (mx 0 (wrap64 ((wrap64 ((t270.length : Int) - (t276.length : Int))) + 1)) : Int).toNat 0) t270 t283 (wrap64 ((t270.length : Int) - (t276.length : Int))) t285 t286 s0_2 t287 s0_4 s0_5) else (none)) else (none)) = some (r1, r2, r3, r4, r5, r6) := H
    have A13 := Aside0.mk A130
    clear A130
    obtain ⟨ji14, hji14⟩ : ∃ j_ : Int, (mx 0 (wrap64 ((wrap64 ((t270.length : Int) - (t276.length : Int))) + 1))) = j_ := ⟨_, rfl⟩
    replace H : (if 0 ≤ (ji14) then (if (ji14 : Int).toNat ≤ 35184372088832 then (poly_DivMod.l0 k t276 (List.replicate (ji14 : Int).toNat 0) t270 t283 (wrap64 ((t270.length : Int) - (t276.length : Int))) t285 t286 s0_2 t287 s0_4 s0_5) else (none)) else (none)) = some (r1, r2, r3, r4, r5, r6) := by (rw [hji14] at H; exact H)
    ((have hji14l : 0 ≤ ji14 := by (rw [← hji14]; unfold mx; (repeat' split) <;> omega)))
    ((have hji14m : 0 ≤ ji14 := by omega))
    have hji14_ : (if 0 < (wrap64 ((wrap64 ((t270.length : Int) - (t276.length : Int))) + 1)) then (wrap64 ((wrap64 ((t270.length : Int) - (t276.length : Int))) + 1)) else 0) = ji14 := hji14
    by_cases c15 : 0 ≤ (ji14)
    ·rw [if_pos c15] at H
     have c15b0 := eq_true c15
     have c15b1 : decide (0 ≤ (ji14)) = true := decide_eq_true c15
     clear c15
     by_cases c16 : (ji14 : Int).toNat ≤ 35184372088832
     ·rw [if_pos c16] at H
      have c16b0 := eq_true c16
      have c16b1 : decide ((ji14 : Int).toNat ≤ 35184372088832) = true := decide_eq_true c16
      clear c16
      obtain ⟨y288, hy288⟩ : ∃ y_ : List Int, y_ = (List.replicate (ji14 : Int).toNat 0) := ⟨_, rfl⟩
      replace H : (poly_DivMod.l0 k t276 y288 t270 t283 (wrap64 ((t270.length : Int) - (t276.length : Int))) t285 t286 s0_2 t287 s0_4 s0_5) = some (r1, r2, r3, r4, r5, r6) := by (rw [hy288]; with_reducible exact H)
      have Ny288 := Aside0.mk hy288
      clear hy288
      have H' := Aside0.mk H
      clear H
      go_enter Try.func37, Try.ntmps37
      go_wp2_with (first | ((with_reducible refine gate_callee (f := 40) rfl ?_); refine goesL_ (some 17) rfl rfl Try.func40 (by kernel_rfl) rfl #[.pointer (some ⟨g, 0, none⟩), .slice A1 l1.length c1] rfl (by ((simp only [List.map_toArray, List.map_cons, List.map_nil])); (rfl)) ?_; (with_reducible refine (poly_Canon.calls k g s0_0 s0_1 s0_2 s0_3 s0_4 s0_5 _ _ l1 t270 t273 t274 t275 w0 _ ?side1 ?side2 ?side3 ?side4 ?side5 A4.out).mono ?_); (case side1 => repeat ((with_reducible (exact HI0.out)))); (case side2 => repeat ((with_reducible (exact HB.out)))); (case side3 => exact Kd.C_keep 0 HR1.out HK.out hf1); (case side4 => exact HC1.out); (case side5 => exact hf1); rintro e w17 ⟨v271, rfl, ho0, hi, hb, hk⟩; refine ⟨_, rfl, ?_⟩; have n0_ := Aside0.mk (Kd.R_lower ho0 (keep_size (w := w) (g := g) (row := none) HK.out)); have n1_ := Aside0.mk (KeepBut.trans HK.out hk (.inl rfl)); have n2_ := Aside0.mk (hb); have n3_ := Aside0.mk (hi); clear HK; clear HB; clear HI0; have HO272 := n0_; have HK := n1_; have HB := n2_; have HI0 := n3_; clear n0_ n1_ n2_ n3_; ((clear hb)); (skip); ((clear hk)); ((clear hi)); ((clear ho0))) | ((with_reducible refine gate_callee (f := 40) rfl ?_); refine goesL_ (some 20) rfl rfl Try.func40 (by kernel_rfl) rfl #[.pointer (some ⟨g, 0, none⟩), .slice A2 l2.length c2] rfl (by ((simp only [List.map_toArray, List.map_cons, List.map_nil])); (rfl)) ?_; (with_reducible refine (poly_Canon.calls k g t273 t274 s0_2 t275 s0_4 s0_5 _ _ l2 t276 t279 t280 t281 w0 _ ?side1 ?side2 ?side3 ?side4 ?side5 A5.out).mono ?_); (case side1 => repeat ((with_reducible (exact HI0.out)))); (case side2 => repeat ((with_reducible (exact HB.out)))); (case side3 => exact Kd.C_keep 0 HR2.out HK.out hf2); (case side4 => exact HC2.out); (case side5 => exact hf2); rintro e w18 ⟨v277, rfl, ho0, hi, hb, hk⟩; refine ⟨_, rfl, ?_⟩; have n0_ := Aside0.mk (Kd.R_mono (Kd.R_told (Kd.R_oldK (IsS85.apart (show IsS85 w0 _ g t273 t274 s0_2 t275 s0_4 s0_5 from by exact HI0.out) HO272.out (by decide)) hk) (Kd.R_base ho0)) (fun _ h_ => h_.1)); have n1_ := Aside0.mk (Kd.R_lower (Kd.R_new' ho0 (Kd.R_lt HO272.out)) (keep_size (w := w) (g := g) (row := none) HK.out)); have n2_ := Aside0.mk (KeepBut.trans HK.out hk (.inl rfl)); have n3_ := Aside0.mk (hb); have n4_ := Aside0.mk (hi); clear HO272; clear HK; clear HB; clear HI0; have HO272 := n0_; have HO278 := n1_; have HK := n2_; have HB := n3_; have HI0 := n4_; clear n0_ n1_ n2_ n3_ n4_; ((clear hb)); (skip); ((clear hk)); ((clear hi)); ((clear ho0)); obtain ⟨Ao19, co19, eo19⟩ := Kd.R_slice HO278.out; subst eo19; have p282 : 0 ≤ ((ji10) : Int) := of_decide_eq_true (by (with_reducible assumption)); have q282 : (ji10) < (t276.length : Int) := of_decide_eq_true (by (with_reducible assumption)); obtain ⟨ad282, e282, hx282_0⟩ := Kd.at_int (Kd.R_reads' HO278.out).2.2 (ji10) p282 q282; cases e282; replace p282 := eq_true p282; replace q282 := eq_true q282) | ((with_reducible refine gate_callee (f := 62) rfl ?_); refine goesL_ (some 32) rfl rfl Try.func62 (by kernel_rfl) rfl #[.pointer (some ⟨g, 0, none⟩), .int .i64 (rd t276 (ji10))] rfl (by ((simp only [List.map_toArray, List.map_cons, List.map_nil])); (rfl)) ?_; (with_reducible refine (field_GF_Inv.calls g t279 t280 s0_2 t281 s0_4 s0_5 (rd t276 (ji10)) t283 t284 t285 t286 t287 w0 _ ?side1 ?side2 A13.out).mono ?_); (case side1 => repeat ((with_reducible (exact HI0.out)))); (case side2 => repeat ((with_reducible (exact HB.out)))); rintro e w20 ⟨rfl, hi, hb, hk⟩; refine ⟨_, rfl, ?_⟩; have n0_ := Aside0.mk (Kd.R_mono (Kd.R_keep (IsS85.apart (show IsS85 w0 _ g t279 t280 s0_2 t281 s0_4 s0_5 from by exact HI0.out) HO272.out (by decide)) hk (fun _ h => h.2)) (fun _ h => h.1)); have n1_ := Aside0.mk (Kd.R_mono (Kd.R_keep (IsS85.apart (show IsS85 w0 _ g t279 t280 s0_2 t281 s0_4 s0_5 from by exact HI0.out) HO278.out (by decide)) hk (fun _ h => h.2)) (fun _ h => h.1)); have n2_ := Aside0.mk (KeepBut.trans HK.out hk (.inl rfl)); have n3_ := Aside0.mk (hb); have n4_ := Aside0.mk (hi); clear HO272; clear HO278; clear HK; clear HB; clear HI0; have HO272 := n0_; have HO278 := n1_; have HK := n2_; have HB := n3_; have HI0 := n4_; clear n0_ n1_ n2_ n3_ n4_; ((clear hb)); (skip); ((clear hk)); ((clear hi)); obtain ⟨Ao21, co21, eo21⟩ := Kd.R_slice HO272.out; subst eo21) | ((with_reducible refine gate_dst (N := 42) rfl ?_); refine Kd.R_make (Kd.int .i64) _ 3 rfl (N := 42) rfl 22 _ _ rfl ji14 rfl rfl Try.underlying22 (.int .i64 0) 8 info3 rfl (by decide) (by omega) 0 (ok := fun _ => True) (okp := fun _ => True) rfl (fun _ hk => hk) trivial (of_decide_eq_true (by (with_reducible assumption))) (Nat.le_trans (Nat.mul_le_mul_right _ (of_decide_eq_true (by (with_reducible assumption)) : ji14.toNat ≤ 35184372088832)) (by omega)) (Below.refl _ _) (Nat.le_refl _) ?_; intro v289 w22 ho23 hb hg_ hnew_; clear hg_ hnew_; ((rw [← Ny288.out] at ho23)); have n0_ := Aside0.mk (Kd.R_elder' HO272.out (Kd.R_base ho23) hb); have n1_ := Aside0.mk (Kd.R_elder' HO278.out (Kd.R_base ho23) hb); have n2_ := Aside0.mk (Kd.R_lower (Kd.R_new' (Kd.R_new' ho23 (Kd.R_lt HO272.out)) (Kd.R_lt HO278.out)) (keep_size (w := w) (g := g) (row := none) HK.out)); have n3_ := Aside0.mk (IsS85.below HI0.out hb); have n4_ := Aside0.mk (KeepBut.trans HK.out (KeepBut.of_below hb g none) (.inl rfl)); have n5_ := Aside0.mk (below_step HB.out hb); clear HO272; clear HO278; clear HI0; clear HK; clear HB; have HO272 := n0_; have HO278 := n1_; have HO290 := n2_; have HI0 := n3_; have HK := n4_; have HB := n5_; clear n0_ n1_ n2_ n3_ n4_ n5_; clear hb ho23))
      go_loopg [11] k (fun kq v11 w' => ∃ (x6_1 : List Int) (x7_1 : List Int) (x11_1 : Int) (x1000_1 : Int) (x1001_1 : Int) (x1003_1 : Int), v11 = .int .i64 x11_1 ∧ Aside0 (poly_DivMod.l0 kq t276 x6_1 x7_1 t283 x11_1 x1000_1 x1001_1 s0_2 x1003_1 s0_4 s0_5 = some (r1, r2, r3, r4, r5, r6)) ∧ Aside0 (kq ≤ k) ∧ Aside0 (Kd.R (Kd.int .i64) 3 w' w.heap.size (fun k_ => some k_ ≠ (v289 : Value).ownBlock ∧ some k_ ≠ ((.slice Ao21 t270.length co21) : Value).ownBlock) (.slice (some ad282) t276.length co19) t276) ∧ Aside0 (Kd.R (Kd.int .i64) 3 w' w.heap.size (fun k_ => some k_ ≠ ((.slice (some ad282) t276.length co19) : Value).ownBlock ∧ some k_ ≠ ((.slice Ao21 t270.length co21) : Value).ownBlock) v289 x6_1) ∧ Aside0 (Kd.R (Kd.int .i64) 3 w' w.heap.size (fun k_ => some k_ ≠ ((.slice (some ad282) t276.length co19) : Value).ownBlock ∧ some k_ ≠ (v289 : Value).ownBlock) (.slice Ao21 t270.length co21) x7_1) ∧ Aside0 (IsS85 w0 w' g x1000_1 x1001_1 s0_2 x1003_1 s0_4 s0_5) ∧ Aside0 (KeepBut w w' g none) ∧ Aside0 (Below w0.heap.size w0 w'))
      case atStart => exact ⟨(y288), (t270), (wrap64 ((t270.length : Int) - (t276.length : Int))), (t285), (t286), (t287), (by rfl), H', ⟨Nat.le_refl _⟩, ⟨by exact Kd.R_mono HO278.out (fun _ hk => ⟨hk.2, hk.1.2⟩)⟩, ⟨by exact Kd.R_mono HO290.out (fun _ hk => ⟨hk.2, hk.1.2⟩)⟩, ⟨by exact Kd.R_mono HO272.out (fun _ hk => ⟨hk.1.2, hk.2⟩)⟩, ⟨by exact HI0.out⟩, ⟨by exact HK.out⟩, ⟨by exact HB.out⟩⟩
      case round =>
       clear H' c6 c6b0 c6b1 c6b2 c11b0 c12b0 c15b0 c15b1 c16b0 c16b1 hx282_0 p282 q282
       obtain ⟨x6_1, x7_1, x11_1, x1000_1, x1001_1, x1003_1, rfl, HA, HK1, HO_2, HO_6, HO_7, HI0, HK, HB⟩ := hrel
       have hl7_1 := (Kd.R_reads' HO_7.out).1
       rw [hl7_1] at HO_7
       ((simp only [hl7_1]))
       ((simp only [hl7_1] at HO_2))
       ((simp only [hl7_1] at HO_6))
       cases gk with
       | zero => exact absurd HA.out (by simp [poly_DivMod.l0])
       | succ k1 =>
        have H := HA.out
        clear HA
        simp only [poly_DivMod.l0] at H
        by_cases c24 : x11_1 ≥ 0
        ·rw [if_pos c24] at H
         have c24b0 : decide (0 ≤ x11_1) = true := decide_eq_true c24
         clear c24
         obtain ⟨ji25, hji25⟩ : ∃ j_ : Int, (wrap64 ((wrap64 (x11_1 + (t276.length : Int))) - 1)) = j_ := ⟨_, rfl⟩
         replace H : (if 0 ≤ (ji25) then (if (ji25) < (x7_1.length : Int) then ((field_GF_Mul.f x1000_1 x1001_1 s0_2 x1003_1 s0_4 s0_5 (rd x7_1 (ji25)) t283).bind fun bt298 => (if 0 ≤ x11_1 then (if x11_1 < (x6_1.length : Int) then (poly_DivMod.l1 k1 t276 (x6_1.set (x11_1 : Int).toNat bt298.1) x7_1 t283 x11_1 bt298.1 t276 (t276.length : Int) 0 bt298.2.1 bt298.2.2.1 s0_2 bt298.2.2.2 s0_4 s0_5) else (none)) else (none))) else (none)) else (none)) = some (r1, r2, r3, r4, r5, r6) := by (rw [hji25] at H; exact H)
         have hji25w : (IntKind.i64.wrap ((wrap64 (x11_1 + (t276.length : Int))) - 1)) = ji25 := (i64_w _).trans hji25
         by_cases c26 : 0 ≤ (ji25)
         ·rw [if_pos c26] at H
          have c26b0 : decide (0 ≤ (ji25)) = true := decide_eq_true c26
          clear c26
          by_cases c27 : (ji25) < (x7_1.length : Int)
          ·rw [if_pos c27] at H
           have c27b0 : decide ((ji25) < (x7_1.length : Int)) = true := decide_eq_true c27
           clear c27
           replace H := Option.bind_eq_some_iff.mp H
           obtain ⟨⟨t298, t299, t300, t301⟩, A280, H⟩ := H
           replace H : (if 0 ≤ x11_1 then (if x11_1 < (x6_1.length : Int) then (poly_DivMod.l1 k1 t276 (x6_1.set (x11_1 : Int).toNat t298) x7_1 t283 x11_1 t298 t276 (t276.length : Int) 0 t299 t300 s0_2 t301 s0_4 s0_5) else (none)) else (none)) = some (r1, r2, r3, r4, r5, r6) := H
           have A28 := Aside0.mk A280
           clear A280
           by_cases c29 : 0 ≤ x11_1
           ·rw [if_pos c29] at H
            have c29b0 : decide (0 ≤ x11_1) = true := decide_eq_true c29
            clear c29
            by_cases c30 : x11_1 < (x6_1.length : Int)
            ·rw [if_pos c30] at H
             have c30b0 : decide (x11_1 < (x6_1.length : Int)) = true := decide_eq_true c30
             clear c30
             obtain ⟨y302, hy302⟩ : ∃ y_ : List Int, y_ = (x6_1.set (x11_1 : Int).toNat t298) := ⟨_, rfl⟩
             replace H : (poly_DivMod.l1 k1 t276 y302 x7_1 t283 x11_1 t298 t276 (t276.length : Int) 0 t299 t300 s0_2 t301 s0_4 s0_5) = some (r1, r2, r3, r4, r5, r6) := by (rw [hy302]; with_reducible exact H)
             have Ny302 := Aside0.mk hy302
             clear hy302
             have H' := Aside0.mk H
             clear H
             have p297 : 0 ≤ ((ji25) : Int) := of_decide_eq_true (by (with_reducible assumption))
             have q297 : (ji25) < (x7_1.length : Int) := of_decide_eq_true (by (with_reducible assumption))
             obtain ⟨ad297, e297, hx297_0⟩ := Kd.at_int (Kd.R_reads' HO_7.out).2.2 (ji25) p297 q297
             cases e297
             replace p297 := eq_true p297
             replace q297 := eq_true q297
             go_wp2_with (first | ((with_reducible refine gate_callee (f := 49) rfl ?_); refine goesL_ (some 62) rfl rfl Try.func49 (by kernel_rfl) rfl #[.pointer (some ⟨g, 0, none⟩), .int .i64 (rd x7_1 (ji25)), .int .i64 t283] rfl (by ((simp only [List.map_toArray, List.map_cons, List.map_nil])); (rfl)) ?_; (with_reducible refine (field_GF_Mul.calls g x1000_1 x1001_1 s0_2 x1003_1 s0_4 s0_5 (rd x7_1 (ji25)) t283 t298 t299 t300 t301 w0 _ ?side1 ?side2 A28.out).mono ?_); (case side1 => repeat ((with_reducible (exact HI0.out)))); (case side2 => repeat ((with_reducible (exact HB.out)))); rintro e w32 ⟨rfl, hi, hb, hk⟩; refine ⟨_, rfl, ?_⟩; have n0_ := Aside0.mk (Kd.R_mono (Kd.R_keep (IsS85.apart (show IsS85 w0 _ g x1000_1 x1001_1 s0_2 x1003_1 s0_4 s0_5 from by exact HI0.out) HO_2.out (by decide)) hk (fun _ h => h.2)) (fun _ h => h.1)); have n1_ := Aside0.mk (Kd.R_mono (Kd.R_keep (IsS85.apart (show IsS85 w0 _ g x1000_1 x1001_1 s0_2 x1003_1 s0_4 s0_5 from by exact HI0.out) HO_6.out (by decide)) hk (fun _ h => h.2)) (fun _ h => h.1)); have n2_ := Aside0.mk (Kd.R_mono (Kd.R_keep (IsS85.apart (show IsS85 w0 _ g x1000_1 x1001_1 s0_2 x1003_1 s0_4 s0_5 from by exact HI0.out) HO_7.out (by decide)) hk (fun _ h => h.2)) (fun _ h => h.1)); have n3_ := Aside0.mk (KeepBut.trans HK.out hk (.inl rfl)); have n4_ := Aside0.mk (hb); have n5_ := Aside0.mk (hi); clear HO_2; clear HO_6; clear HO_7; clear HK; clear HB; clear HI0; have HO_2 := n0_; have HO_6 := n1_; have HO_7 := n2_; have HK := n3_; have HB := n4_; have HI0 := n5_; clear n0_ n1_ n2_ n3_ n4_ n5_; ((clear hb)); (skip); ((clear hk)); ((clear hi)); have p31 : 0 ≤ (x11_1 : Int) := of_decide_eq_true (by (with_reducible assumption)); have q31 : (x11_1 : Int) < ((x6_1.length : Int) : Int) := of_decide_eq_true (by (with_reducible assumption)); obtain ⟨go31, co31, eo31, gb31, gl31, cl31, HG31⟩ := Kd.R_form HO_6.out (by omega); ((cases eo31)); have GB31 := Aside0.mk gb31; have GG31 := Aside0.mk HG31; clear gb31 gl31 HG31; obtain ⟨hx31_0, hf31_0⟩ := Kd.R_celln 0 HO_6.out (x11_1 : Int) p31 q31; replace p31 := eq_true p31; replace q31 := eq_true q31; obtain ⟨hy33_, hz33_⟩ := Kd.R_celln 0 HO_6.out (x11_1 : Int) (of_decide_eq_true (by (with_reducible assumption))) (of_decide_eq_true (by (with_reducible assumption))); have HP33 := Kd.R_putg HO_6.out (x11_1 : Int) t298) | ((with_reducible refine gate_store (t := 3) (p := 66) rfl ?_); refine store_event (t := 3) (p := 66) (v := ?vo_w34) (w1 := (w32.setCell ⟨go31, (x11_1 : Int).toNat, none⟩ (.int .i64 t298))) ?hg ?ho ?hn ?hr ?_; (case ho => rfl); (case hg => rfl); (case hn => rfl); (case hr => (go_simp; done)); intro w34 hw; have hg : w32.grownBy w34 (some go31) := (by rw [hw]; exact HP33.2); have hp_ : Kd.R (Kd.int .i64) 3 w34 w.heap.size (fun k_ => some k_ ≠ (.slice (some ad282) t276.length co19 : Value).ownBlock ∧ some k_ ≠ (.slice (some ad297) x7_1.length co21 : Value).ownBlock) (.slice (some ⟨go31, 0, none⟩) x6_1.length co31) y302 := (by rw [hw, Ny302.out]; exact HP33.1); clear HP33; have n0_ := Aside0.mk (Kd.R_after (v := (.slice (some ⟨go31, 0, none⟩) x6_1.length co31)) (v1 := (.slice (some ⟨go31, 0, none⟩) x6_1.length co31)) (ok := (fun k_ => some k_ ≠ (.slice (some ad297) x7_1.length co21 : Value).ownBlock)) (by exact Kd.R_mono HO_2.out (fun _ hk => ⟨hk.2, hk.1⟩)) hg (.inl rfl)); have n1_ := Aside0.mk (hp_); have n2_ := Aside0.mk (Kd.R_after (v := (.slice (some ⟨go31, 0, none⟩) x6_1.length co31)) (v1 := (.slice (some ⟨go31, 0, none⟩) x6_1.length co31)) (ok := (fun k_ => some k_ ≠ (.slice (some ad282) t276.length co19 : Value).ownBlock)) HO_7.out hg (.inl rfl)); have n3_ := Aside0.mk (IsS85.grown HI0.out hg (IsS85.own_ne HI0.out HO_6.out (by decide))); have n4_ := Aside0.mk ((by rw [hw]; exact below_set (HB.out) (Nat.le_trans HL.out GB31.out) : Below w0.heap.size w0 w34)); have n5_ := Aside0.mk (KeepBut.trans HK.out (KeepBut.of_grown hg g) (Kd.R_base2 HO_6.out)); clear HO_2; clear HO_6; clear HO_7; clear HI0; clear HB; clear HK; have HO_2 := n0_; have HO_6 := n1_; have HO_7 := n2_; have HI0 := n3_; have HB := n4_; have HK := n5_; clear n0_ n1_ n2_ n3_ n4_ n5_; clear hg hw hp_))
             go_loopg [69] k1 (fun kq v69 w' => ∃ (x7_2 : List Int) (x69_2 : Int) (x1000_2 : Int) (x1001_2 : Int) (x1003_2 : Int), v69 = .int .i64 x69_2 ∧ Aside0 (poly_DivMod.l1 kq t276 y302 x7_2 t283 x11_1 t298 t276 (t276.length : Int) x69_2 x1000_2 x1001_2 s0_2 x1003_2 s0_4 s0_5 = some (r1, r2, r3, r4, r5, r6)) ∧ Aside0 (kq ≤ k1) ∧ Aside0 (Kd.R (Kd.int .i64) 3 w' w.heap.size (fun k_ => some k_ ≠ ((.slice (some ⟨go31, 0, none⟩) x6_1.length co31) : Value).ownBlock ∧ some k_ ≠ ((.slice (some ad297) x7_1.length co21) : Value).ownBlock) (.slice (some ad282) t276.length co19) t276) ∧ Aside0 (Kd.R (Kd.int .i64) 3 w' w.heap.size (fun k_ => some k_ ≠ ((.slice (some ad282) t276.length co19) : Value).ownBlock ∧ some k_ ≠ ((.slice (some ad297) x7_1.length co21) : Value).ownBlock ∧ some k_ ≠ ((.slice (some ad282) t276.length co19) : Value).ownBlock) (.slice (some ⟨go31, 0, none⟩) x6_1.length co31) y302) ∧ Aside0 (Kd.R (Kd.int .i64) 3 w' w.heap.size (fun k_ => some k_ ≠ ((.slice (some ad282) t276.length co19) : Value).ownBlock ∧ some k_ ≠ ((.slice (some ⟨go31, 0, none⟩) x6_1.length co31) : Value).ownBlock ∧ some k_ ≠ ((.slice (some ad282) t276.length co19) : Value).ownBlock) (.slice (some ad297) x7_1.length co21) x7_2) ∧ Aside0 (Kd.R (Kd.int .i64) 3 w' w.heap.size (fun k_ => some k_ ≠ ((.slice (some ⟨go31, 0, none⟩) x6_1.length co31) : Value).ownBlock ∧ some k_ ≠ ((.slice (some ad297) x7_1.length co21) : Value).ownBlock) (.slice (some ad282) t276.length co19) t276) ∧ Aside0 (IsS85 w0 w' g x1000_2 x1001_2 s0_2 x1003_2 s0_4 s0_5) ∧ Aside0 (KeepBut w w' g none) ∧ Aside0 (Below w0.heap.size w0 w'))
             case atStart => exact ⟨(x7_1), (0), (t299), (t300), (t301), (by rfl), H', ⟨Nat.le_refl _⟩, ⟨by (skip); (with_reducible repeat (fail)); exact Kd.R_mono HO_2.out (fun _ hk => ⟨hk.2, hk.1⟩)⟩, ⟨by (skip); (with_reducible repeat (fail)); exact Kd.R_mono HO_6.out (fun _ hk => ⟨hk.1, ⟨hk.2, hk.1⟩⟩)⟩, ⟨by (skip); (with_reducible repeat (fail)); exact Kd.R_mono HO_7.out (fun _ hk => ⟨hk.1, ⟨hk.2, hk.1⟩⟩)⟩, ⟨by (skip); (with_reducible repeat (fail)); exact Kd.R_mono HO_2.out (fun _ hk => ⟨hk.2, hk.1⟩)⟩, ⟨by exact HI0.out⟩, ⟨by exact HK.out⟩, ⟨by exact HB.out⟩⟩
             case round =>
              clear H' c24b0 c26b0 c27b0 c29b0 c30b0 p31 q31 hx297_0 hx31_0 p297 q297
              obtain ⟨x7_2, x69_2, x1000_2, x1001_2, x1003_2, rfl, HA, HK2, HO_2, HO_6, HO_7, HO_67, HI0, HK, HB⟩ := hrel
              have hl6_2 := (Kd.R_reads' HO_6.out).1
              rw [hl6_2] at HO_6
              ((simp only [hl6_2]))
              ((simp only [hl6_2] at HO_2))
              ((simp only [hl6_2] at HO_7))
              ((simp only [hl6_2] at HO_67))
              have hl7_2 := (Kd.R_reads' HO_7.out).1
              rw [hl7_2] at HO_7
              ((simp only [hl7_2]))
              ((simp only [hl7_2] at HO_2))
              ((simp only [hl7_2] at HO_6))
              ((simp only [hl7_2] at HO_67))
              cases gk with
              | zero => exact absurd HA.out (by simp [poly_DivMod.l1])
              | succ k2 =>
               have H := HA.out
               clear HA
               simp only [poly_DivMod.l1] at H
               by_cases c35 : x69_2 < (t276.length : Int)
               ·rw [if_pos c35] at H
                have c35b0 : decide (x69_2 < (t276.length : Int)) = true := decide_eq_true c35
                clear c35
                by_cases c36 : 0 ≤ x69_2
                ·rw [if_pos c36] at H
                 have c36b0 : decide (0 ≤ x69_2) = true := decide_eq_true c36
                 clear c36
                 by_cases c37 : x69_2 < (t276.length : Int)
                 ·rw [if_pos c37] at H
                  have c37b0 : decide (x69_2 < (t276.length : Int)) = true := decide_eq_true c37
                  clear c37
                  obtain ⟨ji38, hji38⟩ : ∃ j_ : Int, (wrap64 (x11_1 + x69_2)) = j_ := ⟨_, rfl⟩
                  replace H : (if 0 ≤ (ji38) then (if (ji38) < (x7_2.length : Int) then ((field_GF_Mul.f x1000_2 x1001_2 s0_2 x1003_2 s0_4 s0_5 t298 (rd t276 x69_2)).bind fun bt305 => ((field_GF_Sub.f k2 bt305.2.1 bt305.2.2.1 s0_2 bt305.2.2.2 s0_4 s0_5 (rd x7_2 (ji38)) bt305.1).bind fun bt309 => (poly_DivMod.l1 k2 t276 y302 (x7_2.set ((ji38) : Int).toNat bt309.1) t283 x11_1 t298 t276 (t276.length : Int) (wrap64 (x69_2 + 1)) bt309.2.1 bt309.2.2.1 s0_2 bt309.2.2.2 s0_4 s0_5))) else (none)) else (none)) = some (r1, r2, r3, r4, r5, r6) := by (rw [hji38] at H; exact H)
                  have hji38w : (IntKind.i64.wrap (x11_1 + x69_2)) = ji38 := (i64_w _).trans hji38
                  by_cases c39 : 0 ≤ (ji38)
                  ·rw [if_pos c39] at H
                   have c39b0 : decide (0 ≤ (ji38)) = true := decide_eq_true c39
                   clear c39
                   by_cases c40 : (ji38) < (x7_2.length : Int)
                   ·rw [if_pos c40] at H
                    have c40b0 : decide ((ji38) < (x7_2.length : Int)) = true := decide_eq_true c40
                    clear c40
                    replace H := Option.bind_eq_some_iff.mp H
                    obtain ⟨⟨t305, t306, t307, t308⟩, A410, H⟩ := H
                    replace H : ((field_GF_Sub.f k2 t306 t307 s0_2 t308 s0_4 s0_5 (rd x7_2 (ji38)) t305).bind fun bt309 => (poly_DivMod.l1 k2 t276 y302 (x7_2.set ((ji38) : Int).toNat bt309.1) t283 x11_1 t298 t276 (t276.length : Int) (wrap64 (x69_2 + 1)) bt309.2.1 bt309.2.2.1 s0_2 bt309.2.2.2 s0_4 s0_5)) = some (r1, r2, r3, r4, r5, r6) := H
                    have A41 := Aside0.mk A410
                    clear A410
                    replace H := Option.bind_eq_some_iff.mp H
                    obtain ⟨⟨t309, t310, t311, t312⟩, A420, H⟩ := H
                    replace H : (poly_DivMod.l1 k2 t276 y302 (x7_2.set ((ji38) : Int).toNat t309) t283 x11_1 t298 t276 (t276.length : Int) (wrap64 (x69_2 + 1)) t310 t311 s0_2 t312 s0_4 s0_5) = some (r1, r2, r3, r4, r5, r6) := H
                    have A42 := Aside0.mk A420
                    clear A420
                    obtain ⟨y313, hy313⟩ : ∃ y_ : List Int, y_ = (x7_2.set ((ji38) : Int).toNat t309) := ⟨_, rfl⟩
                    replace H : (poly_DivMod.l1 k2 t276 y302 y313 t283 x11_1 t298 t276 (t276.length : Int) (wrap64 (x69_2 + 1)) t310 t311 s0_2 t312 s0_4 s0_5) = some (r1, r2, r3, r4, r5, r6) := by (rw [hy313]; with_reducible exact H)
                    have Ny313 := Aside0.mk hy313
                    clear hy313
                    have H' := Aside0.mk H
                    clear H
                    have p303 : 0 ≤ (x69_2 : Int) := of_decide_eq_true (by (with_reducible assumption))
                    have q303 : x69_2 < (t276.length : Int) := of_decide_eq_true (by (with_reducible assumption))
                    obtain ⟨ad303, e303, hx303_0⟩ := Kd.at_int (Kd.R_reads' HO_67.out).2.2 x69_2 p303 q303
                    obtain rfl : ad282 = ad303 := (by injection e303)
                    replace p303 := eq_true p303
                    replace q303 := eq_true q303
                    (go_wp2)
                    have n0_ := Aside0.mk (Kd.R_drew HO_2.out)
                    have n1_ := Aside0.mk (Kd.R_drew HO_6.out)
                    have n2_ := Aside0.mk (Kd.R_drew HO_7.out)
                    have n3_ := Aside0.mk (Kd.R_drew HO_67.out)
                    have n4_ := Aside0.mk (IsS85.drew HI0.out)
                    have n5_ := Aside0.mk (keep_drew HK.out)
                    have n6_ := Aside0.mk (below_drew1 HB.out)
                    clear HO_2 HO_6 HO_7 HO_67 HI0 HK HB
                    have HO_2 := n0_
                    have HO_6 := n1_
                    have HO_7 := n2_
                    have HO_67 := n3_
                    have HI0 := n4_
                    have HK := n5_
                    have HB := n6_
                    clear n0_ n1_ n2_ n3_ n4_ n5_ n6_
                    have p304 : 0 ≤ ((ji38) : Int) := of_decide_eq_true (by (with_reducible assumption))
                    have q304 : (ji38) < (x7_2.length : Int) := of_decide_eq_true (by (with_reducible assumption))
                    obtain ⟨ad304, e304, hx304_0⟩ := Kd.at_int (Kd.R_reads' HO_7.out).2.2 (ji38) p304 q304
                    obtain rfl : ad297 = ad304 := (by injection e304)
                    replace p304 := eq_true p304
                    replace q304 := eq_true q304
                    refine start_ (n := 18) (S := fun w' => w'.cell? (ad297.add ((ji38)).toNat) = some (.int .i64 (rd x7_2 (ji38)))) (ds := [17]) (bm 18 0) (by kernel_rfl) rfl rfl (hx304_0) (fun hHeld => ?_); refine with_tabW poly_DivMod.tab14 poly_DivMod.bits14 (fun HT_ HW_ => ?_)
                    generalize wr.drew = w44 at HO_2 HO_6 HO_7 HO_67 HI0 HK HB hx304_0 hHeld ⊢
                    refine pure_ (i := 0) (N := some 74) (v := ?_) (a' := ?_) (bm 18 1) rfl rfl (any_of HT_.out (by kernel_rfl)) (fun _ _ _ h => h) (Or.inl ⟨by rfl, ?_⟩) ?_ ?_;rotate_left;(intro w';go_simp;with_reducible rfl);rotate_left;(simp only [ps_];rfl)
                    refine pure_ (i := 1) (N := some 75) (v := ?_) (a' := ?_) (bm 18 3) rfl rfl (any_of HT_.out (by kernel_rfl)) (fun _ _ _ h => h) (Or.inl ⟨by rfl, ?_⟩) ?_ ?_;rotate_left;(intro w';go_simp;with_reducible rfl);rotate_left;(simp only [ps_];rfl)
                    refine pure_ (i := 2) (N := some 76) (v := ?_) (a' := ?_) (bm 18 7) rfl rfl (any_of HT_.out (by kernel_rfl)) (fun _ _ _ h => h) (Or.inl ⟨by rfl, ?_⟩) ?_ ?_;rotate_left;(intro w';go_simp;with_reducible rfl);rotate_left;(simp only [ps_];rfl)
                    refine pure_ (i := 3) (N := some 77) (v := ?_) (a' := ?_) (bm 18 15) rfl rfl (any_of HT_.out (by kernel_rfl)) (fun _ _ _ h => h) (Or.inl ⟨by rfl, ?_⟩) ?_ ?_;rotate_left;(intro w';go_simp;with_reducible rfl);rotate_left;(simp only [ps_];rfl)
                    refine pure_ (i := 4) (N := some 78) (v := ?_) (a' := ?_) (bm 18 31) rfl rfl (any_of HT_.out (by kernel_rfl)) (fun _ _ _ h => h) (Or.inl ⟨by rfl, ?_⟩) ?_ ?_;rotate_left;(intro w';go_simp;with_reducible rfl);rotate_left;(simp only [ps_];rfl)
                    refine pure_ (i := 5) (N := some 79) (v := ?_) (a' := ?_) (bm 18 63) rfl rfl (any_of HT_.out (by kernel_rfl)) (fun _ _ _ h => h) (Or.inl ⟨by rfl, ?_⟩) ?_ ?_;rotate_left;(intro w';go_simp;with_reducible rfl);rotate_left;(simp only [ps_];rfl)
                    refine pure_ (i := 6) (N := some 80) (v := ?_) (a' := ?_) (bm 18 127) rfl rfl (any_of HT_.out (by kernel_rfl)) (fun _ _ _ h => h) (Or.inl ⟨by rfl, ?_⟩) ?_ ?_;rotate_left;(intro w';go_simp;with_reducible rfl);rotate_left;(simp only [ps_];rfl)
                    refine pure_ (i := 7) (N := some 81) (v := ?_) (a' := ?_) (bm 18 255) rfl rfl (any_of HT_.out (by kernel_rfl)) (fun _ _ _ h => h) (Or.inl ⟨by rfl, ?_⟩) ?_ ?_;rotate_left;(intro w';go_simp;with_reducible rfl);rotate_left;(simp only [ps_];rfl)
                    refine pure_ (i := 8) (N := some 82) (v := ?_) (a' := ?_) (bm 18 511) rfl rfl (any_of HT_.out (by kernel_rfl)) (fun _ _ _ h => h) (Or.inl ⟨by rfl, ?_⟩) ?_ ?_;rotate_left;(intro w';go_simp;with_reducible rfl);rotate_left;(simp only [ps_];rfl)
                    refine pure_ (i := 9) (N := some 83) (v := ?_) (a' := ?_) (bm 18 1023) rfl rfl (any_of HT_.out (by kernel_rfl)) (fun _ _ _ h => h) (Or.inl ⟨by rfl, ?_⟩) ?_ ?_;rotate_left;(intro w';go_simp;with_reducible rfl);rotate_left;(simp only [ps_];rfl)
                    refine pure_ (i := 11) (N := some 85) (v := ?_) (a' := ?_) (bm 18 3071) rfl rfl (any_of HT_.out (by kernel_rfl)) (fun _ _ _ h => h) (Or.inl ⟨by rfl, ?_⟩) ?_ ?_;rotate_left;(intro w';go_simp;with_reducible rfl);rotate_left;(simp only [ps_];rfl)
                    refine pure_ (i := 12) (N := some 86) (v := ?_) (a' := ?_) (bm 18 7167) rfl rfl (any_of HT_.out (by kernel_rfl)) (fun _ _ _ h => h) (Or.inl ⟨by rfl, ?_⟩) ?_ ?_;rotate_left;(intro w';go_simp;with_reducible rfl);rotate_left;(simp only [ps_];rfl)
                    refine pure_ (i := 13) (N := some 87) (v := ?_) (a' := ?_) (bm 18 15359) rfl rfl (any_of HT_.out (by kernel_rfl)) (fun _ _ _ h => h) (Or.inl ⟨by rfl, ?_⟩) ?_ ?_;rotate_left;(intro w';go_simp;with_reducible rfl);rotate_left;(simp only [ps_];rfl)
                    refine take_ (i := 10) (N := some 84) (v := ?_) (a' := ?_) (bm 18 16383) rfl rfl (take_ofW HT_.out HW_.out (by kernel_rfl)) (fun _ _ _ h => h) (Or.inl ⟨by rfl, ?_⟩) hHeld ?_ ?_
                    rotate_left
                    ·intro w' s0
                     go_simp
                     with_reducible rfl
                    rotate_left
                    ·simp only [Act.put, List.setIfInBounds_toArray, List.set_cons_zero, List.set_cons_succ, i64_w, i32_w]
                     rfl
                    refine one_ (i := 14) (N := some 88) (bm 18 32767) rfl rfl (one_of HT_.out (by kernel_rfl)) (by decide) (fun K hK => ?_)
                    refine goes_ Try.func49 (by kernel_rfl) rfl #[.pointer (some ⟨g, 0, none⟩), .int .i64 t298, .int .i64 (rd t276 x69_2)] (by rfl) rfl rfl (by ((simp only [List.map_toArray, List.map_cons, List.map_nil])); (rfl)) ?_
                    with_reducible refine (field_GF_Mul.calls g x1000_2 x1001_2 s0_2 x1003_2 s0_4 s0_5 t298 (rd t276 x69_2) t305 t306 t307 t308 w0 _ ?side1 ?side2 A41.out).mono ?_
                    (case side1 => repeat ((with_reducible (exact HI0.out))))
                    (case side2 => repeat ((with_reducible (exact HB.out))))
                    rintro e w45 ⟨rfl, hi, hb, hk⟩
                    have HS0_ := keep_cell hk (hHeld) (by (rw [add_block]; exact Kd.own_blk (IsS85.own_ne HI0.out HO_7.out (by decide))))
                    refine ⟨_, rfl, ?_⟩
                    have n0_ := Aside0.mk (Kd.R_mono (Kd.R_keep (IsS85.apart (show IsS85 w0 _ g x1000_2 x1001_2 s0_2 x1003_2 s0_4 s0_5 from by exact HI0.out) HO_2.out (by decide)) hk (fun _ h => h.2)) (fun _ h => h.1))
                    have n1_ := Aside0.mk (Kd.R_mono (Kd.R_keep (IsS85.apart (show IsS85 w0 _ g x1000_2 x1001_2 s0_2 x1003_2 s0_4 s0_5 from by exact HI0.out) HO_6.out (by decide)) hk (fun _ h => h.2)) (fun _ h => h.1))
                    have n2_ := Aside0.mk (Kd.R_mono (Kd.R_keep (IsS85.apart (show IsS85 w0 _ g x1000_2 x1001_2 s0_2 x1003_2 s0_4 s0_5 from by exact HI0.out) HO_7.out (by decide)) hk (fun _ h => h.2)) (fun _ h => h.1))
                    have n3_ := Aside0.mk (Kd.R_mono (Kd.R_keep (IsS85.apart (show IsS85 w0 _ g x1000_2 x1001_2 s0_2 x1003_2 s0_4 s0_5 from by exact HI0.out) HO_67.out (by decide)) hk (fun _ h => h.2)) (fun _ h => h.1))
                    have n4_ := Aside0.mk (KeepBut.trans HK.out hk (.inl rfl))
                    have n5_ := Aside0.mk (hb)
                    have n6_ := Aside0.mk (hi)
                    clear HO_2 HO_6 HO_7 HO_67 HK HB HI0
                    have HO_2 := n0_
                    have HO_6 := n1_
                    have HO_7 := n2_
                    have HO_67 := n3_
                    have HK := n4_
                    have HB := n5_
                    have HI0 := n6_
                    clear n0_ n1_ n2_ n3_ n4_ n5_ n6_
                    ((clear hb))
                    ((clear hk))
                    ((clear hi))
                    refine hK.out _ _ (HS0_) (fun hHeld => ?_)
                    clear hK K
                    refine norm_ (a' := ?_) ?_ ?_
                    rotate_left
                    ·show Act.put _ (some 88) _ = _
                     simp only [Act.put, List.setIfInBounds_toArray, List.set_cons_zero, List.set_cons_succ, i64_w, i32_w]
                     rfl
                    refine one_ (i := 15) (N := some 89) (bm 18 65535) rfl rfl (one_of HT_.out (by kernel_rfl)) (by decide) (fun K hK => ?_)
                    refine goes_ Try.func59 (by kernel_rfl) rfl #[.pointer (some ⟨g, 0, none⟩), .int .i64 (rd x7_2 (ji38)), .int .i64 t305] (by rfl) rfl rfl (by ((simp only [List.map_toArray, List.map_cons, List.map_nil])); (rfl)) ?_
                    with_reducible refine (field_GF_Sub.calls k2 g t306 t307 s0_2 t308 s0_4 s0_5 (rd x7_2 (ji38)) t305 t309 t310 t311 t312 w0 _ ?side1 ?side2 A42.out).mono ?_
                    (case side1 => repeat ((with_reducible (exact HI0.out))))
                    (case side2 => repeat ((with_reducible (exact HB.out))))
                    rintro e w46 ⟨rfl, hi, hb, hk⟩
                    have HS0_ := keep_cell hk (hHeld) (by (rw [add_block]; exact Kd.own_blk (IsS85.own_ne HI0.out HO_7.out (by decide))))
                    refine ⟨_, rfl, ?_⟩
                    have n0_ := Aside0.mk (Kd.R_mono (Kd.R_keep (IsS85.apart (show IsS85 w0 _ g t306 t307 s0_2 t308 s0_4 s0_5 from by exact HI0.out) HO_2.out (by decide)) hk (fun _ h => h.2)) (fun _ h => h.1))
                    have n1_ := Aside0.mk (Kd.R_mono (Kd.R_keep (IsS85.apart (show IsS85 w0 _ g t306 t307 s0_2 t308 s0_4 s0_5 from by exact HI0.out) HO_6.out (by decide)) hk (fun _ h => h.2)) (fun _ h => h.1))
                    have n2_ := Aside0.mk (Kd.R_mono (Kd.R_keep (IsS85.apart (show IsS85 w0 _ g t306 t307 s0_2 t308 s0_4 s0_5 from by exact HI0.out) HO_7.out (by decide)) hk (fun _ h => h.2)) (fun _ h => h.1))
                    have n3_ := Aside0.mk (Kd.R_mono (Kd.R_keep (IsS85.apart (show IsS85 w0 _ g t306 t307 s0_2 t308 s0_4 s0_5 from by exact HI0.out) HO_67.out (by decide)) hk (fun _ h => h.2)) (fun _ h => h.1))
                    have n4_ := Aside0.mk (KeepBut.trans HK.out hk (.inl rfl))
                    have n5_ := Aside0.mk (hb)
                    have n6_ := Aside0.mk (hi)
                    clear HO_2 HO_6 HO_7 HO_67 HK HB HI0
                    have HO_2 := n0_
                    have HO_6 := n1_
                    have HO_7 := n2_
                    have HO_67 := n3_
                    have HK := n4_
                    have HB := n5_
                    have HI0 := n6_
                    clear n0_ n1_ n2_ n3_ n4_ n5_ n6_
                    ((clear hb))
                    ((clear hk))
                    ((clear hi))
                    have p43 : 0 ≤ ((ji38) : Int) := of_decide_eq_true (by (with_reducible assumption))
                    have q43 : ((ji38) : Int) < ((x7_2.length : Int) : Int) := of_decide_eq_true (by (with_reducible assumption))
                    obtain ⟨go43, co43, eo43, gb43, gl43, cl43, HG43⟩ := Kd.R_form HO_7.out (by omega)
                    ((cases eo43))
                    have GB43 := Aside0.mk gb43
                    have GG43 := Aside0.mk HG43
                    clear gb43 gl43 HG43
                    ((skip))
                    ((simp only [add_plain] at hx304_0))
                    obtain ⟨hx43_0, hf43_0⟩ := Kd.R_celln 0 HO_7.out ((ji38) : Int) p43 q43
                    replace p43 := eq_true p43
                    replace q43 := eq_true q43
                    have HN0_go43 := Aside0.mk (show g ≠ go43 from by have h_ := IsS85.own_ne HI0.out HO_7.out (by decide); intro e_; exact h_ (by rw [e_]; rfl))
                    have HP47 := Kd.R_putn HO_7.out ((ji38) : Int) t309
                    rw [← Ny313.out] at HP47
                    have HQ47 := Aside0.mk HP47
                    clear HP47
                    refine hK.out _ _ (HS0_) (fun hHeld => ?_)
                    clear hK K
                    refine norm_ (a' := ?_) ?_ ?_
                    rotate_left
                    ·show Act.put _ (some 89) _ = _
                     simp only [Act.put, List.setIfInBounds_toArray, List.set_cons_zero, List.set_cons_succ, i64_w, i32_w]
                     rfl
                    refine pure_ (i := 16) (N := some 90) (v := ?_) (a' := ?_) (bm 18 131071) rfl rfl (any_of HT_.out (by kernel_rfl)) (fun _ _ _ h => h) (Or.inl ⟨by rfl, ?_⟩) ?_ ?_;rotate_left;(intro w';go_simp;with_reducible rfl);rotate_left;(simp only [ps_];rfl)
                    refine last_ (i := 17) (N := none) (bm 18 262143) rfl rfl (one_of HT_.out (by kernel_rfl)) (by decide) (fun K hK => ?_)
                    refine skip_ (w1 := ?_) (by rfl) rfl ?_ ?_
                    rotate_left
                    ·go_simp
                     rfl
                    refine hK.out _ _ ?_
                    clear hK K
                    refine done_ (done_of HT_.out (by kernel_rfl)) ?_
                    (go_wp2)
                    ((simp only [← hl6_2, ← hl7_2]))
                    (simp only [add_plain] at *)
                    go_roundg k2
                    case measure => have := HK1.out; have := HK2.out; omega
                    case rel => exact ⟨(y313), (wrap64 (x69_2 + 1)), (t310), (t311), (t312), (by rfl), H', ⟨by have := HK1.out; have := HK2.out; omega⟩, ⟨by (skip); ((simp only [hl6_2])); ((simp only [hl7_2])); (with_reducible repeat (fail)); exact Kd.R_mono (Kd.R_far (p := ⟨go43, ((ji38) : Int).toNat, none⟩) (Kd.R_mono HO_2.out (fun k_ hk => (⟨hk, fun e_ => hk.2 (by rw [e_]; rfl)⟩ : _ ∧ k_ ≠ go43))) (fun _ hk => hk.2) (.int .i64 t309)) (fun _ hk => ⟨hk.1.1, hk.1.2⟩)⟩, ⟨by (skip); ((simp only [hl6_2])); ((simp only [hl7_2])); (with_reducible repeat (fail)); exact Kd.R_mono (Kd.R_far (p := ⟨go43, ((ji38) : Int).toNat, none⟩) (Kd.R_mono HO_6.out (fun k_ hk => (⟨hk, fun e_ => hk.2.1 (by rw [e_]; rfl)⟩ : _ ∧ k_ ≠ go43))) (fun _ hk => hk.2) (.int .i64 t309)) (fun _ hk => ⟨hk.1.1, ⟨hk.1.2.1, hk.1.2.2⟩⟩)⟩, ⟨by (skip); ((simp only [hl6_2])); ((simp only [hl7_2])); (with_reducible repeat (fail)); exact HQ47.out⟩, ⟨by (skip); ((simp only [hl6_2])); ((simp only [hl7_2])); (with_reducible repeat (fail)); exact Kd.R_mono (Kd.R_far (p := ⟨go43, ((ji38) : Int).toNat, none⟩) (Kd.R_mono HO_67.out (fun k_ hk => (⟨hk, fun e_ => hk.2 (by rw [e_]; rfl)⟩ : _ ∧ k_ ≠ go43))) (fun _ hk => hk.2) (.int .i64 t309)) (fun _ hk => ⟨hk.1.1, hk.1.2⟩)⟩, ⟨by repeat ((with_reducible first | (exact HI0.out) | (refine IsS85.far ?_ HN0_go43.out _)))⟩, ⟨by repeat ((with_reducible first | (exact HK.out) | (refine keep_far ?_ GB43.out _)))⟩, ⟨by repeat ((with_reducible first | (exact HB.out) | (refine below_set ?_ (Nat.le_trans HL.out GB43.out))))⟩⟩
                   ·rw [if_neg c40] at H
                    exact absurd H (by simp)
                  ·rw [if_neg c39] at H
                   exact absurd H (by simp)
                 ·rw [if_neg c37] at H
                  exact absurd H (by simp)
                ·rw [if_neg c36] at H
                 exact absurd H (by simp)
               ·rw [if_neg c35] at H
                have c35b0 : decide (x69_2 < (t276.length : Int)) = false := decide_eq_false c35
                clear c35
                have H' := Aside0.mk H
                clear H
                go_wp2
                ((simp only [← hl7_1, ← hl6_2, ← hl7_2]))
                go_roundg k2
                case measure => have := HK1.out; have := HK2.out; omega
                case rel => exact ⟨(y302), (x7_2), (wrap64 (x11_1 - 1)), (x1000_2), (x1001_2), (x1003_2), (by rfl), H', ⟨by have := HK1.out; have := HK2.out; omega⟩, ⟨by ((simp only [hl7_1])); ((simp only [hl6_2])); ((simp only [hl7_2])); (with_reducible repeat (fail)); exact HO_2.out⟩, ⟨by ((simp only [hl7_1])); ((simp only [hl6_2])); ((simp only [hl7_2])); (with_reducible repeat (fail)); exact Kd.R_mono HO_6.out (fun _ hk => ⟨hk.1, hk.2.1⟩)⟩, ⟨by ((simp only [hl7_1])); ((simp only [hl6_2])); ((simp only [hl7_2])); (with_reducible repeat (fail)); exact Kd.R_mono HO_7.out (fun _ hk => ⟨hk.1, hk.2.1⟩)⟩, ⟨by exact HI0.out⟩, ⟨by exact HK.out⟩, ⟨by exact HB.out⟩⟩
            ·rw [if_neg c30] at H
             exact absurd H (by simp)
           ·rw [if_neg c29] at H
            exact absurd H (by simp)
          ·rw [if_neg c27] at H
           exact absurd H (by simp)
         ·rw [if_neg c26] at H
          exact absurd H (by simp)
        ·rw [if_neg c24] at H
         have c24b0 : decide (0 ≤ x11_1) = false := decide_eq_false c24
         clear c24
         obtain ⟨t291, A480, H⟩ := Option.bind_eq_some_iff.mp H
         replace H : ((poly_trim.f k1 x7_1).bind fun t294 => (some (t291, t294, 0, x1000_1, x1001_1, x1003_1))) = some (r1, r2, r3, r4, r5, r6) := H
         have A48 := Aside0.mk A480
         clear A480
         obtain ⟨t294, A490, H⟩ := Option.bind_eq_some_iff.mp H
         replace H : (some (t291, t294, 0, x1000_1, x1001_1, x1003_1)) = some (r1, r2, r3, r4, r5, r6) := H
         have A49 := Aside0.mk A490
         clear A490
         simp only [Option.some.injEq, Prod.mk.injEq] at H
         obtain ⟨rfl, rfl, rfl, rfl, rfl, rfl⟩ := H
         obtain ⟨Ao50, co50, eo50⟩ := Kd.R_slice HO_6.out
         subst eo50
         go_wp2_with (first | ((with_reducible refine gate_callee (f := 50) rfl ?_); refine goesL_ (some 93) rfl rfl Try.func50 (by kernel_rfl) rfl #[.slice Ao50 x6_1.length co50] rfl (by ((simp only [List.map_toArray, List.map_cons, List.map_nil])); (rfl)) ?_; (with_reducible refine (poly_trim.calls k1 (fun k_ => some k_ = (.slice Ao50 x6_1.length co50 : Value).ownBlock) (.slice Ao50 x6_1.length co50) x6_1 t291 w0 _ ?side1 ?side2 A48.out).mono ?_); (case side1 => repeat ((with_reducible (exact HB.out)))); (case side2 => exact Kd.R_lower (Kd.R_tight rfl HO_6.out) HL.out); rintro e w51 ⟨v292, rfl, ho0, hb, hkp⟩; refine ⟨_, rfl, ?_⟩; have n0_ := Aside0.mk (Kd.R_mono (ok' := fun k_ => some k_ ≠ (.slice Ao21 x7_1.length co21 : Value).ownBlock ∧ some k_ ≠ (v292 : Value).ownBlock) (Kd.R_keptB (HO_2.out) hkp (fun k_ hk_ hs_ => (hk_.1) hs_)) (fun k_ hk_ => ⟨hk_.1.2, fun e_ => Or.elim (ho0.1 k_ e_.symm) (fun hs_ => hk_.2.1 hs_) (fun hn_ => Nat.not_le.2 hk_.2.2 hn_)⟩)); have n1_ := Aside0.mk (Kd.R_mono (ok' := fun k_ => some k_ ≠ (.slice (some ad282) t276.length co19 : Value).ownBlock ∧ some k_ ≠ (v292 : Value).ownBlock) (Kd.R_keptB (HO_7.out) hkp (fun k_ hk_ hs_ => (hk_.2) hs_)) (fun k_ hk_ => ⟨hk_.1.1, fun e_ => Or.elim (ho0.1 k_ e_.symm) (fun hs_ => hk_.2.1 hs_) (fun hn_ => Nat.not_le.2 hk_.2.2 hn_)⟩)); have n2_ := Aside0.mk (IsS85.kept HI0.out hkp (fun hs_ => (fun e_ => (IsS85.own_ne HI0.out HO_6.out (by decide)) e_) hs_)); have n3_ := Aside0.mk (Kd.R_mono (ok' := fun k_ => some k_ ≠ (.slice (some ad282) t276.length co19 : Value).ownBlock ∧ some k_ ≠ (.slice Ao21 x7_1.length co21 : Value).ownBlock) (Kd.R_raise (d := (Kd.int .i64)) (b := w0.heap.size) (b' := w.heap.size) (fun _ _ _ _ h_ => h_) ho0 (fun k_ e_ => Or.elim (ho0.1 k_ e_) (fun hs_ => (fun e_ => Kd.R_base HO_6.out k_ e_.symm) hs_) (fun hn_ => Nat.le_trans (keep_size (w := w) (g := g) (row := none) HK.out) hn_))) (fun k_ hk_ => ⟨Or.elim hk_ (fun hs_ => fun e_ => (((HO_2.out).1 k_ e_.symm).1) hs_) (fun hn_ => (Kd.fresh' (Kd.R_lt HO_2.out) k_ hn_)), Or.elim hk_ (fun hs_ => fun e_ => (((HO_7.out).1 k_ e_.symm).2) hs_) (fun hn_ => (Kd.fresh' (Kd.R_lt HO_7.out) k_ hn_))⟩)); have n4_ := Aside0.mk (Kept.keepG HK.out hkp (fun k_ hs_ => (fun e_ => .inr (Kd.R_base HO_6.out k_ e_.symm)) hs_)); have n5_ := Aside0.mk (hb); clear HO_2; clear HO_7; clear HI0; clear HK; clear HB; clear HO_6; have HO_2 := n0_; have HO_7 := n1_; have HI0 := n2_; have HO293 := n3_; have HK := n4_; have HB := n5_; clear n0_ n1_ n2_ n3_ n4_ n5_; ((clear hb)); ((clear hkp)); ((clear ho0))) | ((with_reducible refine gate_callee (f := 50) rfl ?_); refine goesL_ (some 95) rfl rfl Try.func50 (by kernel_rfl) rfl #[.slice Ao21 x7_1.length co21] rfl (by ((simp only [List.map_toArray, List.map_cons, List.map_nil])); (rfl)) ?_; (with_reducible refine (poly_trim.calls k1 (fun k_ => some k_ = (.slice Ao21 x7_1.length co21 : Value).ownBlock) (.slice Ao21 x7_1.length co21) x7_1 t294 w0 _ ?side1 ?side2 A49.out).mono ?_); (case side1 => repeat ((with_reducible (exact HB.out)))); (case side2 => exact Kd.R_lower (Kd.R_tight rfl HO_7.out) HL.out); rintro e w52 ⟨v295, rfl, ho0, hb, hkp⟩; refine ⟨_, rfl, ?_⟩; have n0_ := Aside0.mk (Kd.R_mono (ok' := fun k_ => some k_ ≠ (v292 : Value).ownBlock ∧ some k_ ≠ (v295 : Value).ownBlock) (Kd.R_keptB (HO_2.out) hkp (fun k_ hk_ hs_ => (hk_.1) hs_)) (fun k_ hk_ => ⟨hk_.1.2, fun e_ => Or.elim (ho0.1 k_ e_.symm) (fun hs_ => hk_.2.1 hs_) (fun hn_ => Nat.not_le.2 hk_.2.2 hn_)⟩)); have n1_ := Aside0.mk (IsS85.kept HI0.out hkp (fun hs_ => (fun e_ => (IsS85.own_ne HI0.out HO_7.out (by decide)) e_) hs_)); have n2_ := Aside0.mk (Kd.R_mono (ok' := fun k_ => some k_ ≠ (.slice (some ad282) t276.length co19 : Value).ownBlock ∧ some k_ ≠ (v295 : Value).ownBlock) (Kd.R_keptB (HO293.out) hkp (fun k_ hk_ hs_ => (hk_.2) hs_)) (fun k_ hk_ => ⟨hk_.1.1, fun e_ => Or.elim (ho0.1 k_ e_.symm) (fun hs_ => hk_.2.1 hs_) (fun hn_ => Nat.not_le.2 hk_.2.2 hn_)⟩)); have n3_ := Aside0.mk (Kd.R_mono (ok' := fun k_ => some k_ ≠ (.slice (some ad282) t276.length co19 : Value).ownBlock ∧ some k_ ≠ (v292 : Value).ownBlock) (Kd.R_raise (d := (Kd.int .i64)) (b := w0.heap.size) (b' := w.heap.size) (fun _ _ _ _ h_ => h_) ho0 (fun k_ e_ => Or.elim (ho0.1 k_ e_) (fun hs_ => (fun e_ => Kd.R_base HO_7.out k_ e_.symm) hs_) (fun hn_ => Nat.le_trans (keep_size (w := w) (g := g) (row := none) HK.out) hn_))) (fun k_ hk_ => ⟨Or.elim hk_ (fun hs_ => fun e_ => (((HO_2.out).1 k_ e_.symm).1) hs_) (fun hn_ => (Kd.fresh' (Kd.R_lt HO_2.out) k_ hn_)), Or.elim hk_ (fun hs_ => fun e_ => (((HO293.out).1 k_ e_.symm).2) hs_) (fun hn_ => (Kd.fresh' (Kd.R_lt HO293.out) k_ hn_))⟩)); have n4_ := Aside0.mk (Kept.keepG HK.out hkp (fun k_ hs_ => (fun e_ => .inr (Kd.R_base HO_7.out k_ e_.symm)) hs_)); have n5_ := Aside0.mk (hb); clear HO_2; clear HI0; clear HO293; clear HK; clear HB; clear HO_7; have HO_2 := n0_; have HI0 := n1_; have HO293 := n2_; have HO296 := n3_; have HK := n4_; have HB := n5_; clear n0_ n1_ n2_ n3_ n4_ n5_; ((clear hb)); ((clear hkp)); ((clear ho0))))
         go_ret3
         exact ⟨_, _, by rfl, by exact Kd.R_mono HO293.out (fun _ hk => hk.2), by exact Kd.R_mono HO296.out (fun _ hk => hk.2), by exact HI0.out, by exact HB.out, by exact HK.out⟩
     ·rw [if_neg c16] at H
      exact absurd H (by simp)
    ·rw [if_neg c15] at H
     exact absurd H (by simp)
   ·rw [if_neg c12] at H
    exact absurd H (by simp)
  ·rw [if_neg c11] at H
   exact absurd H (by simp)
end Go.Proofs.Ytiejggpmjapajaa.PA
end
section
namespace Go.Proofs.Ytiejggpmjapajaa.PA
open Go.RowKit Go.Proofs.YtiejggpmjapajaaW.PrintWords Go.Proofs.YtiejggpmjapajaaW.PrintLast Go.Proofs.YtiejggpmjapajaaW.PrintMore
attribute [local go_sem] max2_int min2_int max_two min_two max_three min_three max_four min_four
set_option linter.unusedVariables false
set_option linter.unusedSimpArgs false
def codewrightref04_Is.f (k : Nat) (a0_0 : Int) (a0_1 : Int) (l0_2 : List Int) (a1 : Int) : Option (Bool) := if a1 ≥ 0 then ((codewrightref04_Order.f k a0_0 a0_1 l0_2).bind fun t392 => (some (decide (a1 < t392)))) else (some false)
set_option maxHeartbeats 8000000 in
set_option maxRecDepth 100000 in
theorem codewrightref04_Is.calls (k : Nat) (a0_0 : Int) (a0_1 : Int) (A0_2 : Option Addr) (c0_2 : Nat) (l0_2 : List Int) (a1 : Int) (r : Bool) (w : World) (hr0_2 : Kd.C (Kd.int .i64) w A0_2 l0_2.length l0_2) (hc0_2 : l0_2.length ≤ c0_2) (h : codewrightref04_Is.f k a0_0 a0_1 l0_2 a1 = some r) :
  Calls Try.prog 61 #[.agg #[.int .i64 a0_0, .int .i64 a0_1, .slice A0_2 l0_2.length c0_2], .int .i64 a1] w fun e w' => e = .returned (.bool r) ∧ Below w.heap.size w w' := by
 have hu24 := Try.underlying24
 have HR0_2 := Aside0.mk hr0_2
 have HC0_2 := Aside0.mk hc0_2
 clear hr0_2 hc0_2
 have HB := Aside0.mk (Below.refl w.heap.size w)
 have H : (if a1 ≥ 0 then ((codewrightref04_Order.f k a0_0 a0_1 l0_2).bind fun t392 => (some (decide (a1 < t392)))) else (some false)) = some r := h
 clear h
 by_cases c3 : a1 ≥ 0
 ·rw [if_pos c3] at H
  have c3b0 : decide (0 ≤ a1) = true := decide_eq_true c3
  clear c3
  obtain ⟨t392, A40, H⟩ := Option.bind_eq_some_iff.mp H
  replace H : (some (decide (a1 < t392))) = some r := H
  have A4 := Aside0.mk A40
  clear A40
  obtain rfl := Option.some.inj H
  go_enter Try.func61, Try.ntmps61
  go_wp2_with (first | ((with_reducible refine gate_dst (N := 2) rfl ?_); refine box_event ?hg (N := 2) ?hd (cs := #[.int .i64 a0_0, .int .i64 a0_1, .slice A0_2 l0_2.length c0_2]) (t := 24) ?hr ?_; (case hd => rfl); (case hg => rfl); (case hr => (go_simp; done)); intro gb391 hg w5 hbox hb; have n0_ := Aside0.mk (below_step HB.out hb); have n1_ := Aside0.mk (hbox); have n2_ := Aside0.mk ((by rw [hg]; exact (below_size HB.out) : w.heap.size ≤ gb391)); have n3_ := Aside0.mk ((by rw [hg]; exact (below_size HB.out) : w.heap.size ≤ gb391)); clear HB; have HB := n0_; have BK391 := n1_; have GW391 := n2_; have GE391 := n3_; clear n0_ n1_ n2_ n3_; clear hb hbox hg; have hcz6_0 : w5.cell? ⟨gb391, 0, none⟩ = some (.int .i64 a0_0) := (blk_cell BK391.out 0).trans rfl; have hcz6_1 : w5.cell? ⟨gb391, 1, none⟩ = some (.int .i64 a0_1) := (blk_cell BK391.out 1).trans rfl; have hcz6_2 : w5.cell? ⟨gb391, 2, none⟩ = some (.slice A0_2 l0_2.length c0_2) := (blk_cell BK391.out 2).trans rfl; have hfz6_0 := blk_frozen BK391.out 0; have hfz6_1 := blk_frozen BK391.out 1; have hfz6_2 := blk_frozen BK391.out 2) | (go_at_call 55; (with_reducible refine (codewrightref04_Order.calls k a0_0 a0_1 _ _ l0_2 t392 _ ?side1 ?side2 A4.out).mono ?_); (case side1 => repeat ((exact (Kd.C_below HR0_2.out HB.out)))); (case side2 => exact HC0_2.out); rintro e w7 ⟨rfl, hb⟩; have n0_ := Aside0.mk (blk_below (g := gb391) (o := .cells #[.int .i64 a0_0, .int .i64 a0_1, .slice A0_2 l0_2.length c0_2] 24 (0, 0)) BK391.out hb); have n1_ := Aside0.mk (below_step HB.out hb); clear BK391; clear HB; have BK391 := n0_; have HB := n1_; clear n0_ n1_; ((clear hb)); (skip); (skip); (skip)))
  go_ret
  exact ⟨by rfl, by exact HB.out⟩
 ·rw [if_neg c3] at H
  have c3b0 : decide (0 ≤ a1) = false := decide_eq_false c3
  clear c3
  obtain rfl := Option.some.inj H
  go_enter Try.func61, Try.ntmps61
  go_wp2_with (((with_reducible refine gate_dst (N := 2) rfl ?_); refine box_event ?hg (N := 2) ?hd (cs := #[.int .i64 a0_0, .int .i64 a0_1, .slice A0_2 l0_2.length c0_2]) (t := 24) ?hr ?_; (case hd => rfl); (case hg => rfl); (case hr => (go_simp; done)); intro gb391 hg w8 hbox hb; have n0_ := Aside0.mk (below_step HB.out hb); have n1_ := Aside0.mk (hbox); have n2_ := Aside0.mk ((by rw [hg]; exact (below_size HB.out) : w.heap.size ≤ gb391)); have n3_ := Aside0.mk ((by rw [hg]; exact (below_size HB.out) : w.heap.size ≤ gb391)); clear HB; have HB := n0_; have BK391 := n1_; have GW391 := n2_; have GE391 := n3_; clear n0_ n1_ n2_ n3_; clear hb hbox hg))
  go_ret
  exact ⟨by rfl, by exact HB.out⟩
def codewrightref04_In.f (k : Nat) (a0_0 : Int) (a0_1 : Int) (l0_2 : List Int) (a1 : Int) : Option (Int) := (codewrightref04_Is.f k a0_0 a0_1 l0_2 a1).bind fun t394 => (if t394 = true then (some a1) else (some 0))
set_option maxHeartbeats 8000000 in
set_option maxRecDepth 100000 in
theorem codewrightref04_In.calls (k : Nat) (a0_0 : Int) (a0_1 : Int) (A0_2 : Option Addr) (c0_2 : Nat) (l0_2 : List Int) (a1 : Int) (r : Int) (w : World) (hr0_2 : Kd.C (Kd.int .i64) w A0_2 l0_2.length l0_2) (hc0_2 : l0_2.length ≤ c0_2) (h : codewrightref04_In.f k a0_0 a0_1 l0_2 a1 = some r) :
  Calls Try.prog 31 #[.agg #[.int .i64 a0_0, .int .i64 a0_1, .slice A0_2 l0_2.length c0_2], .int .i64 a1] w fun e w' => e = .returned (.int .i64 r) ∧ Below w.heap.size w w' := by
 have hu24 := Try.underlying24
 have HR0_2 := Aside0.mk hr0_2
 have HC0_2 := Aside0.mk hc0_2
 clear hr0_2 hc0_2
 have HB := Aside0.mk (Below.refl w.heap.size w)
 have H : ((codewrightref04_Is.f k a0_0 a0_1 l0_2 a1).bind fun t394 => (if t394 = true then (some a1) else (some 0))) = some r := h
 clear h
 obtain ⟨t394, A30, H⟩ := Option.bind_eq_some_iff.mp H
 replace H : (if t394 = true then (some a1) else (some 0)) = some r := H
 have A3 := Aside0.mk A30
 clear A30
 by_cases c4 : t394 = true
 ·subst c4
  have H1 : (some a1) = some r := by rw [if_pos rfl] at H; exact H
  clear H
  have H := H1
  clear H1
  obtain rfl := Option.some.inj H
  go_enter Try.func31, Try.ntmps31
  go_wp2_with (first | ((with_reducible refine gate_dst (N := 2) rfl ?_); refine box_event ?hg (N := 2) ?hd (cs := #[.int .i64 a0_0, .int .i64 a0_1, .slice A0_2 l0_2.length c0_2]) (t := 24) ?hr ?_; (case hd => rfl); (case hg => rfl); (case hr => (go_simp; done)); intro gb393 hg w5 hbox hb; have n0_ := Aside0.mk (below_step HB.out hb); have n1_ := Aside0.mk (hbox); have n2_ := Aside0.mk ((by rw [hg]; exact (below_size HB.out) : w.heap.size ≤ gb393)); have n3_ := Aside0.mk ((by rw [hg]; exact (below_size HB.out) : w.heap.size ≤ gb393)); clear HB; have HB := n0_; have BK393 := n1_; have GW393 := n2_; have GE393 := n3_; clear n0_ n1_ n2_ n3_; clear hb hbox hg; have hcz6_0 : w5.cell? ⟨gb393, 0, none⟩ = some (.int .i64 a0_0) := (blk_cell BK393.out 0).trans rfl; have hcz6_1 : w5.cell? ⟨gb393, 1, none⟩ = some (.int .i64 a0_1) := (blk_cell BK393.out 1).trans rfl; have hcz6_2 : w5.cell? ⟨gb393, 2, none⟩ = some (.slice A0_2 l0_2.length c0_2) := (blk_cell BK393.out 2).trans rfl; have hfz6_0 := blk_frozen BK393.out 0; have hfz6_1 := blk_frozen BK393.out 1; have hfz6_2 := blk_frozen BK393.out 2) | ((with_reducible refine gate_callee (f := 61) rfl ?_); refine goesL_ (some 7) rfl rfl Try.func61 (by kernel_rfl) rfl #[.agg #[.int .i64 a0_0, .int .i64 a0_1, .slice A0_2 l0_2.length c0_2], .int .i64 a1] rfl (by ((simp only [List.map_toArray, List.map_cons, List.map_nil])); (rfl)) ?_; (with_reducible refine (codewrightref04_Is.calls k a0_0 a0_1 _ _ l0_2 a1 true _ ?side1 ?side2 A3.out).mono ?_); (case side1 => repeat ((exact (Kd.C_below HR0_2.out HB.out)))); (case side2 => exact HC0_2.out); rintro e w7 ⟨rfl, hb⟩; refine ⟨_, rfl, ?_⟩; have n0_ := Aside0.mk (blk_below (g := gb393) (o := .cells #[.int .i64 a0_0, .int .i64 a0_1, .slice A0_2 l0_2.length c0_2] 24 (0, 0)) BK393.out hb); have n1_ := Aside0.mk (below_step HB.out hb); clear BK393; clear HB; have BK393 := n0_; have HB := n1_; clear n0_ n1_; ((clear hb)); (skip); (skip); (skip)))
  go_ret
  exact ⟨by rfl, by exact HB.out⟩
 ·replace c4 := Bool.eq_false_iff.mpr c4
  subst c4
  have H1 : (some 0) = some r := by rw [if_neg (show ¬ (false = true) by decide)] at H; exact H
  clear H
  have H := H1
  clear H1
  obtain rfl := Option.some.inj H
  go_enter Try.func31, Try.ntmps31
  go_wp2_with (first | ((with_reducible refine gate_dst (N := 2) rfl ?_); refine box_event ?hg (N := 2) ?hd (cs := #[.int .i64 a0_0, .int .i64 a0_1, .slice A0_2 l0_2.length c0_2]) (t := 24) ?hr ?_; (case hd => rfl); (case hg => rfl); (case hr => (go_simp; done)); intro gb393 hg w8 hbox hb; have n0_ := Aside0.mk (below_step HB.out hb); have n1_ := Aside0.mk (hbox); have n2_ := Aside0.mk ((by rw [hg]; exact (below_size HB.out) : w.heap.size ≤ gb393)); have n3_ := Aside0.mk ((by rw [hg]; exact (below_size HB.out) : w.heap.size ≤ gb393)); clear HB; have HB := n0_; have BK393 := n1_; have GW393 := n2_; have GE393 := n3_; clear n0_ n1_ n2_ n3_; clear hb hbox hg; have hcz9_0 : w8.cell? ⟨gb393, 0, none⟩ = some (.int .i64 a0_0) := (blk_cell BK393.out 0).trans rfl; have hcz9_1 : w8.cell? ⟨gb393, 1, none⟩ = some (.int .i64 a0_1) := (blk_cell BK393.out 1).trans rfl; have hcz9_2 : w8.cell? ⟨gb393, 2, none⟩ = some (.slice A0_2 l0_2.length c0_2) := (blk_cell BK393.out 2).trans rfl; have hfz9_0 := blk_frozen BK393.out 0; have hfz9_1 := blk_frozen BK393.out 1; have hfz9_2 := blk_frozen BK393.out 2) | ((with_reducible refine gate_callee (f := 61) rfl ?_); refine goesL_ (some 7) rfl rfl Try.func61 (by kernel_rfl) rfl #[.agg #[.int .i64 a0_0, .int .i64 a0_1, .slice A0_2 l0_2.length c0_2], .int .i64 a1] rfl (by ((simp only [List.map_toArray, List.map_cons, List.map_nil])); (rfl)) ?_; (with_reducible refine (codewrightref04_Is.calls k a0_0 a0_1 _ _ l0_2 a1 false _ ?side1 ?side2 A3.out).mono ?_); (case side1 => repeat ((exact (Kd.C_below HR0_2.out HB.out)))); (case side2 => exact HC0_2.out); rintro e w10 ⟨rfl, hb⟩; refine ⟨_, rfl, ?_⟩; have n0_ := Aside0.mk (blk_below (g := gb393) (o := .cells #[.int .i64 a0_0, .int .i64 a0_1, .slice A0_2 l0_2.length c0_2] 24 (0, 0)) BK393.out hb); have n1_ := Aside0.mk (below_step HB.out hb); clear BK393; clear HB; have BK393 := n0_; have HB := n1_; clear n0_ n1_; ((clear hb)); (skip); (skip); (skip)))
  go_ret
  exact ⟨by rfl, by exact HB.out⟩
mutual
def codewrightref05_Canon.l0 : Nat → List Int → Int → Int → Int → Int → List Int → Option (List Int)
 | 0, _, _, _, _, _, _ => none
 | k + 1, x1, x5, x6, x396000, x396001, x396002 => if x6 < (x1.length : Int) then (if 0 ≤ x6 then ((codewrightref04_In.f k x396000 x396001 x396002 (rd x1 x6)).bind fun t397 => (if t397 = 0 then (codewrightref05_Canon.l0 k x1 x5 (wrap64 (x6 + 1)) x396000 x396001 x396002) else (codewrightref05_Canon.l0 k x1 (wrap64 (x6 + 1)) (wrap64 (x6 + 1)) x396000 x396001 x396002))) else (none)) else (if 0 ≤ x5 then (if (x5 : Int).toNat ≤ 35184372088832 then (codewrightref05_Canon.l1 k x1 x5 (List.replicate (x5 : Int).toNat 0) 0 x396000 x396001 x396002) else (none)) else (none))
def codewrightref05_Canon.l1 : Nat → List Int → Int → List Int → Int → Int → Int → List Int → Option (List Int)
 | 0, _, _, _, _, _, _, _ => none
 | k + 1, x1, x5, x7, x8, x396000, x396001, x396002 => if x8 < x5 then (if 0 ≤ x8 then (if x8 < (x1.length : Int) then ((codewrightref04_In.f k x396000 x396001 x396002 (rd x1 x8)).bind fun t402 => (if x8 < (x7.length : Int) then (codewrightref05_Canon.l1 k x1 x5 (x7.set (x8 : Int).toNat t402) (wrap64 (x8 + 1)) x396000 x396001 x396002) else (none))) else (none)) else (none)) else (some x7)
end
def codewrightref05_Canon.f (k : Nat) (a0_0 : Int) (a0_1 : Int) (l0_2 : List Int) (l1 : List Int) : Option (List Int) := codewrightref05_Canon.l0 k l1 0 0 a0_0 a0_1 l0_2
def codewrightref05_Canon.T11 : Bool × List (List Nat × List Nat) := (true, [([], []), ([], []), ([], []), ([], []), ([], []), ([3, 4], [3, 4]), ([5], [5]), ([2, 6], [2, 6]), ([0, 1, 0, 1, 2, 3, 4, 5, 6, 7], [0, 1]), ([8, 7, 7, 0, 1, 2, 3, 4, 5, 6, 7], [7, 8])])
def codewrightref05_Canon.B11 : List Nat := [0, 0, 0, 0, 0, 24, 56, 124, 255, 511]
theorem codewrightref05_Canon.tab11 : rtab .any (opsOf Try.f32 11) = codewrightref05_Canon.T11 := by kernel_rfl
theorem codewrightref05_Canon.bits11 : waitsOk codewrightref05_Canon.T11.2 codewrightref05_Canon.B11 = true := by kernel_rfl
set_option maxHeartbeats 8000000 in
set_option maxRecDepth 100000 in
theorem codewrightref05_Canon.calls (k : Nat) (a0_0 : Int) (a0_1 : Int) (A0_2 : Option Addr) (c0_2 : Nat) (l0_2 : List Int) (A1 : Option Addr) (c1 : Nat) (l1 : List Int) (r : List Int) (w : World) (hr0_2 : Kd.C (Kd.int .i64) w A0_2 l0_2.length l0_2) (hc0_2 : l0_2.length ≤ c0_2) (hr1 : Kd.C (Kd.int .i64) w A1 l1.length l1) (hc1 : l1.length ≤ c1) (h : codewrightref05_Canon.f k a0_0 a0_1 l0_2 l1 = some r) :
  Calls Try.prog 32 #[.agg #[.int .i64 a0_0, .int .i64 a0_1, .slice A0_2 l0_2.length c0_2], .slice A1 l1.length c1] w fun e w' => ∃ v0_ : Value, e = .returned (v0_) ∧ Kd.R (Kd.int .i64) 3 w' w.heap.size (fun _ => True) v0_ r ∧ Below w.heap.size w w' := by
 have hu24 := Try.underlying24
 have HR0_2 := Aside0.mk hr0_2
 have HC0_2 := Aside0.mk hc0_2
 clear hr0_2 hc0_2
 have HR1 := Aside0.mk hr1
 have HC1 := Aside0.mk hc1
 clear hr1 hc1
 have HB := Aside0.mk (Below.refl w.heap.size w)
 have H : (codewrightref05_Canon.l0 k l1 0 0 a0_0 a0_1 l0_2) = some r := h
 clear h
 have H' := Aside0.mk H
 clear H
 go_enter Try.func32, Try.ntmps32
 go_wp2_with (((with_reducible refine gate_dst (N := 2) rfl ?_); refine box_event ?hg (N := 2) ?hd (cs := #[.int .i64 a0_0, .int .i64 a0_1, .slice A0_2 l0_2.length c0_2]) (t := 24) ?hr ?_; (case hd => rfl); (case hg => rfl); (case hr => (go_simp; done)); intro gb395 hg w3 hbox hb; have n0_ := Aside0.mk (below_step HB.out hb); have n1_ := Aside0.mk (hbox); have n2_ := Aside0.mk ((by rw [hg]; exact (below_size HB.out) : w.heap.size ≤ gb395)); have n3_ := Aside0.mk ((by rw [hg]; exact (below_size HB.out) : w.heap.size ≤ gb395)); clear HB; have HB := n0_; have BK395 := n1_; have GW395 := n2_; have GE395 := n3_; clear n0_ n1_ n2_ n3_; clear hb hbox hg))
 go_loopg [5, 6] k (fun kq v5 v6 w' => ∃ (x5_1 : Int) (x6_1 : Int), v5 = .int .i64 x5_1 ∧ v6 = .int .i64 x6_1 ∧ Aside0 (codewrightref05_Canon.l0 kq l1 x5_1 x6_1 a0_0 a0_1 l0_2 = some r) ∧ Aside0 (kq ≤ k) ∧ Aside0 (w'.heap[gb395]? = some (.cells #[.int .i64 a0_0, .int .i64 a0_1, (.slice A0_2 l0_2.length c0_2)] 24 (0, 0))) ∧ Aside0 (Below w.heap.size w w'))
 case atStart => exact ⟨(0), (0), (by rfl), (by rfl), H', ⟨Nat.le_refl _⟩, ⟨BK395.out⟩, ⟨by exact HB.out⟩⟩
 case round =>
  clear H'
  obtain ⟨x5_1, x6_1, rfl, rfl, HA, HK1, BK395, HB⟩ := hrel
  cases gk with
  | zero => exact absurd HA.out (by simp [codewrightref05_Canon.l0])
  | succ k1 =>
   have H := HA.out
   clear HA
   simp only [codewrightref05_Canon.l0] at H
   by_cases c4 : x6_1 < (l1.length : Int)
   ·rw [if_pos c4] at H
    have c4b0 : decide (x6_1 < (l1.length : Int)) = true := decide_eq_true c4
    clear c4
    by_cases c5 : 0 ≤ x6_1
    ·rw [if_pos c5] at H
     have c5b0 : decide (0 ≤ x6_1) = true := decide_eq_true c5
     clear c5
     obtain ⟨t397, A60, H⟩ := Option.bind_eq_some_iff.mp H
     replace H : (if t397 = 0 then (codewrightref05_Canon.l0 k1 l1 x5_1 (wrap64 (x6_1 + 1)) a0_0 a0_1 l0_2) else (codewrightref05_Canon.l0 k1 l1 (wrap64 (x6_1 + 1)) (wrap64 (x6_1 + 1)) a0_0 a0_1 l0_2)) = some r := H
     have A6 := Aside0.mk A60
     clear A60
     by_cases c7 : t397 = 0
     ·rw [if_pos c7] at H
      have c7b0 : (t397 == 0) = true := beq_iff_eq.mpr c7
      have c7b1 : (t397 != 0) = false := bne_eq_false_iff_eq.mpr c7
      clear c7
      have H' := Aside0.mk H
      clear H
      (go_wp2)
      have n0_ := Aside0.mk (blk_drew BK395.out)
      have n1_ := Aside0.mk (below_drew1 HB.out)
      clear BK395 HB
      have BK395 := n0_
      have HB := n1_
      clear n0_ n1_
      have p396 : 0 ≤ (x6_1 : Int) := of_decide_eq_true (by (with_reducible assumption))
      have q396 : x6_1 < (l1.length : Int) := of_decide_eq_true (by (with_reducible assumption))
      obtain ⟨ad396, e396, hx396_0⟩ := Kd.at_int HR1.out x6_1 p396 q396
      have hw396_0 := hx396_0
      cases e396
      replace hx396_0 := (HB.out.cell (World.block_lt_of_cell? w _ hx396_0)).trans hx396_0
      replace p396 := eq_true p396
      replace q396 := eq_true q396
      refine start_ (n := 7) (S := fun w' => w'.cell? ⟨gb395, 0, none⟩ = some (.int .i64 a0_0) ∧ w'.cell? ⟨gb395, 1, none⟩ = some (.int .i64 a0_1) ∧ w'.cell? ⟨gb395, 2, none⟩ = some (.slice A0_2 l0_2.length c0_2) ∧ w'.cell? (ad396.add (x6_1).toNat) = some (.int .i64 (rd l1 x6_1))) (ds := []) (bm 7 0) (by kernel_rfl) rfl rfl ⟨(blk_cell BK395.out 0).trans rfl, (blk_cell BK395.out 1).trans rfl, (blk_cell BK395.out 2).trans rfl, ((HB.out.cell (World.block_lt_of_cell? w _ hw396_0)).trans hw396_0)⟩ (fun hHeld => ?_)
      generalize wr.drew = w8 at BK395 HB hx396_0 hHeld ⊢
      refine pure_ (i := 1) (N := some 16) (v := ?_) (a' := ?_) (bm 7 2) rfl rfl (by kernel_rfl) (fun _ _ _ h => h) (Or.inl ⟨by rfl, ?_⟩) ?_ ?_;rotate_left;(intro w';go_simp;with_reducible rfl);rotate_left;(simp only [ps_];rfl)
      refine pure_ (i := 2) (N := some 17) (v := ?_) (a' := ?_) (bm 7 6) rfl rfl (by kernel_rfl) (fun _ _ _ h => h) (Or.inl ⟨by rfl, ?_⟩) ?_ ?_;rotate_left;(intro w';go_simp;with_reducible rfl);rotate_left;(simp only [ps_];rfl)
      refine pure_ (i := 3) (N := some 18) (v := ?_) (a' := ?_) (bm 7 14) rfl rfl (by kernel_rfl) (fun _ _ _ h => h) (Or.inl ⟨by rfl, ?_⟩) ?_ ?_;rotate_left;(intro w';go_simp;with_reducible rfl);rotate_left;(simp only [ps_];rfl)
      refine take_ (i := 0) (N := some 15) (v := ?_) (a' := ?_) (bm 7 15) rfl rfl (by kernel_rfl) (fun _ _ _ h => h) (Or.inl ⟨by rfl, ?_⟩) hHeld ?_ ?_;rotate_left;(rintro w' ⟨s0, s1, s2, s3⟩;go_simp;with_reducible rfl);rotate_left;(simp only [ps_];rfl)
      refine take_ (i := 4) (N := some 19) (v := ?_) (a' := ?_) (bm 7 31) rfl rfl (by kernel_rfl) (fun _ _ _ h => h) (Or.inl ⟨by rfl, ?_⟩) hHeld ?_ ?_;rotate_left;(rintro w' ⟨s0, s1, s2, s3⟩;go_simp;with_reducible rfl);rotate_left;(simp only [ps_];rfl)
      refine one_ (i := 5) (N := some 20) (bm 7 63) rfl rfl (by kernel_rfl) (by decide) (fun K hK => ?_)
      refine goes_ Try.func31 (by kernel_rfl) rfl #[.agg #[.int .i64 a0_0, .int .i64 a0_1, .slice A0_2 l0_2.length c0_2], .int .i64 (rd l1 x6_1)] (by rfl) rfl rfl (by ((simp only [List.map_toArray, List.map_cons, List.map_nil])); (rfl)) ?_
      with_reducible refine (codewrightref04_In.calls k1 a0_0 a0_1 _ _ l0_2 (rd l1 x6_1) t397 _ ?side1 ?side2 A6.out).mono ?_
      (case side1 => repeat ((exact (Kd.C_below HR0_2.out HB.out))))
      (case side2 => exact HC0_2.out)
      rintro e w9 ⟨rfl, hb⟩
      refine ⟨_, rfl, ?_⟩
      have n0_ := Aside0.mk (blk_below (g := gb395) (o := .cells #[.int .i64 a0_0, .int .i64 a0_1, .slice A0_2 l0_2.length c0_2] 24 (0, 0)) BK395.out hb)
      have n1_ := Aside0.mk (below_step HB.out hb)
      clear BK395 HB
      have BK395 := n0_
      have HB := n1_
      clear n0_ n1_
      ((clear hb))
      refine hK.out _ _ ⟨(blk_cell BK395.out 0).trans rfl, (blk_cell BK395.out 1).trans rfl, (blk_cell BK395.out 2).trans rfl, ((HB.out.cell (World.block_lt_of_cell? w _ hw396_0)).trans hw396_0)⟩ (fun hHeld => ?_)
      clear hK K
      refine norm_ (a' := ?_) ?_ ?_
      rotate_left
      ·show Act.put _ (some 20) _ = _
       simp only [Act.put, List.setIfInBounds_toArray, List.set_cons_zero, List.set_cons_succ, i64_w, i32_w]
       rfl
      refine pure_ (i := 6) (N := some 21) (v := ?_) (a' := ?_) (bm 7 127) rfl rfl (by kernel_rfl) (fun _ _ _ h => h) (Or.inl ⟨by rfl, ?_⟩) ?_ ?_;rotate_left;(intro w';go_simp;with_reducible rfl);rotate_left;(simp only [ps_];rfl)
      refine done_ (by kernel_rfl) ?_
      (go_wp2)
      go_roundg k1
      case measure => have := HK1.out; omega
      case rel => exact ⟨(x5_1), (wrap64 (x6_1 + 1)), (by rfl), (by rfl), H', ⟨by have := HK1.out; omega⟩, ⟨BK395.out⟩, ⟨by exact HB.out⟩⟩
     ·rw [if_neg c7] at H
      have c7b0 : (t397 == 0) = false := beq_eq_false_iff_ne.mpr c7
      have c7b1 : (t397 != 0) = true := bne_iff_ne.mpr c7
      have H' := Aside0.mk H
      clear H
      (go_wp2)
      have n0_ := Aside0.mk (blk_drew BK395.out)
      have n1_ := Aside0.mk (below_drew1 HB.out)
      clear BK395 HB
      have BK395 := n0_
      have HB := n1_
      clear n0_ n1_
      have p396 : 0 ≤ (x6_1 : Int) := of_decide_eq_true (by (with_reducible assumption))
      have q396 : x6_1 < (l1.length : Int) := of_decide_eq_true (by (with_reducible assumption))
      obtain ⟨ad396, e396, hx396_0⟩ := Kd.at_int HR1.out x6_1 p396 q396
      have hw396_0 := hx396_0
      cases e396
      replace hx396_0 := (HB.out.cell (World.block_lt_of_cell? w _ hx396_0)).trans hx396_0
      replace p396 := eq_true p396
      replace q396 := eq_true q396
      refine start_ (n := 7) (S := fun w' => w'.cell? ⟨gb395, 0, none⟩ = some (.int .i64 a0_0) ∧ w'.cell? ⟨gb395, 1, none⟩ = some (.int .i64 a0_1) ∧ w'.cell? ⟨gb395, 2, none⟩ = some (.slice A0_2 l0_2.length c0_2) ∧ w'.cell? (ad396.add (x6_1).toNat) = some (.int .i64 (rd l1 x6_1))) (ds := []) (bm 7 0) (by kernel_rfl) rfl rfl ⟨(blk_cell BK395.out 0).trans rfl, (blk_cell BK395.out 1).trans rfl, (blk_cell BK395.out 2).trans rfl, ((HB.out.cell (World.block_lt_of_cell? w _ hw396_0)).trans hw396_0)⟩ (fun hHeld => ?_)
      generalize wr.drew = w10 at BK395 HB hx396_0 hHeld ⊢
      refine pure_ (i := 1) (N := some 16) (v := ?_) (a' := ?_) (bm 7 2) rfl rfl (by kernel_rfl) (fun _ _ _ h => h) (Or.inl ⟨by rfl, ?_⟩) ?_ ?_;rotate_left;(intro w';go_simp;with_reducible rfl);rotate_left;(simp only [ps_];rfl)
      refine pure_ (i := 2) (N := some 17) (v := ?_) (a' := ?_) (bm 7 6) rfl rfl (by kernel_rfl) (fun _ _ _ h => h) (Or.inl ⟨by rfl, ?_⟩) ?_ ?_;rotate_left;(intro w';go_simp;with_reducible rfl);rotate_left;(simp only [ps_];rfl)
      refine pure_ (i := 3) (N := some 18) (v := ?_) (a' := ?_) (bm 7 14) rfl rfl (by kernel_rfl) (fun _ _ _ h => h) (Or.inl ⟨by rfl, ?_⟩) ?_ ?_;rotate_left;(intro w';go_simp;with_reducible rfl);rotate_left;(simp only [ps_];rfl)
      refine take_ (i := 0) (N := some 15) (v := ?_) (a' := ?_) (bm 7 15) rfl rfl (by kernel_rfl) (fun _ _ _ h => h) (Or.inl ⟨by rfl, ?_⟩) hHeld ?_ ?_;rotate_left;(rintro w' ⟨s0, s1, s2, s3⟩;go_simp;with_reducible rfl);rotate_left;(simp only [ps_];rfl)
      refine take_ (i := 4) (N := some 19) (v := ?_) (a' := ?_) (bm 7 31) rfl rfl (by kernel_rfl) (fun _ _ _ h => h) (Or.inl ⟨by rfl, ?_⟩) hHeld ?_ ?_;rotate_left;(rintro w' ⟨s0, s1, s2, s3⟩;go_simp;with_reducible rfl);rotate_left;(simp only [ps_];rfl)
      refine one_ (i := 5) (N := some 20) (bm 7 63) rfl rfl (by kernel_rfl) (by decide) (fun K hK => ?_)
      refine goes_ Try.func31 (by kernel_rfl) rfl #[.agg #[.int .i64 a0_0, .int .i64 a0_1, .slice A0_2 l0_2.length c0_2], .int .i64 (rd l1 x6_1)] (by rfl) rfl rfl (by ((simp only [List.map_toArray, List.map_cons, List.map_nil])); (rfl)) ?_
      with_reducible refine (codewrightref04_In.calls k1 a0_0 a0_1 _ _ l0_2 (rd l1 x6_1) t397 _ ?side1 ?side2 A6.out).mono ?_
      (case side1 => repeat ((exact (Kd.C_below HR0_2.out HB.out))))
      (case side2 => exact HC0_2.out)
      rintro e w11 ⟨rfl, hb⟩
      refine ⟨_, rfl, ?_⟩
      have n0_ := Aside0.mk (blk_below (g := gb395) (o := .cells #[.int .i64 a0_0, .int .i64 a0_1, .slice A0_2 l0_2.length c0_2] 24 (0, 0)) BK395.out hb)
      have n1_ := Aside0.mk (below_step HB.out hb)
      clear BK395 HB
      have BK395 := n0_
      have HB := n1_
      clear n0_ n1_
      ((clear hb))
      refine hK.out _ _ ⟨(blk_cell BK395.out 0).trans rfl, (blk_cell BK395.out 1).trans rfl, (blk_cell BK395.out 2).trans rfl, ((HB.out.cell (World.block_lt_of_cell? w _ hw396_0)).trans hw396_0)⟩ (fun hHeld => ?_)
      clear hK K
      refine norm_ (a' := ?_) ?_ ?_
      rotate_left
      ·show Act.put _ (some 20) _ = _
       simp only [Act.put, List.setIfInBounds_toArray, List.set_cons_zero, List.set_cons_succ, i64_w, i32_w]
       rfl
      refine pure_ (i := 6) (N := some 21) (v := ?_) (a' := ?_) (bm 7 127) rfl rfl (by kernel_rfl) (fun _ _ _ h => h) (Or.inl ⟨by rfl, ?_⟩) ?_ ?_;rotate_left;(intro w';go_simp;with_reducible rfl);rotate_left;(simp only [ps_];rfl)
      refine done_ (by kernel_rfl) ?_
      (go_wp2)
      go_roundg k1
      case measure => have := HK1.out; omega
      case rel => exact ⟨(wrap64 (x6_1 + 1)), (wrap64 (x6_1 + 1)), (by rfl), (by rfl), H', ⟨by have := HK1.out; omega⟩, ⟨BK395.out⟩, ⟨by exact HB.out⟩⟩
    ·rw [if_neg c5] at H
     exact absurd H (by simp)
   ·rw [if_neg c4] at H
    have c4b0 : decide (x6_1 < (l1.length : Int)) = false := decide_eq_false c4
    clear c4
    by_cases c12 : 0 ≤ x5_1
    ·rw [if_pos c12] at H
     have c12b0 := eq_true c12
     have c12b1 : decide (0 ≤ x5_1) = true := decide_eq_true c12
     clear c12
     by_cases c13 : (x5_1 : Int).toNat ≤ 35184372088832
     ·rw [if_pos c13] at H
      have c13b0 := eq_true c13
      have c13b1 : decide ((x5_1 : Int).toNat ≤ 35184372088832) = true := decide_eq_true c13
      clear c13
      obtain ⟨y398, hy398⟩ : ∃ y_ : List Int, y_ = (List.replicate (x5_1 : Int).toNat 0) := ⟨_, rfl⟩
      replace H : (codewrightref05_Canon.l1 k1 l1 x5_1 y398 0 a0_0 a0_1 l0_2) = some r := by (rw [hy398]; with_reducible exact H)
      have Ny398 := Aside0.mk hy398
      clear hy398
      have H' := Aside0.mk H
      clear H
      go_wp2_with (((with_reducible refine gate_dst (N := 25) rfl ?_); refine Kd.R_make (Kd.int .i64) _ 3 rfl (N := 25) rfl 22 _ _ rfl x5_1 rfl rfl Try.underlying22 (.int .i64 0) 8 info3 rfl (by decide) (by omega) 0 (ok := fun _ => True) (okp := fun _ => True) rfl (fun _ hk => hk) trivial (of_decide_eq_true (by (with_reducible assumption))) (Nat.le_trans (Nat.mul_le_mul_right _ (of_decide_eq_true (by (with_reducible assumption)) : x5_1.toNat ≤ 35184372088832)) (by omega)) (Below.refl _ _) (Nat.le_refl _) ?_; intro v399 w14 ho15 hb hg_ hnew_; clear hg_ hnew_; ((rw [← Ny398.out] at ho15)); have n0_ := Aside0.mk (Kd.R_lower ho15 (below_size HB.out)); have n1_ := Aside0.mk (blk_below (g := gb395) (o := .cells #[.int .i64 a0_0, .int .i64 a0_1, .slice A0_2 l0_2.length c0_2] 24 (0, 0)) BK395.out hb); have n2_ := Aside0.mk (below_step HB.out hb); clear BK395; clear HB; have HO400 := n0_; have BK395 := n1_; have HB := n2_; clear n0_ n1_ n2_; clear hb ho15))
      go_loopg [8] k1 (fun kq v8 w' => ∃ (x7_2 : List Int) (x8_2 : Int), v8 = .int .i64 x8_2 ∧ Aside0 (codewrightref05_Canon.l1 kq l1 x5_1 x7_2 x8_2 a0_0 a0_1 l0_2 = some r) ∧ Aside0 (kq ≤ k1) ∧ Aside0 (Kd.R (Kd.int .i64) 3 w' w.heap.size (fun _ => True) v399 x7_2) ∧ Aside0 (w'.heap[gb395]? = some (.cells #[.int .i64 a0_0, .int .i64 a0_1, (.slice A0_2 l0_2.length c0_2)] 24 (0, 0))) ∧ Aside0 (Below w.heap.size w w'))
      case atStart => exact ⟨(y398), (0), (by rfl), H', ⟨Nat.le_refl _⟩, ⟨HO400.out⟩, ⟨BK395.out⟩, ⟨by exact HB.out⟩⟩
      case round =>
       clear H' c4b0 c12b0 c12b1 c13b0 c13b1
       obtain ⟨x7_2, x8_2, rfl, HA, HK2, HO_7, BK395, HB⟩ := hrel
       cases gk with
       | zero => exact absurd HA.out (by simp [codewrightref05_Canon.l1])
       | succ k2 =>
        have H := HA.out
        clear HA
        simp only [codewrightref05_Canon.l1] at H
        by_cases c16 : x8_2 < x5_1
        ·rw [if_pos c16] at H
         have c16b0 : decide (x8_2 < x5_1) = true := decide_eq_true c16
         clear c16
         by_cases c17 : 0 ≤ x8_2
         ·rw [if_pos c17] at H
          have c17b0 : decide (0 ≤ x8_2) = true := decide_eq_true c17
          clear c17
          by_cases c18 : x8_2 < (l1.length : Int)
          ·rw [if_pos c18] at H
           have c18b0 : decide (x8_2 < (l1.length : Int)) = true := decide_eq_true c18
           clear c18
           obtain ⟨t402, A190, H⟩ := Option.bind_eq_some_iff.mp H
           replace H : (if x8_2 < (x7_2.length : Int) then (codewrightref05_Canon.l1 k2 l1 x5_1 (x7_2.set (x8_2 : Int).toNat t402) (wrap64 (x8_2 + 1)) a0_0 a0_1 l0_2) else (none)) = some r := H
           have A19 := Aside0.mk A190
           clear A190
           by_cases c20 : x8_2 < (x7_2.length : Int)
           ·rw [if_pos c20] at H
            have c20b0 : decide (x8_2 < (x7_2.length : Int)) = true := decide_eq_true c20
            clear c20
            obtain ⟨y403, hy403⟩ : ∃ y_ : List Int, y_ = (x7_2.set (x8_2 : Int).toNat t402) := ⟨_, rfl⟩
            replace H : (codewrightref05_Canon.l1 k2 l1 x5_1 y403 (wrap64 (x8_2 + 1)) a0_0 a0_1 l0_2) = some r := by (rw [hy403]; with_reducible exact H)
            have Ny403 := Aside0.mk hy403
            clear hy403
            have H' := Aside0.mk H
            clear H
            (go_wp2)
            have n0_ := Aside0.mk (Kd.R_drew HO_7.out)
            have n1_ := Aside0.mk (blk_drew BK395.out)
            have n2_ := Aside0.mk (below_drew1 HB.out)
            clear HO_7 BK395 HB
            have HO_7 := n0_
            have BK395 := n1_
            have HB := n2_
            clear n0_ n1_ n2_
            have p401 : 0 ≤ (x8_2 : Int) := of_decide_eq_true (by (with_reducible assumption))
            have q401 : x8_2 < (l1.length : Int) := of_decide_eq_true (by (with_reducible assumption))
            obtain ⟨ad401, e401, hx401_0⟩ := Kd.at_int HR1.out x8_2 p401 q401
            have hw401_0 := hx401_0
            cases e401
            replace hx401_0 := (HB.out.cell (World.block_lt_of_cell? w _ hx401_0)).trans hx401_0
            replace p401 := eq_true p401
            replace q401 := eq_true q401
            refine start_ (n := 10) (S := fun w' => w'.cell? ⟨gb395, 0, none⟩ = some (.int .i64 a0_0) ∧ w'.cell? ⟨gb395, 1, none⟩ = some (.int .i64 a0_1) ∧ w'.cell? ⟨gb395, 2, none⟩ = some (.slice A0_2 l0_2.length c0_2) ∧ w'.cell? (ad401.add (x8_2).toNat) = some (.int .i64 (rd l1 x8_2))) (ds := [9]) (bm 10 0) (by kernel_rfl) rfl rfl ⟨(blk_cell BK395.out 0).trans rfl, (blk_cell BK395.out 1).trans rfl, (blk_cell BK395.out 2).trans rfl, ((HB.out.cell (World.block_lt_of_cell? w _ hw401_0)).trans hw401_0)⟩ (fun hHeld => ?_); refine with_tabW codewrightref05_Canon.tab11 codewrightref05_Canon.bits11 (fun HT_ HW_ => ?_)
            generalize wr.drew = w22 at HO_7 BK395 HB hx401_0 hHeld ⊢
            refine pure_ (i := 0) (N := some 31) (v := ?_) (a' := ?_) (bm 10 1) rfl rfl (any_of HT_.out (by kernel_rfl)) (fun _ _ _ h => h) (Or.inl ⟨by rfl, ?_⟩) ?_ ?_;rotate_left;(intro w';go_simp;with_reducible rfl);rotate_left;(simp only [ps_];rfl)
            refine pure_ (i := 1) (N := some 32) (v := ?_) (a' := ?_) (bm 10 3) rfl rfl (any_of HT_.out (by kernel_rfl)) (fun _ _ _ h => h) (Or.inl ⟨by rfl, ?_⟩) ?_ ?_;rotate_left;(intro w';go_simp;with_reducible rfl);rotate_left;(simp only [ps_];rfl)
            refine pure_ (i := 3) (N := some 34) (v := ?_) (a' := ?_) (bm 10 11) rfl rfl (any_of HT_.out (by kernel_rfl)) (fun _ _ _ h => h) (Or.inl ⟨by rfl, ?_⟩) ?_ ?_;rotate_left;(intro w';go_simp;with_reducible rfl);rotate_left;(simp only [ps_];rfl)
            refine pure_ (i := 4) (N := some 35) (v := ?_) (a' := ?_) (bm 10 27) rfl rfl (any_of HT_.out (by kernel_rfl)) (fun _ _ _ h => h) (Or.inl ⟨by rfl, ?_⟩) ?_ ?_;rotate_left;(intro w';go_simp;with_reducible rfl);rotate_left;(simp only [ps_];rfl)
            refine pure_ (i := 5) (N := some 36) (v := ?_) (a' := ?_) (bm 10 59) rfl rfl (any_of HT_.out (by kernel_rfl)) (fun _ _ _ h => h) (Or.inl ⟨by rfl, ?_⟩) ?_ ?_;rotate_left;(intro w';go_simp;with_reducible rfl);rotate_left;(simp only [ps_];rfl)
            refine take_ (i := 2) (N := some 33) (v := ?_) (a' := ?_) (bm 10 63) rfl rfl (take_ofW HT_.out HW_.out (by kernel_rfl)) (fun _ _ _ h => h) (Or.inl ⟨by rfl, ?_⟩) hHeld ?_ ?_;rotate_left;(rintro w' ⟨s0, s1, s2, s3⟩;go_simp;with_reducible rfl);rotate_left;(simp only [ps_];rfl)
            refine take_ (i := 6) (N := some 37) (v := ?_) (a' := ?_) (bm 10 127) rfl rfl (take_ofW HT_.out HW_.out (by kernel_rfl)) (fun _ _ _ h => h) (Or.inl ⟨by rfl, ?_⟩) hHeld ?_ ?_;rotate_left;(rintro w' ⟨s0, s1, s2, s3⟩;go_simp;with_reducible rfl);rotate_left;(simp only [ps_];rfl)
            refine one_ (i := 7) (N := some 38) (bm 10 255) rfl rfl (one_of HT_.out (by kernel_rfl)) (by decide) (fun K hK => ?_)
            refine goes_ Try.func31 (by kernel_rfl) rfl #[.agg #[.int .i64 a0_0, .int .i64 a0_1, .slice A0_2 l0_2.length c0_2], .int .i64 (rd l1 x8_2)] (by rfl) rfl rfl (by ((simp only [List.map_toArray, List.map_cons, List.map_nil])); (rfl)) ?_
            with_reducible refine (codewrightref04_In.calls k2 a0_0 a0_1 _ _ l0_2 (rd l1 x8_2) t402 _ ?side1 ?side2 A19.out).mono ?_
            (case side1 => repeat ((exact (Kd.C_below HR0_2.out HB.out))))
            (case side2 => exact HC0_2.out)
            rintro e w23 ⟨rfl, hb⟩
            refine ⟨_, rfl, ?_⟩
            have n0_ := Aside0.mk (Kd.R_below HO_7.out hb)
            have n1_ := Aside0.mk (blk_below (g := gb395) (o := .cells #[.int .i64 a0_0, .int .i64 a0_1, .slice A0_2 l0_2.length c0_2] 24 (0, 0)) BK395.out hb)
            have n2_ := Aside0.mk (below_step HB.out hb)
            clear HO_7 BK395 HB
            have HO_7 := n0_
            have BK395 := n1_
            have HB := n2_
            clear n0_ n1_ n2_
            ((clear hb))
            have p21 : 0 ≤ (x8_2 : Int) := of_decide_eq_true (by (with_reducible assumption))
            have q21 : (x8_2 : Int) < ((x7_2.length : Int) : Int) := of_decide_eq_true (by (with_reducible assumption))
            obtain ⟨go21, co21, eo21, gb21, gl21, cl21, HG21⟩ := Kd.R_form HO_7.out (by omega)
            ((cases eo21))
            have GB21 := Aside0.mk gb21
            have GG21 := Aside0.mk HG21
            clear gb21 gl21 HG21
            obtain ⟨hx21_0, hf21_0⟩ := Kd.R_celln 0 HO_7.out (x8_2 : Int) p21 q21
            replace p21 := eq_true p21
            replace q21 := eq_true q21
            have HP24 := Kd.R_putn HO_7.out (x8_2 : Int) t402
            rw [← Ny403.out] at HP24
            have HQ24 := Aside0.mk HP24
            clear HP24
            refine hK.out _ _ ⟨(blk_cell BK395.out 0).trans rfl, (blk_cell BK395.out 1).trans rfl, (blk_cell BK395.out 2).trans rfl, ((HB.out.cell (World.block_lt_of_cell? w _ hw401_0)).trans hw401_0)⟩ (fun hHeld => ?_)
            clear hK K
            refine norm_ (a' := ?_) ?_ ?_
            rotate_left
            ·show Act.put _ (some 38) _ = _
             simp only [Act.put, List.setIfInBounds_toArray, List.set_cons_zero, List.set_cons_succ, i64_w, i32_w]
             rfl
            refine pure_ (i := 8) (N := some 39) (v := ?_) (a' := ?_) (bm 10 511) rfl rfl (any_of HT_.out (by kernel_rfl)) (fun _ _ _ h => h) (Or.inl ⟨by rfl, ?_⟩) ?_ ?_;rotate_left;(intro w';go_simp;with_reducible rfl);rotate_left;(simp only [ps_];rfl)
            refine last_ (i := 9) (N := none) (bm 10 1023) rfl rfl (one_of HT_.out (by kernel_rfl)) (by decide) (fun K hK => ?_)
            refine skip_ (w1 := ?_) (by rfl) rfl ?_ ?_
            rotate_left
            ·go_simp
             rfl
            refine hK.out _ _ ?_
            clear hK K
            refine done_ (done_of HT_.out (by kernel_rfl)) ?_
            (go_wp2)
            go_roundg k2
            case measure => have := HK1.out; have := HK2.out; omega
            case rel => exact ⟨(y403), (wrap64 (x8_2 + 1)), (by rfl), H', ⟨by have := HK1.out; have := HK2.out; omega⟩, ⟨HQ24.out⟩, ⟨by (with_reducible repeat (fail)); refine blk_far ?_ (by have h_ := Kd.R_ne HO_7.out BK395.out (by decide); intro e_; exact h_ (by rw [e_]; rfl)) _; (with_reducible repeat (fail)); exact BK395.out⟩, ⟨by repeat ((with_reducible first | (exact HB.out) | (refine below_set ?_ GB21.out)))⟩⟩
           ·rw [if_neg c20] at H
            exact absurd H (by simp)
          ·rw [if_neg c18] at H
           exact absurd H (by simp)
         ·rw [if_neg c17] at H
          exact absurd H (by simp)
        ·rw [if_neg c16] at H
         have c16b0 : decide (x8_2 < x5_1) = false := decide_eq_false c16
         clear c16
         obtain rfl := Option.some.inj H
         go_wp2
         go_ret
         exact ⟨_, by rfl, by exact HO_7.out, by exact HB.out⟩
     ·rw [if_neg c13] at H
      exact absurd H (by simp)
    ·rw [if_neg c12] at H
     exact absurd H (by simp)
end Go.Proofs.Ytiejggpmjapajaa.PA
end
