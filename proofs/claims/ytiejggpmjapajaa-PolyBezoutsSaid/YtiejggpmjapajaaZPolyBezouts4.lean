/- Proved: for every input the law PolyBezouts returns true and leaves its arguments as they were; no conditions. Part 5 of 7 of the proof. -/
import Derived.Test.YtiejggpmjapajaaZPolyBezouts3
import Derived.WalkSpells
import Derived.Deep.RegionLaw
import Derived.Deep.RegionHeldLaw
import Derived.Deep.DeepFit
set_option linter.unusedSectionVars false
set_option linter.unusedSimpArgs false
set_option linter.unusedVariables false
section
namespace Go.Proofs.Ytiejggpmjapajaa.PA
open Go.RowKit Go.Proofs.YtiejggpmjapajaaW.PrintWords Go.Proofs.YtiejggpmjapajaaW.PrintLast Go.Proofs.YtiejggpmjapajaaW.PrintMore
attribute [local go_sem] max2_int min2_int max_two min_two max_three min_three max_four min_four
set_option linter.unusedVariables false
set_option linter.unusedSimpArgs false
def codewrightlaw05_short.l0 : Nat → List (List Int) → Int → Int → Option (Bool)
 | 0, _, _, _ => none
 | k + 1, x5, x6, x7 => if x7 < x6 then (if 0 ≤ x7 then (if x7 < (x5.length : Int) then (if ((rd_L2 x5 x7).length : Int) > 24 then (some false) else (codewrightlaw05_short.l0 k x5 x6 (wrap64 (x7 + 1)))) else (none)) else (none)) else (some true)
def codewrightlaw05_short.f (k : Nat) (l0 : List (List Int)) : Option (Bool) := codewrightlaw05_short.l0 k l0 (l0.length : Int) 0
set_option maxHeartbeats 8000000 in
set_option maxRecDepth 100000 in
theorem codewrightlaw05_short.calls (k : Nat) (A0 : Option Addr) (c0 : Nat) (l0 : List (List Int)) (r : Bool) (w : World) (hr0 : Kd.C (Kd.slice 3 (Kd.int .i64)) w A0 l0.length l0) (hc0 : l0.length ≤ c0) (h : codewrightlaw05_short.f k l0 = some r) :
  Calls Try.prog 16 #[.slice A0 l0.length c0] w fun e w' => e = .returned (.bool r) ∧ Drawn0 w w' := by
 have HR0 := Aside0.mk hr0
 have HC0 := Aside0.mk hc0
 clear hr0 hc0
 have H : (codewrightlaw05_short.l0 k l0 (l0.length : Int) 0) = some r := h
 clear h
 have H' := Aside0.mk H
 clear H
 go_enter Try.func16, Try.ntmps16
 go_wp2
 go_loopg [7] k (fun kq v7 w' => ∃ (x7_1 : Int), v7 = .int .i64 x7_1 ∧ Aside0 (codewrightlaw05_short.l0 kq l0 (l0.length : Int) x7_1 = some r) ∧ Aside0 (kq ≤ k) ∧ Drawn0 w w')
 case atStart => exact ⟨(0), (by rfl), H', ⟨Nat.le_refl _⟩, by repeat ((exact Drawn0.refl _))⟩
 case round =>
  clear H'
  obtain ⟨x7_1, rfl, HA, HK1, ⟨m1, rfl⟩⟩ := hrel
  cases gk with
  | zero => exact absurd HA.out (by simp [codewrightlaw05_short.l0])
  | succ k1 =>
   have H := HA.out
   clear HA
   simp only [codewrightlaw05_short.l0] at H
   by_cases c2 : x7_1 < (l0.length : Int)
   ·rw [if_pos c2] at H
    have c2b0 : decide (x7_1 < (l0.length : Int)) = true := decide_eq_true c2
    clear c2
    by_cases c3 : 0 ≤ x7_1
    ·rw [if_pos c3] at H
     have c3b0 : decide (0 ≤ x7_1) = true := decide_eq_true c3
     clear c3
     by_cases c4 : x7_1 < (l0.length : Int)
     ·rw [if_pos c4] at H
      have c4b0 : decide (x7_1 < (l0.length : Int)) = true := decide_eq_true c4
      clear c4
      by_cases c5 : ((rd_L2 l0 x7_1).length : Int) > 24
      ·rw [if_pos c5] at H
       have c5b0 : decide (24 < ((rd_L2 l0 x7_1).length : Int)) = true := decide_eq_true c5
       have c5b1 : decide (24 < (rd_L2 l0 x7_1).length) = true := decide_eq_true (by omega)
       clear c5
       obtain rfl := Option.some.inj H
       have p579 : 0 ≤ (x7_1 : Int) := of_decide_eq_true (by (with_reducible assumption))
       have q579 : x7_1 < (l0.length : Int) := of_decide_eq_true (by (with_reducible assumption))
       obtain ⟨ad579, A579_0, c579_0, e579, hx579_0, hl579_0, hi579_0⟩ := at_L2 HR0.out x7_1 p579 q579
       cases e579
       have HR579_0 := Aside0.mk hi579_0
       have HC579_0 := Aside0.mk hl579_0
       clear hi579_0 hl579_0
       replace p579 := eq_true p579
       replace q579 := eq_true q579
       go_wp2
       go_ret
       exact ⟨by rfl, by repeat (first | (exact Drawn0.refl _) | (apply Drawn0.step))⟩
      ·rw [if_neg c5] at H
       have c5b0 : decide (24 < ((rd_L2 l0 x7_1).length : Int)) = false := decide_eq_false c5
       have c5b1 : decide (24 < (rd_L2 l0 x7_1).length) = false := decide_eq_false (by omega)
       clear c5
       have H' := Aside0.mk H
       clear H
       have p579 : 0 ≤ (x7_1 : Int) := of_decide_eq_true (by (with_reducible assumption))
       have q579 : x7_1 < (l0.length : Int) := of_decide_eq_true (by (with_reducible assumption))
       obtain ⟨ad579, A579_0, c579_0, e579, hx579_0, hl579_0, hi579_0⟩ := at_L2 HR0.out x7_1 p579 q579
       cases e579
       have HR579_0 := Aside0.mk hi579_0
       have HC579_0 := Aside0.mk hl579_0
       clear hi579_0 hl579_0
       replace p579 := eq_true p579
       replace q579 := eq_true q579
       go_wp2
       go_roundg k1
       case measure => have := HK1.out; omega
       case rel => exact ⟨(wrap64 (x7_1 + 1)), (by rfl), H', ⟨by have := HK1.out; omega⟩, by repeat (first | (exact Drawn0.refl _) | (apply Drawn0.step))⟩
     ·rw [if_neg c4] at H
      exact absurd H (by simp)
    ·rw [if_neg c3] at H
     exact absurd H (by simp)
   ·rw [if_neg c2] at H
    have c2b0 : decide (x7_1 < (l0.length : Int)) = false := decide_eq_false c2
    clear c2
    obtain rfl := Option.some.inj H
    go_wp2
    go_ret
    exact ⟨by rfl, by repeat (first | (exact Drawn0.refl _) | (apply Drawn0.step))⟩
end Go.Proofs.Ytiejggpmjapajaa.PA
end
section
namespace Go.Proofs.Ytiejggpmjapajaa.PA
open Go.RowKit Go.Proofs.YtiejggpmjapajaaW.PrintWords Go.Proofs.YtiejggpmjapajaaW.PrintLast Go.Proofs.YtiejggpmjapajaaW.PrintMore
attribute [local go_sem] max2_int min2_int max_two min_two max_three min_three max_four min_four
set_option linter.unusedVariables false
set_option linter.unusedSimpArgs false
mutual
def poly_combine.l0 : Nat → Int → List Int → List Int → List Int → Int → Int → Int → Int → List Int → Int → List Int → List Int → Option (List Int × Int × Int × Int)
 | 0, _, _, _, _, _, _, _, _, _, _, _, _ => none
 | k + 1, x2, x3, x9, x20, x21, x22, x1000, x1001, x1002, x1003, x1004, x1005 => if x22 < x21 then (if 0 ≤ x22 then (if x22 < (x20.length : Int) then ((field_GF_Add.f k x1000 x1001 x1002 x1003 x1004 x1005 (rd x20 x22) 0).bind fun bt584 => (if x22 < (x9.length : Int) then (poly_combine.l0 k x2 x3 (x9.set (x22 : Int).toNat bt584.1) x20 x21 (wrap64 (x22 + 1)) bt584.2.1 bt584.2.2.1 x1002 bt584.2.2.2 x1004 x1005) else (none))) else (none)) else (none)) else (poly_combine.l1 k x2 x9 x3 (x3.length : Int) 0 x1000 x1001 x1002 x1003 x1004 x1005)
def poly_combine.l1 : Nat → Int → List Int → List Int → Int → Int → Int → Int → List Int → Int → List Int → List Int → Option (List Int × Int × Int × Int)
 | 0, _, _, _, _, _, _, _, _, _, _, _ => none
 | k + 1, x2, x9, x34, x35, x36, x1000, x1001, x1002, x1003, x1004, x1005 => if x36 < x35 then (if 0 ≤ x36 then (if x36 < (x34.length : Int) then (if x36 < (x9.length : Int) then ((field_GF_Mul.f x1000 x1001 x1002 x1003 x1004 x1005 x2 (rd x34 x36)).bind fun bt591 => ((field_GF_Add.f k bt591.2.1 bt591.2.2.1 x1002 bt591.2.2.2 x1004 x1005 (rd x9 x36) bt591.1).bind fun bt595 => (poly_combine.l1 k x2 (x9.set (x36 : Int).toNat bt595.1) x34 x35 (wrap64 (x36 + 1)) bt595.2.1 bt595.2.2.1 x1002 bt595.2.2.2 x1004 x1005))) else (none)) else (none)) else (none)) else ((poly_trim.f k x9).bind fun t600 => (some (t600, x1000, x1001, x1003)))
end
def poly_combine.f (k : Nat) (s0_0 : Int) (s0_1 : Int) (s0_2 : List Int) (s0_3 : Int) (s0_4 : List Int) (s0_5 : List Int) (l1 : List Int) (a2 : Int) (l3 : List Int) : Option (List Int × Int × Int × Int) := if 0 ≤ (mx (l1.length : Int) (l3.length : Int)) then (if (mx (l1.length : Int) (l3.length : Int) : Int).toNat ≤ 35184372088832 then (poly_combine.l0 k a2 l3 (List.replicate (mx (l1.length : Int) (l3.length : Int) : Int).toNat 0) l1 (l1.length : Int) 0 s0_0 s0_1 s0_2 s0_3 s0_4 s0_5) else (none)) else (none)
def poly_combine.T10 : Bool × List (List Nat × List Nat) := (true, [([], []), ([], []), ([], []), ([], []), ([], []), ([3, 4], [3, 4]), ([5], [5]), ([], []), ([], []), ([], []), ([7, 8, 9], [7, 8, 9]), ([2, 6, 10, 10], [2, 6, 10]), ([0, 1, 0, 1, 2, 3, 4, 5, 6, 7, 8, 9, 10, 11], [0, 1]), ([12, 11, 11, 0, 1, 2, 3, 4, 5, 6, 7, 8, 9, 10, 11], [11, 12])])
def poly_combine.B10 : List Nat := [0, 0, 0, 0, 0, 24, 56, 0, 0, 0, 896, 2044, 4095, 8191]
theorem poly_combine.tab10 : rtab .any (opsOf Try.f52 10) = poly_combine.T10 := by kernel_rfl
theorem poly_combine.bits10 : waitsOk poly_combine.T10.2 poly_combine.B10 = true := by kernel_rfl
set_option maxHeartbeats 8000000 in
set_option maxRecDepth 100000 in
theorem poly_combine.calls (k : Nat) (g : Nat) (s0_0 : Int) (s0_1 : Int) (s0_2 : List Int) (s0_3 : Int) (s0_4 : List Int) (s0_5 : List Int) (A1 : Option Addr) (c1 : Nat) (l1 : List Int) (a2 : Int) (A3 : Option Addr) (c3 : Nat) (l3 : List Int) (r1 : List Int) (r2 : Int) (r3 : Int) (r4 : Int) (w0 w : World) (hI : IsS85 w0 w g s0_0 s0_1 s0_2 s0_3 s0_4 s0_5) (hB : Below w0.heap.size w0 w) (hr1 : Kd.C (Kd.int .i64) w A1 l1.length l1) (hc1 : l1.length ≤ c1) (hf1 : ∀ ad, A1 = some ad → 0 < l1.length → ad.block ≠ g) (hr3 : Kd.C (Kd.int .i64) w A3 l3.length l3) (hc3 : l3.length ≤ c3) (hf3 : ∀ ad, A3 = some ad → 0 < l3.length → ad.block ≠ g) (h : poly_combine.f k s0_0 s0_1 s0_2 s0_3 s0_4 s0_5 l1 a2 l3 = some (r1, r2, r3, r4)) :
  Calls Try.prog 52 #[.pointer (some ⟨g, 0, none⟩), .slice A1 l1.length c1, .int .i64 a2, .slice A3 l3.length c3] w fun e w' => ∃ v0_ : Value, e = .returned (v0_) ∧ Kd.R (Kd.int .i64) 3 w' w.heap.size (fun _ => True) v0_ r1 ∧ IsS85 w0 w' g r2 r3 s0_2 r4 s0_4 s0_5 ∧ Below w0.heap.size w0 w' ∧ KeepBut w w' g none := by
 have HR1 := Aside0.mk hr1
 have HC1 := Aside0.mk hc1
 clear hr1 hc1
 have HR3 := Aside0.mk hr3
 have HC3 := Aside0.mk hc3
 clear hr3 hc3
 have HI0 := Aside0.mk hI
 have HK := Aside0.mk (KeepBut.refl w g none)
 have HL := Aside0.mk hB.size
 clear hI
 have HW0 := Aside0.mk hB.size
 have HB := Aside0.mk hB
 clear hB
 have H : (if 0 ≤ (mx (l1.length : Int) (l3.length : Int)) then (if (mx (l1.length : Int) (l3.length : Int) : Int).toNat ≤ 35184372088832 then (poly_combine.l0 k a2 l3 (List.replicate (mx (l1.length : Int) (l3.length : Int) : Int).toNat 0) l1 (l1.length : Int) 0 s0_0 s0_1 s0_2 s0_3 s0_4 s0_5) else (none)) else (none)) = some (r1, r2, r3, r4) := h
 clear h
 obtain ⟨ji5, hji5⟩ : ∃ j_ : Int, (mx (l1.length : Int) (l3.length : Int)) = j_ := ⟨_, rfl⟩
 replace H : (if 0 ≤ (ji5) then (if (ji5 : Int).toNat ≤ 35184372088832 then (poly_combine.l0 k a2 l3 (List.replicate (ji5 : Int).toNat 0) l1 (l1.length : Int) 0 s0_0 s0_1 s0_2 s0_3 s0_4 s0_5) else (none)) else (none)) = some (r1, r2, r3, r4) := by (rw [hji5] at H; exact H)
 ((have hji5l : 0 ≤ ji5 := by (rw [← hji5]; unfold mx; (repeat' split) <;> omega)))
 ((have hji5m : 0 ≤ ji5 := by omega))
 have hji5_ : (if (l1.length : Int) < (l3.length : Int) then (l3.length : Int) else (l1.length : Int)) = ji5 := hji5
 have hji5n : (if l1.length < l3.length then (l3.length : Int) else (l1.length : Int)) = ji5 := by rw [← hji5_]; simp only [Int.ofNat_lt]
 by_cases c6 : 0 ≤ (ji5)
 ·rw [if_pos c6] at H
  have c6b0 := eq_true c6
  have c6b1 : decide (0 ≤ (ji5)) = true := decide_eq_true c6
  clear c6
  by_cases c7 : (ji5 : Int).toNat ≤ 35184372088832
  ·rw [if_pos c7] at H
   have c7b0 := eq_true c7
   have c7b1 : decide ((ji5 : Int).toNat ≤ 35184372088832) = true := decide_eq_true c7
   clear c7
   obtain ⟨y580, hy580⟩ : ∃ y_ : List Int, y_ = (List.replicate (ji5 : Int).toNat 0) := ⟨_, rfl⟩
   replace H : (poly_combine.l0 k a2 l3 y580 l1 (l1.length : Int) 0 s0_0 s0_1 s0_2 s0_3 s0_4 s0_5) = some (r1, r2, r3, r4) := by (rw [hy580]; with_reducible exact H)
   have Ny580 := Aside0.mk hy580
   clear hy580
   have H' := Aside0.mk H
   clear H
   go_enter Try.func52, Try.ntmps52
   go_wp2_with (((with_reducible refine gate_dst (N := 19) rfl ?_); refine Kd.R_make (Kd.int .i64) _ 3 rfl (N := 19) rfl 22 _ _ rfl ji5 rfl rfl Try.underlying22 (.int .i64 0) 8 info3 rfl (by decide) (by omega) 0 (ok := fun _ => True) (okp := fun _ => True) rfl (fun _ hk => hk) trivial (of_decide_eq_true (by (with_reducible assumption))) (Nat.le_trans (Nat.mul_le_mul_right _ (of_decide_eq_true (by (with_reducible assumption)) : ji5.toNat ≤ 35184372088832)) (by omega)) (Below.refl _ _) (Nat.le_refl _) ?_; intro v581 w8 ho9 hb hg_ hnew_; clear hg_ hnew_; ((rw [← Ny580.out] at ho9)); have n0_ := Aside0.mk (Kd.R_lower ho9 (keep_size (w := w) (g := g) (row := none) HK.out)); have n1_ := Aside0.mk (IsS85.below HI0.out hb); have n2_ := Aside0.mk (KeepBut.trans HK.out (KeepBut.of_below hb g none) (.inl rfl)); have n3_ := Aside0.mk (below_step HB.out hb); clear HI0; clear HK; clear HB; have HO582 := n0_; have HI0 := n1_; have HK := n2_; have HB := n3_; clear n0_ n1_ n2_ n3_; clear hb ho9))
   go_loopg [22] k (fun kq v22 w' => ∃ (x9_1 : List Int) (x22_1 : Int) (x1000_1 : Int) (x1001_1 : Int) (x1003_1 : Int), v22 = .int .i64 x22_1 ∧ Aside0 (poly_combine.l0 kq a2 l3 x9_1 l1 (l1.length : Int) x22_1 x1000_1 x1001_1 s0_2 x1003_1 s0_4 s0_5 = some (r1, r2, r3, r4)) ∧ Aside0 (kq ≤ k) ∧ Aside0 (Kd.R (Kd.int .i64) 3 w' w.heap.size (fun _ => True) v581 x9_1) ∧ Aside0 (IsS85 w0 w' g x1000_1 x1001_1 s0_2 x1003_1 s0_4 s0_5) ∧ Aside0 (KeepBut w w' g none) ∧ Aside0 (Below w0.heap.size w0 w'))
   case atStart => exact ⟨(y580), (0), (s0_0), (s0_1), (s0_3), (by rfl), H', ⟨Nat.le_refl _⟩, ⟨HO582.out⟩, ⟨by exact HI0.out⟩, ⟨by exact HK.out⟩, ⟨by exact HB.out⟩⟩
   case round =>
    clear H' c6b0 c6b1 c7b0 c7b1
    obtain ⟨x9_1, x22_1, x1000_1, x1001_1, x1003_1, rfl, HA, HK1, HO_9, HI0, HK, HB⟩ := hrel
    cases gk with
    | zero => exact absurd HA.out (by simp [poly_combine.l0])
    | succ k1 =>
     have H := HA.out
     clear HA
     simp only [poly_combine.l0] at H
     by_cases c10 : x22_1 < (l1.length : Int)
     ·rw [if_pos c10] at H
      have c10b0 : decide (x22_1 < (l1.length : Int)) = true := decide_eq_true c10
      clear c10
      by_cases c11 : 0 ≤ x22_1
      ·rw [if_pos c11] at H
       have c11b0 : decide (0 ≤ x22_1) = true := decide_eq_true c11
       clear c11
       by_cases c12 : x22_1 < (l1.length : Int)
       ·rw [if_pos c12] at H
        have c12b0 : decide (x22_1 < (l1.length : Int)) = true := decide_eq_true c12
        clear c12
        replace H := Option.bind_eq_some_iff.mp H
        obtain ⟨⟨t584, t585, t586, t587⟩, A130, H⟩ := H
        replace H : (if x22_1 < (x9_1.length : Int) then (poly_combine.l0 k1 a2 l3 (x9_1.set (x22_1 : Int).toNat t584) l1 (l1.length : Int) (wrap64 (x22_1 + 1)) t585 t586 s0_2 t587 s0_4 s0_5) else (none)) = some (r1, r2, r3, r4) := H
        have A13 := Aside0.mk A130
        clear A130
        by_cases c14 : x22_1 < (x9_1.length : Int)
        ·rw [if_pos c14] at H
         have c14b0 : decide (x22_1 < (x9_1.length : Int)) = true := decide_eq_true c14
         clear c14
         obtain ⟨y588, hy588⟩ : ∃ y_ : List Int, y_ = (x9_1.set (x22_1 : Int).toNat t584) := ⟨_, rfl⟩
         replace H : (poly_combine.l0 k1 a2 l3 y588 l1 (l1.length : Int) (wrap64 (x22_1 + 1)) t585 t586 s0_2 t587 s0_4 s0_5) = some (r1, r2, r3, r4) := by (rw [hy588]; with_reducible exact H)
         have Ny588 := Aside0.mk hy588
         clear hy588
         have H' := Aside0.mk H
         clear H
         have p583 : 0 ≤ (x22_1 : Int) := of_decide_eq_true (by (with_reducible assumption))
         have q583 : x22_1 < (l1.length : Int) := of_decide_eq_true (by (with_reducible assumption))
         obtain ⟨ad583, e583, hx583_0⟩ := Kd.at_int HR1.out x22_1 p583 q583
         cases e583
         replace hx583_0 := keep_cell HK.out hx583_0 (by (rw [add_block]; exact hf1 _ rfl (by omega)))
         replace p583 := eq_true p583
         replace q583 := eq_true q583
         go_wp2_with (first | ((with_reducible refine gate_callee (f := 58) rfl ?_); refine goesL_ (some 31) rfl rfl Try.func58 (by kernel_rfl) rfl #[.pointer (some ⟨g, 0, none⟩), .int .i64 (rd l1 x22_1), .int .i64 0] rfl (by ((simp only [List.map_toArray, List.map_cons, List.map_nil])); (rfl)) ?_; (with_reducible refine (field_GF_Add.calls k1 g x1000_1 x1001_1 s0_2 x1003_1 s0_4 s0_5 (rd l1 x22_1) 0 t584 t585 t586 t587 w0 _ ?side1 ?side2 A13.out).mono ?_); (case side1 => repeat ((with_reducible (exact HI0.out)))); (case side2 => repeat ((with_reducible (exact HB.out)))); rintro e w16 ⟨rfl, hi, hb, hk⟩; refine ⟨_, rfl, ?_⟩; have n0_ := Aside0.mk (Kd.R_mono (Kd.R_keep (IsS85.apart (show IsS85 w0 _ g x1000_1 x1001_1 s0_2 x1003_1 s0_4 s0_5 from by exact HI0.out) HO_9.out (by decide)) hk (fun _ h => h.2)) (fun _ h => h.1)); have n1_ := Aside0.mk (KeepBut.trans HK.out hk (.inl rfl)); have n2_ := Aside0.mk (hb); have n3_ := Aside0.mk (hi); clear HO_9; clear HK; clear HB; clear HI0; have HO_9 := n0_; have HK := n1_; have HB := n2_; have HI0 := n3_; clear n0_ n1_ n2_ n3_; ((clear hb)); (skip); ((clear hk)); ((clear hi)); have p15 : 0 ≤ (x22_1 : Int) := of_decide_eq_true (by (with_reducible assumption)); have q15 : (x22_1 : Int) < ((x9_1.length : Int) : Int) := of_decide_eq_true (by (with_reducible assumption)); obtain ⟨go15, co15, eo15, gb15, gl15, cl15, HG15⟩ := Kd.R_form HO_9.out (by omega); ((cases eo15)); have GB15 := Aside0.mk gb15; have GG15 := Aside0.mk HG15; clear gb15 gl15 HG15; obtain ⟨hx15_0, hf15_0⟩ := Kd.R_celln 0 HO_9.out (x22_1 : Int) p15 q15; replace p15 := eq_true p15; replace q15 := eq_true q15; obtain ⟨hy17_, hz17_⟩ := Kd.R_celln 0 HO_9.out (x22_1 : Int) (of_decide_eq_true (by (with_reducible assumption))) (of_decide_eq_true (by (with_reducible assumption))); have HP17 := Kd.R_putg HO_9.out (x22_1 : Int) t584) | ((with_reducible refine gate_store (t := 3) (p := 32) rfl ?_); refine store_event (t := 3) (p := 32) (v := ?vo_w18) (w1 := (w16.setCell ⟨go15, (x22_1 : Int).toNat, none⟩ (.int .i64 t584))) ?hg ?ho ?hn ?hr ?_; (case ho => rfl); (case hg => rfl); (case hn => rfl); (case hr => (go_simp; done)); intro w18 hw; have hg : w16.grownBy w18 (some go15) := (by rw [hw]; exact HP17.2); have hp_ : Kd.R (Kd.int .i64) 3 w18 w.heap.size (fun _ => True) (.slice (some ⟨go15, 0, none⟩) x9_1.length co15) y588 := (by rw [hw, Ny588.out]; exact HP17.1); clear HP17; have n0_ := Aside0.mk (hp_); have n1_ := Aside0.mk (IsS85.grown HI0.out hg (IsS85.own_ne HI0.out HO_9.out (by decide))); have n2_ := Aside0.mk ((by rw [hw]; exact below_set (HB.out) (Nat.le_trans HL.out GB15.out) : Below w0.heap.size w0 w18)); have n3_ := Aside0.mk (KeepBut.trans HK.out (KeepBut.of_grown hg g) (Kd.R_base2 HO_9.out)); clear HO_9; clear HI0; clear HB; clear HK; have HO_9 := n0_; have HI0 := n1_; have HB := n2_; have HK := n3_; clear n0_ n1_ n2_ n3_; clear hg hw hp_))
         go_roundg k1
         case measure => have := HK1.out; omega
         case rel => exact ⟨(y588), (wrap64 (x22_1 + 1)), (t585), (t586), (t587), (by rfl), H', ⟨by have := HK1.out; omega⟩, ⟨HO_9.out⟩, ⟨by exact HI0.out⟩, ⟨by exact HK.out⟩, ⟨by exact HB.out⟩⟩
        ·rw [if_neg c14] at H
         exact absurd H (by simp)
       ·rw [if_neg c12] at H
        exact absurd H (by simp)
      ·rw [if_neg c11] at H
       exact absurd H (by simp)
     ·rw [if_neg c10] at H
      have c10b0 : decide (x22_1 < (l1.length : Int)) = false := decide_eq_false c10
      clear c10
      have H' := Aside0.mk H
      clear H
      go_wp2
      go_loopg [36] k1 (fun kq v36 w' => ∃ (x9_2 : List Int) (x36_2 : Int) (x1000_2 : Int) (x1001_2 : Int) (x1003_2 : Int), v36 = .int .i64 x36_2 ∧ Aside0 (poly_combine.l1 kq a2 x9_2 l3 (l3.length : Int) x36_2 x1000_2 x1001_2 s0_2 x1003_2 s0_4 s0_5 = some (r1, r2, r3, r4)) ∧ Aside0 (kq ≤ k1) ∧ Aside0 (Kd.R (Kd.int .i64) 3 w' w.heap.size (fun _ => True) v581 x9_2) ∧ Aside0 (IsS85 w0 w' g x1000_2 x1001_2 s0_2 x1003_2 s0_4 s0_5) ∧ Aside0 (KeepBut w w' g none) ∧ Aside0 (Below w0.heap.size w0 w'))
      case atStart => exact ⟨(x9_1), (0), (x1000_1), (x1001_1), (x1003_1), (by rfl), H', ⟨Nat.le_refl _⟩, ⟨HO_9.out⟩, ⟨by exact HI0.out⟩, ⟨by exact HK.out⟩, ⟨by exact HB.out⟩⟩
      case round =>
       clear H' c10b0
       obtain ⟨x9_2, x36_2, x1000_2, x1001_2, x1003_2, rfl, HA, HK2, HO_9, HI0, HK, HB⟩ := hrel
       cases gk with
       | zero => exact absurd HA.out (by simp [poly_combine.l1])
       | succ k2 =>
        have H := HA.out
        clear HA
        simp only [poly_combine.l1] at H
        by_cases c19 : x36_2 < (l3.length : Int)
        ·rw [if_pos c19] at H
         have c19b0 : decide (x36_2 < (l3.length : Int)) = true := decide_eq_true c19
         clear c19
         by_cases c20 : 0 ≤ x36_2
         ·rw [if_pos c20] at H
          have c20b0 : decide (0 ≤ x36_2) = true := decide_eq_true c20
          clear c20
          by_cases c21 : x36_2 < (l3.length : Int)
          ·rw [if_pos c21] at H
           have c21b0 : decide (x36_2 < (l3.length : Int)) = true := decide_eq_true c21
           clear c21
           by_cases c22 : x36_2 < (x9_2.length : Int)
           ·rw [if_pos c22] at H
            have c22b0 : decide (x36_2 < (x9_2.length : Int)) = true := decide_eq_true c22
            clear c22
            replace H := Option.bind_eq_some_iff.mp H
            obtain ⟨⟨t591, t592, t593, t594⟩, A230, H⟩ := H
            replace H : ((field_GF_Add.f k2 t592 t593 s0_2 t594 s0_4 s0_5 (rd x9_2 x36_2) t591).bind fun bt595 => (poly_combine.l1 k2 a2 (x9_2.set (x36_2 : Int).toNat bt595.1) l3 (l3.length : Int) (wrap64 (x36_2 + 1)) bt595.2.1 bt595.2.2.1 s0_2 bt595.2.2.2 s0_4 s0_5)) = some (r1, r2, r3, r4) := H
            have A23 := Aside0.mk A230
            clear A230
            replace H := Option.bind_eq_some_iff.mp H
            obtain ⟨⟨t595, t596, t597, t598⟩, A240, H⟩ := H
            replace H : (poly_combine.l1 k2 a2 (x9_2.set (x36_2 : Int).toNat t595) l3 (l3.length : Int) (wrap64 (x36_2 + 1)) t596 t597 s0_2 t598 s0_4 s0_5) = some (r1, r2, r3, r4) := H
            have A24 := Aside0.mk A240
            clear A240
            obtain ⟨y599, hy599⟩ : ∃ y_ : List Int, y_ = (x9_2.set (x36_2 : Int).toNat t595) := ⟨_, rfl⟩
            replace H : (poly_combine.l1 k2 a2 y599 l3 (l3.length : Int) (wrap64 (x36_2 + 1)) t596 t597 s0_2 t598 s0_4 s0_5) = some (r1, r2, r3, r4) := by (rw [hy599]; with_reducible exact H)
            have Ny599 := Aside0.mk hy599
            clear hy599
            have H' := Aside0.mk H
            clear H
            have p589 : 0 ≤ (x36_2 : Int) := of_decide_eq_true (by (with_reducible assumption))
            have q589 : x36_2 < (l3.length : Int) := of_decide_eq_true (by (with_reducible assumption))
            obtain ⟨ad589, e589, hx589_0⟩ := Kd.at_int HR3.out x36_2 p589 q589
            cases e589
            replace hx589_0 := keep_cell HK.out hx589_0 (by (rw [add_block]; exact hf3 _ rfl (by omega)))
            replace p589 := eq_true p589
            replace q589 := eq_true q589
            (go_wp2)
            have n0_ := Aside0.mk (Kd.R_drew HO_9.out)
            have n1_ := Aside0.mk (IsS85.drew HI0.out)
            have n2_ := Aside0.mk (keep_drew HK.out)
            have n3_ := Aside0.mk (below_drew1 HB.out)
            clear HO_9 HI0 HK HB
            have HO_9 := n0_
            have HI0 := n1_
            have HK := n2_
            have HB := n3_
            clear n0_ n1_ n2_ n3_
            obtain ⟨Ao27, co27, eo27⟩ := Kd.R_slice HO_9.out
            ((subst eo27))
            have p590 : 0 ≤ (x36_2 : Int) := of_decide_eq_true (by (with_reducible assumption))
            have q590 : x36_2 < (x9_2.length : Int) := of_decide_eq_true (by (with_reducible assumption))
            obtain ⟨ad590, e590, hx590_0⟩ := Kd.at_int (Kd.R_reads' HO_9.out).2.2 x36_2 p590 q590
            cases e590
            replace p590 := eq_true p590
            replace q590 := eq_true q590
            refine start_ (n := 14) (S := fun w' => w'.cell? (ad590.add (x36_2).toNat) = some (.int .i64 (rd x9_2 x36_2))) (ds := [13]) (bm 14 0) (by kernel_rfl) rfl rfl (hx590_0) (fun hHeld => ?_); refine with_tabW poly_combine.tab10 poly_combine.bits10 (fun HT_ HW_ => ?_)
            generalize wr.drew = w26 at HO_9 HI0 HK HB hx590_0 hHeld ⊢
            refine pure_ (i := 0) (N := some 41) (v := ?_) (a' := ?_) (bm 14 1) rfl rfl (any_of HT_.out (by kernel_rfl)) (fun _ _ _ h => h) (Or.inl ⟨by rfl, ?_⟩) ?_ ?_;rotate_left;(intro w';go_simp;with_reducible rfl);rotate_left;(simp only [ps_];rfl)
            refine pure_ (i := 1) (N := some 42) (v := ?_) (a' := ?_) (bm 14 3) rfl rfl (any_of HT_.out (by kernel_rfl)) (fun _ _ _ h => h) (Or.inl ⟨by rfl, ?_⟩) ?_ ?_;rotate_left;(intro w';go_simp;with_reducible rfl);rotate_left;(simp only [ps_];rfl)
            refine pure_ (i := 2) (N := some 43) (v := ?_) (a' := ?_) (bm 14 7) rfl rfl (any_of HT_.out (by kernel_rfl)) (fun _ _ _ h => h) (Or.inl ⟨by rfl, ?_⟩) ?_ ?_;rotate_left;(intro w';go_simp;with_reducible rfl);rotate_left;(simp only [ps_];rfl)
            refine pure_ (i := 3) (N := some 44) (v := ?_) (a' := ?_) (bm 14 15) rfl rfl (any_of HT_.out (by kernel_rfl)) (fun _ _ _ h => h) (Or.inl ⟨by rfl, ?_⟩) ?_ ?_;rotate_left;(intro w';go_simp;with_reducible rfl);rotate_left;(simp only [ps_];rfl)
            refine pure_ (i := 4) (N := some 45) (v := ?_) (a' := ?_) (bm 14 31) rfl rfl (any_of HT_.out (by kernel_rfl)) (fun _ _ _ h => h) (Or.inl ⟨by rfl, ?_⟩) ?_ ?_;rotate_left;(intro w';go_simp;with_reducible rfl);rotate_left;(simp only [ps_];rfl)
            refine pure_ (i := 5) (N := some 46) (v := ?_) (a' := ?_) (bm 14 63) rfl rfl (any_of HT_.out (by kernel_rfl)) (fun _ _ _ h => h) (Or.inl ⟨by rfl, ?_⟩) ?_ ?_;rotate_left;(intro w';go_simp;with_reducible rfl);rotate_left;(simp only [ps_];rfl)
            refine pure_ (i := 7) (N := some 48) (v := ?_) (a' := ?_) (bm 14 191) rfl rfl (any_of HT_.out (by kernel_rfl)) (fun _ _ _ h => h) (Or.inl ⟨by rfl, ?_⟩) ?_ ?_;rotate_left;(intro w';go_simp;with_reducible rfl);rotate_left;(simp only [ps_];rfl)
            refine pure_ (i := 8) (N := some 49) (v := ?_) (a' := ?_) (bm 14 447) rfl rfl (any_of HT_.out (by kernel_rfl)) (fun _ _ _ h => h) (Or.inl ⟨by rfl, ?_⟩) ?_ ?_;rotate_left;(intro w';go_simp;with_reducible rfl);rotate_left;(simp only [ps_];rfl)
            refine pure_ (i := 9) (N := some 50) (v := ?_) (a' := ?_) (bm 14 959) rfl rfl (any_of HT_.out (by kernel_rfl)) (fun _ _ _ h => h) (Or.inl ⟨by rfl, ?_⟩) ?_ ?_;rotate_left;(intro w';go_simp;with_reducible rfl);rotate_left;(simp only [ps_];rfl)
            refine take_ (i := 6) (N := some 47) (v := ?_) (a' := ?_) (bm 14 1023) rfl rfl (take_ofW HT_.out HW_.out (by kernel_rfl)) (fun _ _ _ h => h) (Or.inl ⟨by rfl, ?_⟩) hHeld ?_ ?_
            rotate_left
            ·intro w' s0
             go_simp
             with_reducible rfl
            rotate_left
            ·simp only [Act.put, List.setIfInBounds_toArray, List.set_cons_zero, List.set_cons_succ, i64_w, i32_w]
             rfl
            refine one_ (i := 10) (N := some 51) (bm 14 2047) rfl rfl (one_of HT_.out (by kernel_rfl)) (by decide) (fun K hK => ?_)
            refine goes_ Try.func49 (by kernel_rfl) rfl #[.pointer (some ⟨g, 0, none⟩), .int .i64 a2, .int .i64 (rd l3 x36_2)] (by rfl) rfl rfl (by ((simp only [List.map_toArray, List.map_cons, List.map_nil])); (rfl)) ?_
            with_reducible refine (field_GF_Mul.calls g x1000_2 x1001_2 s0_2 x1003_2 s0_4 s0_5 a2 (rd l3 x36_2) t591 t592 t593 t594 w0 _ ?side1 ?side2 A23.out).mono ?_
            (case side1 => repeat ((with_reducible (exact HI0.out))))
            (case side2 => repeat ((with_reducible (exact HB.out))))
            rintro e w28 ⟨rfl, hi, hb, hk⟩
            have HS0_ := keep_cell hk (hHeld) (by (rw [add_block]; exact Kd.own_blk (IsS85.own_ne HI0.out HO_9.out (by decide))))
            refine ⟨_, rfl, ?_⟩
            have n0_ := Aside0.mk (Kd.R_mono (Kd.R_keep (IsS85.apart (show IsS85 w0 _ g x1000_2 x1001_2 s0_2 x1003_2 s0_4 s0_5 from by exact HI0.out) HO_9.out (by decide)) hk (fun _ h => h.2)) (fun _ h => h.1))
            have n1_ := Aside0.mk (KeepBut.trans HK.out hk (.inl rfl))
            have n2_ := Aside0.mk (hb)
            have n3_ := Aside0.mk (hi)
            clear HO_9 HK HB HI0
            have HO_9 := n0_
            have HK := n1_
            have HB := n2_
            have HI0 := n3_
            clear n0_ n1_ n2_ n3_
            ((clear hb))
            ((clear hk))
            ((clear hi))
            refine hK.out _ _ (HS0_) (fun hHeld => ?_)
            clear hK K
            refine norm_ (a' := ?_) ?_ ?_
            rotate_left
            ·show Act.put _ (some 51) _ = _
             simp only [Act.put, List.setIfInBounds_toArray, List.set_cons_zero, List.set_cons_succ, i64_w, i32_w]
             rfl
            refine one_ (i := 11) (N := some 52) (bm 14 4095) rfl rfl (one_of HT_.out (by kernel_rfl)) (by decide) (fun K hK => ?_)
            refine goes_ Try.func58 (by kernel_rfl) rfl #[.pointer (some ⟨g, 0, none⟩), .int .i64 (rd x9_2 x36_2), .int .i64 t591] (by rfl) rfl rfl (by ((simp only [List.map_toArray, List.map_cons, List.map_nil])); (rfl)) ?_
            with_reducible refine (field_GF_Add.calls k2 g t592 t593 s0_2 t594 s0_4 s0_5 (rd x9_2 x36_2) t591 t595 t596 t597 t598 w0 _ ?side1 ?side2 A24.out).mono ?_
            (case side1 => repeat ((with_reducible (exact HI0.out))))
            (case side2 => repeat ((with_reducible (exact HB.out))))
            rintro e w29 ⟨rfl, hi, hb, hk⟩
            have HS0_ := keep_cell hk (hHeld) (by (rw [add_block]; exact Kd.own_blk (IsS85.own_ne HI0.out HO_9.out (by decide))))
            refine ⟨_, rfl, ?_⟩
            have n0_ := Aside0.mk (Kd.R_mono (Kd.R_keep (IsS85.apart (show IsS85 w0 _ g t592 t593 s0_2 t594 s0_4 s0_5 from by exact HI0.out) HO_9.out (by decide)) hk (fun _ h => h.2)) (fun _ h => h.1))
            have n1_ := Aside0.mk (KeepBut.trans HK.out hk (.inl rfl))
            have n2_ := Aside0.mk (hb)
            have n3_ := Aside0.mk (hi)
            clear HO_9 HK HB HI0
            have HO_9 := n0_
            have HK := n1_
            have HB := n2_
            have HI0 := n3_
            clear n0_ n1_ n2_ n3_
            ((clear hb))
            ((clear hk))
            ((clear hi))
            have p25 : 0 ≤ (x36_2 : Int) := of_decide_eq_true (by (with_reducible assumption))
            have q25 : (x36_2 : Int) < ((x9_2.length : Int) : Int) := of_decide_eq_true (by (with_reducible assumption))
            obtain ⟨go25, co25, eo25, gb25, gl25, cl25, HG25⟩ := Kd.R_form HO_9.out (by omega)
            ((cases eo25))
            have GB25 := Aside0.mk gb25
            have GG25 := Aside0.mk HG25
            clear gb25 gl25 HG25
            ((simp only [add_plain] at hx590_0))
            obtain ⟨hx25_0, hf25_0⟩ := Kd.R_celln 0 HO_9.out (x36_2 : Int) p25 q25
            replace p25 := eq_true p25
            replace q25 := eq_true q25
            have HN0_go25 := Aside0.mk (show g ≠ go25 from by have h_ := IsS85.own_ne HI0.out HO_9.out (by decide); intro e_; exact h_ (by rw [e_]; rfl))
            have HP30 := Kd.R_putn HO_9.out (x36_2 : Int) t595
            rw [← Ny599.out] at HP30
            have HQ30 := Aside0.mk HP30
            clear HP30
            refine hK.out _ _ (HS0_) (fun hHeld => ?_)
            clear hK K
            refine norm_ (a' := ?_) ?_ ?_
            rotate_left
            ·show Act.put _ (some 52) _ = _
             simp only [Act.put, List.setIfInBounds_toArray, List.set_cons_zero, List.set_cons_succ, i64_w, i32_w]
             rfl
            refine pure_ (i := 12) (N := some 53) (v := ?_) (a' := ?_) (bm 14 8191) rfl rfl (any_of HT_.out (by kernel_rfl)) (fun _ _ _ h => h) (Or.inl ⟨by rfl, ?_⟩) ?_ ?_;rotate_left;(intro w';go_simp;with_reducible rfl);rotate_left;(simp only [ps_];rfl)
            refine last_ (i := 13) (N := none) (bm 14 16383) rfl rfl (one_of HT_.out (by kernel_rfl)) (by decide) (fun K hK => ?_)
            refine skip_ (w1 := ?_) (by rfl) rfl ?_ ?_
            rotate_left
            ·go_simp
             rfl
            refine hK.out _ _ ?_
            clear hK K
            refine done_ (done_of HT_.out (by kernel_rfl)) ?_
            (go_wp2)
            go_roundg k2
            case measure => have := HK1.out; have := HK2.out; omega
            case rel => exact ⟨(y599), (wrap64 (x36_2 + 1)), (t596), (t597), (t598), (by rfl), H', ⟨by have := HK1.out; have := HK2.out; omega⟩, ⟨HQ30.out⟩, ⟨by repeat ((with_reducible first | (exact HI0.out) | (refine IsS85.far ?_ HN0_go25.out _)))⟩, ⟨by repeat ((with_reducible first | (exact HK.out) | (refine keep_far ?_ GB25.out _)))⟩, ⟨by repeat ((with_reducible first | (exact HB.out) | (refine below_set ?_ (Nat.le_trans HL.out GB25.out))))⟩⟩
           ·rw [if_neg c22] at H
            exact absurd H (by simp)
          ·rw [if_neg c21] at H
           exact absurd H (by simp)
         ·rw [if_neg c20] at H
          exact absurd H (by simp)
        ·rw [if_neg c19] at H
         have c19b0 : decide (x36_2 < (l3.length : Int)) = false := decide_eq_false c19
         clear c19
         obtain ⟨t600, A310, H⟩ := Option.bind_eq_some_iff.mp H
         replace H : (some (t600, x1000_2, x1001_2, x1003_2)) = some (r1, r2, r3, r4) := H
         have A31 := Aside0.mk A310
         clear A310
         simp only [Option.some.injEq, Prod.mk.injEq] at H
         obtain ⟨rfl, rfl, rfl, rfl⟩ := H
         obtain ⟨Ao32, co32, eo32⟩ := Kd.R_slice HO_9.out
         subst eo32
         go_wp2_with (((with_reducible refine gate_callee (f := 50) rfl ?_); refine goesL_ (some 56) rfl rfl Try.func50 (by kernel_rfl) rfl #[.slice Ao32 x9_2.length co32] rfl (by ((simp only [List.map_toArray, List.map_cons, List.map_nil])); (rfl)) ?_; (with_reducible refine (poly_trim.calls k2 (fun k_ => some k_ = (.slice Ao32 x9_2.length co32 : Value).ownBlock) (.slice Ao32 x9_2.length co32) x9_2 t600 w0 _ ?side1 ?side2 A31.out).mono ?_); (case side1 => repeat ((with_reducible (exact HB.out)))); (case side2 => exact Kd.R_lower (Kd.R_tight rfl HO_9.out) HL.out); rintro e w33 ⟨v601, rfl, ho0, hb, hkp⟩; refine ⟨_, rfl, ?_⟩; have n0_ := Aside0.mk (IsS85.kept HI0.out hkp (fun hs_ => (fun e_ => (IsS85.own_ne HI0.out HO_9.out (by decide)) e_) hs_)); have n1_ := Aside0.mk (Kd.R_mono (ok' := fun k_ => True) (Kd.R_raise (d := (Kd.int .i64)) (b := w0.heap.size) (b' := w.heap.size) (fun _ _ _ _ h_ => h_) ho0 (fun k_ e_ => Or.elim (ho0.1 k_ e_) (fun hs_ => (fun e_ => Kd.R_base HO_9.out k_ e_.symm) hs_) (fun hn_ => Nat.le_trans (keep_size (w := w) (g := g) (row := none) HK.out) hn_))) (fun k_ hk_ => trivial)); have n2_ := Aside0.mk (Kept.keepG HK.out hkp (fun k_ hs_ => (fun e_ => .inr (Kd.R_base HO_9.out k_ e_.symm)) hs_)); have n3_ := Aside0.mk (hb); clear HI0; clear HK; clear HB; clear HO_9; have HI0 := n0_; have HO602 := n1_; have HK := n2_; have HB := n3_; clear n0_ n1_ n2_ n3_; ((clear hb)); ((clear hkp)); ((clear ho0))))
         go_ret
         exact ⟨_, by rfl, by exact HO602.out, by exact HI0.out, by exact HB.out, by exact HK.out⟩
  ·rw [if_neg c7] at H
   exact absurd H (by simp)
 ·rw [if_neg c6] at H
  exact absurd H (by simp)
end Go.Proofs.Ytiejggpmjapajaa.PA
end
section
namespace Go.Proofs.Ytiejggpmjapajaa.PA
open Go.RowKit Go.Proofs.YtiejggpmjapajaaW.PrintWords Go.Proofs.YtiejggpmjapajaaW.PrintLast Go.Proofs.YtiejggpmjapajaaW.PrintMore
attribute [local go_sem] max2_int min2_int max_two min_two max_three min_three max_four min_four
set_option linter.unusedVariables false
set_option linter.unusedSimpArgs false
def field_GF_Scale.l0 : Nat → Int → List Int → List Int → Int → Int → Int → Int → List Int → Int → List Int → List Int → Option (List Int × Int × Int × Int)
 | 0, _, _, _, _, _, _, _, _, _, _, _ => none
 | k + 1, x1, x7, x13, x14, x15, x1000, x1001, x1002, x1003, x1004, x1005 => if x15 < x14 then (if 0 ≤ x15 then (if x15 < (x13.length : Int) then ((field_GF_Mul.f x1000 x1001 x1002 x1003 x1004 x1005 x1 (rd x13 x15)).bind fun bt636 => (if x15 < (x7.length : Int) then (field_GF_Scale.l0 k x1 (x7.set (x15 : Int).toNat bt636.1) x13 x14 (wrap64 (x15 + 1)) bt636.2.1 bt636.2.2.1 x1002 bt636.2.2.2 x1004 x1005) else (none))) else (none)) else (none)) else (some (x7, x1000, x1001, x1003))
def field_GF_Scale.f (k : Nat) (s0_0 : Int) (s0_1 : Int) (s0_2 : List Int) (s0_3 : Int) (s0_4 : List Int) (s0_5 : List Int) (a1 : Int) (l2 : List Int) : Option (List Int × Int × Int × Int) := if 0 ≤ (l2.length : Int) then (if ((l2.length : Int) : Int).toNat ≤ 35184372088832 then (field_GF_Scale.l0 k a1 (List.replicate ((l2.length : Int) : Int).toNat 0) l2 (l2.length : Int) 0 s0_0 s0_1 s0_2 s0_3 s0_4 s0_5) else (none)) else (none)
set_option maxHeartbeats 8000000 in
set_option maxRecDepth 100000 in
theorem field_GF_Scale.calls (k : Nat) (g : Nat) (s0_0 : Int) (s0_1 : Int) (s0_2 : List Int) (s0_3 : Int) (s0_4 : List Int) (s0_5 : List Int) (a1 : Int) (A2 : Option Addr) (c2 : Nat) (l2 : List Int) (r1 : List Int) (r2 : Int) (r3 : Int) (r4 : Int) (w0 w : World) (hI : IsS85 w0 w g s0_0 s0_1 s0_2 s0_3 s0_4 s0_5) (hB : Below w0.heap.size w0 w) (hr2 : Kd.C (Kd.int .i64) w A2 l2.length l2) (hc2 : l2.length ≤ c2) (hf2 : ∀ ad, A2 = some ad → 0 < l2.length → ad.block ≠ g) (h : field_GF_Scale.f k s0_0 s0_1 s0_2 s0_3 s0_4 s0_5 a1 l2 = some (r1, r2, r3, r4)) :
  Calls Try.prog 74 #[.pointer (some ⟨g, 0, none⟩), .int .i64 a1, .slice A2 l2.length c2] w fun e w' => ∃ v0_ : Value, e = .returned (v0_) ∧ Kd.R (Kd.int .i64) 3 w' w.heap.size (fun _ => True) v0_ r1 ∧ IsS85 w0 w' g r2 r3 s0_2 r4 s0_4 s0_5 ∧ Below w0.heap.size w0 w' ∧ KeepBut w w' g none := by
 have HR2 := Aside0.mk hr2
 have HC2 := Aside0.mk hc2
 clear hr2 hc2
 have HI0 := Aside0.mk hI
 have HK := Aside0.mk (KeepBut.refl w g none)
 have HL := Aside0.mk hB.size
 clear hI
 have HW0 := Aside0.mk hB.size
 have HB := Aside0.mk hB
 clear hB
 have H : (if 0 ≤ (l2.length : Int) then (if ((l2.length : Int) : Int).toNat ≤ 35184372088832 then (field_GF_Scale.l0 k a1 (List.replicate ((l2.length : Int) : Int).toNat 0) l2 (l2.length : Int) 0 s0_0 s0_1 s0_2 s0_3 s0_4 s0_5) else (none)) else (none)) = some (r1, r2, r3, r4) := h
 clear h
 by_cases c4 : 0 ≤ (l2.length : Int)
 ·rw [if_pos c4] at H
  have c4b0 := eq_true c4
  have c4b1 : decide (0 ≤ (l2.length : Int)) = true := decide_eq_true c4
  clear c4
  by_cases c5 : ((l2.length : Int) : Int).toNat ≤ 35184372088832
  ·rw [if_pos c5] at H
   have c5b0 := eq_true c5
   have c5b1 : decide (((l2.length : Int) : Int).toNat ≤ 35184372088832) = true := decide_eq_true c5
   clear c5
   obtain ⟨y632, hy632⟩ : ∃ y_ : List Int, y_ = (List.replicate ((l2.length : Int) : Int).toNat 0) := ⟨_, rfl⟩
   replace H : (field_GF_Scale.l0 k a1 y632 l2 (l2.length : Int) 0 s0_0 s0_1 s0_2 s0_3 s0_4 s0_5) = some (r1, r2, r3, r4) := by (rw [hy632]; with_reducible exact H)
   have Ny632 := Aside0.mk hy632
   clear hy632
   have H' := Aside0.mk H
   clear H
   go_enter Try.func74, Try.ntmps74
   go_wp2_with (((with_reducible refine gate_dst (N := 12) rfl ?_); refine Kd.R_make (Kd.int .i64) _ 3 rfl (N := 12) rfl 22 _ _ rfl (l2.length : Int) rfl rfl Try.underlying22 (.int .i64 0) 8 info3 rfl (by decide) (by omega) 0 (ok := fun _ => True) (okp := fun _ => True) rfl (fun _ hk => hk) trivial (of_decide_eq_true (by (with_reducible assumption))) (Nat.le_trans (Nat.mul_le_mul_right _ (of_decide_eq_true (by (with_reducible assumption)) : (l2.length : Int).toNat ≤ 35184372088832)) (by omega)) (Below.refl _ _) (Nat.le_refl _) ?_; intro v633 w6 ho7 hb hg_ hnew_; clear hg_ hnew_; ((rw [← Ny632.out] at ho7)); have n0_ := Aside0.mk (Kd.R_lower ho7 (keep_size (w := w) (g := g) (row := none) HK.out)); have n1_ := Aside0.mk (IsS85.below HI0.out hb); have n2_ := Aside0.mk (KeepBut.trans HK.out (KeepBut.of_below hb g none) (.inl rfl)); have n3_ := Aside0.mk (below_step HB.out hb); clear HI0; clear HK; clear HB; have HO634 := n0_; have HI0 := n1_; have HK := n2_; have HB := n3_; clear n0_ n1_ n2_ n3_; clear hb ho7))
   go_loopg [15] k (fun kq v15 w' => ∃ (x7_1 : List Int) (x15_1 : Int) (x1000_1 : Int) (x1001_1 : Int) (x1003_1 : Int), v15 = .int .i64 x15_1 ∧ Aside0 (field_GF_Scale.l0 kq a1 x7_1 l2 (l2.length : Int) x15_1 x1000_1 x1001_1 s0_2 x1003_1 s0_4 s0_5 = some (r1, r2, r3, r4)) ∧ Aside0 (kq ≤ k) ∧ Aside0 (Kd.R (Kd.int .i64) 3 w' w.heap.size (fun _ => True) v633 x7_1) ∧ Aside0 (IsS85 w0 w' g x1000_1 x1001_1 s0_2 x1003_1 s0_4 s0_5) ∧ Aside0 (KeepBut w w' g none) ∧ Aside0 (Below w0.heap.size w0 w'))
   case atStart => exact ⟨(y632), (0), (s0_0), (s0_1), (s0_3), (by rfl), H', ⟨Nat.le_refl _⟩, ⟨HO634.out⟩, ⟨by exact HI0.out⟩, ⟨by exact HK.out⟩, ⟨by exact HB.out⟩⟩
   case round =>
    clear H' c4b0 c4b1 c5b0 c5b1
    obtain ⟨x7_1, x15_1, x1000_1, x1001_1, x1003_1, rfl, HA, HK1, HO_7, HI0, HK, HB⟩ := hrel
    cases gk with
    | zero => exact absurd HA.out (by simp [field_GF_Scale.l0])
    | succ k1 =>
     have H := HA.out
     clear HA
     simp only [field_GF_Scale.l0] at H
     by_cases c8 : x15_1 < (l2.length : Int)
     ·rw [if_pos c8] at H
      have c8b0 : decide (x15_1 < (l2.length : Int)) = true := decide_eq_true c8
      clear c8
      by_cases c9 : 0 ≤ x15_1
      ·rw [if_pos c9] at H
       have c9b0 : decide (0 ≤ x15_1) = true := decide_eq_true c9
       clear c9
       by_cases c10 : x15_1 < (l2.length : Int)
       ·rw [if_pos c10] at H
        have c10b0 : decide (x15_1 < (l2.length : Int)) = true := decide_eq_true c10
        clear c10
        replace H := Option.bind_eq_some_iff.mp H
        obtain ⟨⟨t636, t637, t638, t639⟩, A110, H⟩ := H
        replace H : (if x15_1 < (x7_1.length : Int) then (field_GF_Scale.l0 k1 a1 (x7_1.set (x15_1 : Int).toNat t636) l2 (l2.length : Int) (wrap64 (x15_1 + 1)) t637 t638 s0_2 t639 s0_4 s0_5) else (none)) = some (r1, r2, r3, r4) := H
        have A11 := Aside0.mk A110
        clear A110
        by_cases c12 : x15_1 < (x7_1.length : Int)
        ·rw [if_pos c12] at H
         have c12b0 : decide (x15_1 < (x7_1.length : Int)) = true := decide_eq_true c12
         clear c12
         obtain ⟨y640, hy640⟩ : ∃ y_ : List Int, y_ = (x7_1.set (x15_1 : Int).toNat t636) := ⟨_, rfl⟩
         replace H : (field_GF_Scale.l0 k1 a1 y640 l2 (l2.length : Int) (wrap64 (x15_1 + 1)) t637 t638 s0_2 t639 s0_4 s0_5) = some (r1, r2, r3, r4) := by (rw [hy640]; with_reducible exact H)
         have Ny640 := Aside0.mk hy640
         clear hy640
         have H' := Aside0.mk H
         clear H
         have p635 : 0 ≤ (x15_1 : Int) := of_decide_eq_true (by (with_reducible assumption))
         have q635 : x15_1 < (l2.length : Int) := of_decide_eq_true (by (with_reducible assumption))
         obtain ⟨ad635, e635, hx635_0⟩ := Kd.at_int HR2.out x15_1 p635 q635
         cases e635
         replace hx635_0 := keep_cell HK.out hx635_0 (by (rw [add_block]; exact hf2 _ rfl (by omega)))
         replace p635 := eq_true p635
         replace q635 := eq_true q635
         go_wp2_with (first | ((with_reducible refine gate_callee (f := 49) rfl ?_); refine goesL_ (some 25) rfl rfl Try.func49 (by kernel_rfl) rfl #[.pointer (some ⟨g, 0, none⟩), .int .i64 a1, .int .i64 (rd l2 x15_1)] rfl (by ((simp only [List.map_toArray, List.map_cons, List.map_nil])); (rfl)) ?_; (with_reducible refine (field_GF_Mul.calls g x1000_1 x1001_1 s0_2 x1003_1 s0_4 s0_5 a1 (rd l2 x15_1) t636 t637 t638 t639 w0 _ ?side1 ?side2 A11.out).mono ?_); (case side1 => repeat ((with_reducible (exact HI0.out)))); (case side2 => repeat ((with_reducible (exact HB.out)))); rintro e w14 ⟨rfl, hi, hb, hk⟩; refine ⟨_, rfl, ?_⟩; have n0_ := Aside0.mk (Kd.R_mono (Kd.R_keep (IsS85.apart (show IsS85 w0 _ g x1000_1 x1001_1 s0_2 x1003_1 s0_4 s0_5 from by exact HI0.out) HO_7.out (by decide)) hk (fun _ h => h.2)) (fun _ h => h.1)); have n1_ := Aside0.mk (KeepBut.trans HK.out hk (.inl rfl)); have n2_ := Aside0.mk (hb); have n3_ := Aside0.mk (hi); clear HO_7; clear HK; clear HB; clear HI0; have HO_7 := n0_; have HK := n1_; have HB := n2_; have HI0 := n3_; clear n0_ n1_ n2_ n3_; ((clear hb)); (skip); ((clear hk)); ((clear hi)); have p13 : 0 ≤ (x15_1 : Int) := of_decide_eq_true (by (with_reducible assumption)); have q13 : (x15_1 : Int) < ((x7_1.length : Int) : Int) := of_decide_eq_true (by (with_reducible assumption)); obtain ⟨go13, co13, eo13, gb13, gl13, cl13, HG13⟩ := Kd.R_form HO_7.out (by omega); ((cases eo13)); have GB13 := Aside0.mk gb13; have GG13 := Aside0.mk HG13; clear gb13 gl13 HG13; obtain ⟨hx13_0, hf13_0⟩ := Kd.R_celln 0 HO_7.out (x15_1 : Int) p13 q13; replace p13 := eq_true p13; replace q13 := eq_true q13; obtain ⟨hy15_, hz15_⟩ := Kd.R_celln 0 HO_7.out (x15_1 : Int) (of_decide_eq_true (by (with_reducible assumption))) (of_decide_eq_true (by (with_reducible assumption))); have HP15 := Kd.R_putg HO_7.out (x15_1 : Int) t636) | ((with_reducible refine gate_store (t := 3) (p := 26) rfl ?_); refine store_event (t := 3) (p := 26) (v := ?vo_w16) (w1 := (w14.setCell ⟨go13, (x15_1 : Int).toNat, none⟩ (.int .i64 t636))) ?hg ?ho ?hn ?hr ?_; (case ho => rfl); (case hg => rfl); (case hn => rfl); (case hr => (go_simp; done)); intro w16 hw; have hg : w14.grownBy w16 (some go13) := (by rw [hw]; exact HP15.2); have hp_ : Kd.R (Kd.int .i64) 3 w16 w.heap.size (fun _ => True) (.slice (some ⟨go13, 0, none⟩) x7_1.length co13) y640 := (by rw [hw, Ny640.out]; exact HP15.1); clear HP15; have n0_ := Aside0.mk (hp_); have n1_ := Aside0.mk (IsS85.grown HI0.out hg (IsS85.own_ne HI0.out HO_7.out (by decide))); have n2_ := Aside0.mk ((by rw [hw]; exact below_set (HB.out) (Nat.le_trans HL.out GB13.out) : Below w0.heap.size w0 w16)); have n3_ := Aside0.mk (KeepBut.trans HK.out (KeepBut.of_grown hg g) (Kd.R_base2 HO_7.out)); clear HO_7; clear HI0; clear HB; clear HK; have HO_7 := n0_; have HI0 := n1_; have HB := n2_; have HK := n3_; clear n0_ n1_ n2_ n3_; clear hg hw hp_))
         go_roundg k1
         case measure => have := HK1.out; omega
         case rel => exact ⟨(y640), (wrap64 (x15_1 + 1)), (t637), (t638), (t639), (by rfl), H', ⟨by have := HK1.out; omega⟩, ⟨HO_7.out⟩, ⟨by exact HI0.out⟩, ⟨by exact HK.out⟩, ⟨by exact HB.out⟩⟩
        ·rw [if_neg c12] at H
         exact absurd H (by simp)
       ·rw [if_neg c10] at H
        exact absurd H (by simp)
      ·rw [if_neg c9] at H
       exact absurd H (by simp)
     ·rw [if_neg c8] at H
      have c8b0 : decide (x15_1 < (l2.length : Int)) = false := decide_eq_false c8
      clear c8
      simp only [Option.some.injEq, Prod.mk.injEq] at H
      obtain ⟨rfl, rfl, rfl, rfl⟩ := H
      go_wp2
      go_ret
      exact ⟨_, by rfl, by exact HO_7.out, by exact HI0.out, by exact HB.out, by exact HK.out⟩
  ·rw [if_neg c5] at H
   exact absurd H (by simp)
 ·rw [if_neg c4] at H
  exact absurd H (by simp)
def poly_Monic.f (k : Nat) (s0_0 : Int) (s0_1 : Int) (s0_2 : List Int) (s0_3 : Int) (s0_4 : List Int) (s0_5 : List Int) (l1 : List Int) : Option (List Int × Int × Int × Int × Int) := (poly_Canon.f k s0_0 s0_1 s0_2 s0_3 s0_4 s0_5 l1).bind fun bt641 => (if (bt641.1.length : Int) = 0 then (some (([] : List Int), 7, bt641.2.1, bt641.2.2.1, bt641.2.2.2)) else (if 0 ≤ (wrap64 ((bt641.1.length : Int) - 1)) then (if (wrap64 ((bt641.1.length : Int) - 1)) < (bt641.1.length : Int) then ((field_GF_Inv.f bt641.2.1 bt641.2.2.1 s0_2 bt641.2.2.2 s0_4 s0_5 (rd bt641.1 (wrap64 ((bt641.1.length : Int) - 1)))).bind fun bt648 => ((field_GF_Scale.f k bt648.2.2.1 bt648.2.2.2.1 s0_2 bt648.2.2.2.2 s0_4 s0_5 bt648.1 bt641.1).bind fun bt653 => (some (bt653.1, 0, bt653.2.1, bt653.2.2.1, bt653.2.2.2)))) else (none)) else (none)))
set_option maxHeartbeats 8000000 in
set_option maxRecDepth 100000 in
theorem poly_Monic.calls (k : Nat) (g : Nat) (s0_0 : Int) (s0_1 : Int) (s0_2 : List Int) (s0_3 : Int) (s0_4 : List Int) (s0_5 : List Int) (A1 : Option Addr) (c1 : Nat) (l1 : List Int) (r1 : List Int) (r2 : Int) (r3 : Int) (r4 : Int) (r5 : Int) (w0 w : World) (hI : IsS85 w0 w g s0_0 s0_1 s0_2 s0_3 s0_4 s0_5) (hB : Below w0.heap.size w0 w) (hr1 : Kd.C (Kd.int .i64) w A1 l1.length l1) (hc1 : l1.length ≤ c1) (hf1 : ∀ ad, A1 = some ad → 0 < l1.length → ad.block ≠ g) (h : poly_Monic.f k s0_0 s0_1 s0_2 s0_3 s0_4 s0_5 l1 = some (r1, r2, r3, r4, r5)) :
  Calls Try.prog 45 #[.pointer (some ⟨g, 0, none⟩), .slice A1 l1.length c1] w fun e w' => ∃ v0_ : Value, e = .returned (.tuple #[v0_, .int .i64 r2]) ∧ Kd.R (Kd.int .i64) 3 w' w.heap.size (fun _ => True) v0_ r1 ∧ IsS85 w0 w' g r3 r4 s0_2 r5 s0_4 s0_5 ∧ Below w0.heap.size w0 w' ∧ KeepBut w w' g none := by
 have HR1 := Aside0.mk hr1
 have HC1 := Aside0.mk hc1
 clear hr1 hc1
 have HI0 := Aside0.mk hI
 have HK := Aside0.mk (KeepBut.refl w g none)
 have HL := Aside0.mk hB.size
 clear hI
 have HW0 := Aside0.mk hB.size
 have HB := Aside0.mk hB
 clear hB
 have H : ((poly_Canon.f k s0_0 s0_1 s0_2 s0_3 s0_4 s0_5 l1).bind fun bt641 => (if (bt641.1.length : Int) = 0 then (some (([] : List Int), 7, bt641.2.1, bt641.2.2.1, bt641.2.2.2)) else (if 0 ≤ (wrap64 ((bt641.1.length : Int) - 1)) then (if (wrap64 ((bt641.1.length : Int) - 1)) < (bt641.1.length : Int) then ((field_GF_Inv.f bt641.2.1 bt641.2.2.1 s0_2 bt641.2.2.2 s0_4 s0_5 (rd bt641.1 (wrap64 ((bt641.1.length : Int) - 1)))).bind fun bt648 => ((field_GF_Scale.f k bt648.2.2.1 bt648.2.2.2.1 s0_2 bt648.2.2.2.2 s0_4 s0_5 bt648.1 bt641.1).bind fun bt653 => (some (bt653.1, 0, bt653.2.1, bt653.2.2.1, bt653.2.2.2)))) else (none)) else (none)))) = some (r1, r2, r3, r4, r5) := h
 clear h
 replace H := Option.bind_eq_some_iff.mp H
 obtain ⟨⟨t641, t644, t645, t646⟩, A30, H⟩ := H
 replace H : (if (t641.length : Int) = 0 then (some (([] : List Int), 7, t644, t645, t646)) else (if 0 ≤ (wrap64 ((t641.length : Int) - 1)) then (if (wrap64 ((t641.length : Int) - 1)) < (t641.length : Int) then ((field_GF_Inv.f t644 t645 s0_2 t646 s0_4 s0_5 (rd t641 (wrap64 ((t641.length : Int) - 1)))).bind fun bt648 => ((field_GF_Scale.f k bt648.2.2.1 bt648.2.2.2.1 s0_2 bt648.2.2.2.2 s0_4 s0_5 bt648.1 t641).bind fun bt653 => (some (bt653.1, 0, bt653.2.1, bt653.2.2.1, bt653.2.2.2)))) else (none)) else (none))) = some (r1, r2, r3, r4, r5) := H
 have A3 := Aside0.mk A30
 clear A30
 by_cases c4 : (t641.length : Int) = 0
 ·rw [if_pos c4] at H
  have c4b0 : ((t641.length : Int) == 0) = true := beq_iff_eq.mpr c4
  have c4b1 : ((t641.length : Int) != 0) = false := bne_eq_false_iff_eq.mpr c4
  clear c4
  simp only [Option.some.injEq, Prod.mk.injEq] at H
  obtain ⟨rfl, rfl, rfl, rfl, rfl⟩ := H
  go_enter Try.func45, Try.ntmps45
  go_wp2_with (((with_reducible refine gate_callee (f := 40) rfl ?_); refine goesL_ (some 11) rfl rfl Try.func40 (by kernel_rfl) rfl #[.pointer (some ⟨g, 0, none⟩), .slice A1 l1.length c1] rfl (by ((simp only [List.map_toArray, List.map_cons, List.map_nil])); (rfl)) ?_; (with_reducible refine (poly_Canon.calls k g s0_0 s0_1 s0_2 s0_3 s0_4 s0_5 _ _ l1 t641 t644 t645 t646 w0 _ ?side1 ?side2 ?side3 ?side4 ?side5 A3.out).mono ?_); (case side1 => repeat ((with_reducible (exact HI0.out)))); (case side2 => repeat ((with_reducible (exact HB.out)))); (case side3 => exact Kd.C_keep 0 HR1.out HK.out hf1); (case side4 => exact HC1.out); (case side5 => exact hf1); rintro e w5 ⟨v642, rfl, ho0, hi, hb, hk⟩; refine ⟨_, rfl, ?_⟩; have n0_ := Aside0.mk (Kd.R_lower ho0 (keep_size (w := w) (g := g) (row := none) HK.out)); have n1_ := Aside0.mk (KeepBut.trans HK.out hk (.inl rfl)); have n2_ := Aside0.mk (hb); have n3_ := Aside0.mk (hi); clear HK; clear HB; clear HI0; have HO643 := n0_; have HK := n1_; have HB := n2_; have HI0 := n3_; clear n0_ n1_ n2_ n3_; ((clear hb)); (skip); ((clear hk)); ((clear hi)); ((clear ho0)); obtain ⟨Ao6, co6, eo6⟩ := Kd.R_slice HO643.out; subst eo6))
  go_ret2
  exact ⟨_, by rfl, by (exact Kd.R_nil _ _ _ _ _), by exact HI0.out, by exact HB.out, by exact HK.out⟩
 ·rw [if_neg c4] at H
  have c4b0 : ((t641.length : Int) == 0) = false := beq_eq_false_iff_ne.mpr c4
  have c4b1 : ((t641.length : Int) != 0) = true := bne_iff_ne.mpr c4
  have c4b2 : ¬ (t641 = []) := fun h_ => c4 (by rw [h_]; rfl)
  obtain ⟨ji7, hji7⟩ : ∃ j_ : Int, (wrap64 ((t641.length : Int) - 1)) = j_ := ⟨_, rfl⟩
  replace H : (if 0 ≤ (ji7) then (if (ji7) < (t641.length : Int) then ((field_GF_Inv.f t644 t645 s0_2 t646 s0_4 s0_5 (rd t641 (ji7))).bind fun bt648 => ((field_GF_Scale.f k bt648.2.2.1 bt648.2.2.2.1 s0_2 bt648.2.2.2.2 s0_4 s0_5 bt648.1 t641).bind fun bt653 => (some (bt653.1, 0, bt653.2.1, bt653.2.2.1, bt653.2.2.2)))) else (none)) else (none)) = some (r1, r2, r3, r4, r5) := by (rw [hji7] at H; exact H)
  have hji7w : (IntKind.i64.wrap ((t641.length : Int) - 1)) = ji7 := (i64_w _).trans hji7
  by_cases c8 : 0 ≤ (ji7)
  ·rw [if_pos c8] at H
   have c8b0 : decide (0 ≤ (ji7)) = true := decide_eq_true c8
   clear c8
   by_cases c9 : (ji7) < (t641.length : Int)
   ·rw [if_pos c9] at H
    have c9b0 : decide ((ji7) < (t641.length : Int)) = true := decide_eq_true c9
    clear c9
    replace H := Option.bind_eq_some_iff.mp H
    obtain ⟨⟨t648, t649, t650, t651, t652⟩, A100, H⟩ := H
    replace H : ((field_GF_Scale.f k t650 t651 s0_2 t652 s0_4 s0_5 t648 t641).bind fun bt653 => (some (bt653.1, 0, bt653.2.1, bt653.2.2.1, bt653.2.2.2))) = some (r1, r2, r3, r4, r5) := H
    have A10 := Aside0.mk A100
    clear A100
    replace H := Option.bind_eq_some_iff.mp H
    obtain ⟨⟨t653, t656, t657, t658⟩, A110, H⟩ := H
    replace H : (some (t653, 0, t656, t657, t658)) = some (r1, r2, r3, r4, r5) := H
    have A11 := Aside0.mk A110
    clear A110
    simp only [Option.some.injEq, Prod.mk.injEq] at H
    obtain ⟨rfl, rfl, rfl, rfl, rfl⟩ := H
    go_enter Try.func45, Try.ntmps45
    go_wp2_with (first | ((with_reducible refine gate_callee (f := 40) rfl ?_); refine goesL_ (some 11) rfl rfl Try.func40 (by kernel_rfl) rfl #[.pointer (some ⟨g, 0, none⟩), .slice A1 l1.length c1] rfl (by ((simp only [List.map_toArray, List.map_cons, List.map_nil])); (rfl)) ?_; (with_reducible refine (poly_Canon.calls k g s0_0 s0_1 s0_2 s0_3 s0_4 s0_5 _ _ l1 t641 t644 t645 t646 w0 _ ?side1 ?side2 ?side3 ?side4 ?side5 A3.out).mono ?_); (case side1 => repeat ((with_reducible (exact HI0.out)))); (case side2 => repeat ((with_reducible (exact HB.out)))); (case side3 => exact Kd.C_keep 0 HR1.out HK.out hf1); (case side4 => exact HC1.out); (case side5 => exact hf1); rintro e w12 ⟨v642, rfl, ho0, hi, hb, hk⟩; refine ⟨_, rfl, ?_⟩; have n0_ := Aside0.mk (Kd.R_lower ho0 (keep_size (w := w) (g := g) (row := none) HK.out)); have n1_ := Aside0.mk (KeepBut.trans HK.out hk (.inl rfl)); have n2_ := Aside0.mk (hb); have n3_ := Aside0.mk (hi); clear HK; clear HB; clear HI0; have HO643 := n0_; have HK := n1_; have HB := n2_; have HI0 := n3_; clear n0_ n1_ n2_ n3_; ((clear hb)); (skip); ((clear hk)); ((clear hi)); ((clear ho0)); obtain ⟨Ao13, co13, eo13⟩ := Kd.R_slice HO643.out; subst eo13; have p647 : 0 ≤ ((ji7) : Int) := of_decide_eq_true (by (with_reducible assumption)); have q647 : (ji7) < (t641.length : Int) := of_decide_eq_true (by (with_reducible assumption)); obtain ⟨ad647, e647, hx647_0⟩ := Kd.at_int (Kd.R_reads' HO643.out).2.2 (ji7) p647 q647; cases e647; replace p647 := eq_true p647; replace q647 := eq_true q647) | ((with_reducible refine gate_callee (f := 62) rfl ?_); refine goesL_ (some 23) rfl rfl Try.func62 (by kernel_rfl) rfl #[.pointer (some ⟨g, 0, none⟩), .int .i64 (rd t641 (ji7))] rfl (by ((simp only [List.map_toArray, List.map_cons, List.map_nil])); (rfl)) ?_; (with_reducible refine (field_GF_Inv.calls g t644 t645 s0_2 t646 s0_4 s0_5 (rd t641 (ji7)) t648 t649 t650 t651 t652 w0 _ ?side1 ?side2 A10.out).mono ?_); (case side1 => repeat ((with_reducible (exact HI0.out)))); (case side2 => repeat ((with_reducible (exact HB.out)))); rintro e w14 ⟨rfl, hi, hb, hk⟩; refine ⟨_, rfl, ?_⟩; have n0_ := Aside0.mk (Kd.R_mono (Kd.R_keep (IsS85.apart (show IsS85 w0 _ g t644 t645 s0_2 t646 s0_4 s0_5 from by exact HI0.out) HO643.out (by decide)) hk (fun _ h => h.2)) (fun _ h => h.1)); have n1_ := Aside0.mk (KeepBut.trans HK.out hk (.inl rfl)); have n2_ := Aside0.mk (hb); have n3_ := Aside0.mk (hi); clear HO643; clear HK; clear HB; clear HI0; have HO643 := n0_; have HK := n1_; have HB := n2_; have HI0 := n3_; clear n0_ n1_ n2_ n3_; ((clear hb)); (skip); ((clear hk)); ((clear hi))) | ((with_reducible refine gate_callee (f := 74) rfl ?_); refine goesL_ (some 29) rfl rfl Try.func74 (by kernel_rfl) rfl #[.pointer (some ⟨g, 0, none⟩), .int .i64 t648, .slice (some ad647) t641.length co13] rfl (by ((simp only [List.map_toArray, List.map_cons, List.map_nil])); (rfl)) ?_; (with_reducible refine (field_GF_Scale.calls k g t650 t651 s0_2 t652 s0_4 s0_5 t648 _ _ t641 t653 t656 t657 t658 w0 _ ?side1 ?side2 ?side3 ?side4 ?side5 A11.out).mono ?_); (case side1 => repeat ((with_reducible (exact HI0.out)))); (case side2 => repeat ((with_reducible (exact HB.out)))); (case side3 => repeat ((exact (Kd.R_reads' HO643.out).2.2))); (case side4 => exact (Kd.R_reads' HO643.out).2.1); (case side5 => exact far_slice (IsS85.own_ne HI0.out HO643.out (by decide))); rintro e w15 ⟨v654, rfl, ho0, hi, hb, hk⟩; refine ⟨_, rfl, ?_⟩; have n0_ := Aside0.mk (Kd.R_mono (Kd.R_told (Kd.R_oldK (IsS85.apart (show IsS85 w0 _ g t650 t651 s0_2 t652 s0_4 s0_5 from by exact HI0.out) HO643.out (by decide)) hk) (Kd.R_base ho0)) (fun _ h_ => h_.1)); have n1_ := Aside0.mk (Kd.R_lower (Kd.R_new' ho0 (Kd.R_lt HO643.out)) (keep_size (w := w) (g := g) (row := none) HK.out)); have n2_ := Aside0.mk (KeepBut.trans HK.out hk (.inl rfl)); have n3_ := Aside0.mk (hb); have n4_ := Aside0.mk (hi); clear HO643; clear HK; clear HB; clear HI0; have HO643 := n0_; have HO655 := n1_; have HK := n2_; have HB := n3_; have HI0 := n4_; clear n0_ n1_ n2_ n3_ n4_; ((clear hb)); (skip); ((clear hk)); ((clear hi)); ((clear ho0))))
    go_ret2
    exact ⟨_, by rfl, by exact Kd.R_mono HO655.out (fun _ hk => trivial), by exact HI0.out, by exact HB.out, by exact HK.out⟩
   ·rw [if_neg c9] at H
    exact absurd H (by simp)
  ·rw [if_neg c8] at H
   exact absurd H (by simp)
def codewrightref05_Monic.f (k : Nat) (a0_0 : Int) (a0_1 : Int) (l0_2 : List Int) (l1 : List Int) : Option (List Int) := (codewrightref05_Canon.f k a0_0 a0_1 l0_2 l1).bind fun t689 => (if (t689.length : Int) = 0 then (some t689) else (if 0 ≤ (wrap64 ((t689.length : Int) - 1)) then (if (wrap64 ((t689.length : Int) - 1)) < (t689.length : Int) then ((codewrightref04_Inv.f k a0_0 a0_1 l0_2 (rd t689 (wrap64 ((t689.length : Int) - 1)))).bind fun t693 => ((codewrightref05_Scale.f k a0_0 a0_1 l0_2 t693 t689).bind fun t694 => (some t694))) else (none)) else (none)))
def codewrightref05_Monic.T4 : Bool × List (List Nat × List Nat) := (true, [([], []), ([], []), ([], []), ([], []), ([3], [3]), ([4], [4]), ([2, 5], [2, 5]), ([6], [6]), ([1, 7], [1, 7]), ([], []), ([0, 8, 9, 8], [0, 8, 9]), ([10, 10, 0, 1, 2, 3, 4, 5, 6, 7, 8, 9, 10], [10])])
def codewrightref05_Monic.B4 : List Nat := [0, 0, 0, 0, 8, 24, 60, 124, 254, 0, 1023, 2047]
theorem codewrightref05_Monic.tab4 : rtab .any (opsOf Try.f21 4) = codewrightref05_Monic.T4 := by kernel_rfl
theorem codewrightref05_Monic.bits4 : waitsOk codewrightref05_Monic.T4.2 codewrightref05_Monic.B4 = true := by kernel_rfl
set_option maxHeartbeats 8000000 in
set_option maxRecDepth 100000 in
theorem codewrightref05_Monic.calls (k : Nat) (a0_0 : Int) (a0_1 : Int) (A0_2 : Option Addr) (c0_2 : Nat) (l0_2 : List Int) (A1 : Option Addr) (c1 : Nat) (l1 : List Int) (r : List Int) (w : World) (hr0_2 : Kd.C (Kd.int .i64) w A0_2 l0_2.length l0_2) (hc0_2 : l0_2.length ≤ c0_2) (hr1 : Kd.C (Kd.int .i64) w A1 l1.length l1) (hc1 : l1.length ≤ c1) (h : codewrightref05_Monic.f k a0_0 a0_1 l0_2 l1 = some r) :
  Calls Try.prog 21 #[.agg #[.int .i64 a0_0, .int .i64 a0_1, .slice A0_2 l0_2.length c0_2], .slice A1 l1.length c1] w fun e w' => ∃ v0_ : Value, e = .returned (v0_) ∧ Kd.R (Kd.int .i64) 3 w' w.heap.size (fun _ => True) v0_ r ∧ Below w.heap.size w w' := by
 have hu24 := Try.underlying24
 have HR0_2 := Aside0.mk hr0_2
 have HC0_2 := Aside0.mk hc0_2
 clear hr0_2 hc0_2
 have HR1 := Aside0.mk hr1
 have HC1 := Aside0.mk hc1
 clear hr1 hc1
 have HB := Aside0.mk (Below.refl w.heap.size w)
 have H : ((codewrightref05_Canon.f k a0_0 a0_1 l0_2 l1).bind fun t689 => (if (t689.length : Int) = 0 then (some t689) else (if 0 ≤ (wrap64 ((t689.length : Int) - 1)) then (if (wrap64 ((t689.length : Int) - 1)) < (t689.length : Int) then ((codewrightref04_Inv.f k a0_0 a0_1 l0_2 (rd t689 (wrap64 ((t689.length : Int) - 1)))).bind fun t693 => ((codewrightref05_Scale.f k a0_0 a0_1 l0_2 t693 t689).bind fun t694 => (some t694))) else (none)) else (none)))) = some r := h
 clear h
 obtain ⟨t689, A30, H⟩ := Option.bind_eq_some_iff.mp H
 replace H : (if (t689.length : Int) = 0 then (some t689) else (if 0 ≤ (wrap64 ((t689.length : Int) - 1)) then (if (wrap64 ((t689.length : Int) - 1)) < (t689.length : Int) then ((codewrightref04_Inv.f k a0_0 a0_1 l0_2 (rd t689 (wrap64 ((t689.length : Int) - 1)))).bind fun t693 => ((codewrightref05_Scale.f k a0_0 a0_1 l0_2 t693 t689).bind fun t694 => (some t694))) else (none)) else (none))) = some r := H
 have A3 := Aside0.mk A30
 clear A30
 by_cases c4 : (t689.length : Int) = 0
 ·rw [if_pos c4] at H
  have c4b0 : ((t689.length : Int) == 0) = true := beq_iff_eq.mpr c4
  have c4b1 : ((t689.length : Int) != 0) = false := bne_eq_false_iff_eq.mpr c4
  clear c4
  obtain rfl := Option.some.inj H
  go_enter Try.func21, Try.ntmps21
  go_wp2_with (first | ((with_reducible refine gate_dst (N := 2) rfl ?_); refine box_event ?hg (N := 2) ?hd (cs := #[.int .i64 a0_0, .int .i64 a0_1, .slice A0_2 l0_2.length c0_2]) (t := 24) ?hr ?_; (case hd => rfl); (case hg => rfl); (case hr => (go_simp; done)); intro gb688 hg w5 hbox hb; have n0_ := Aside0.mk (below_step HB.out hb); have n1_ := Aside0.mk (hbox); have n2_ := Aside0.mk ((by rw [hg]; exact (below_size HB.out) : w.heap.size ≤ gb688)); have n3_ := Aside0.mk ((by rw [hg]; exact (below_size HB.out) : w.heap.size ≤ gb688)); clear HB; have HB := n0_; have BK688 := n1_; have GW688 := n2_; have GE688 := n3_; clear n0_ n1_ n2_ n3_; clear hb hbox hg; have hcz6_0 : w5.cell? ⟨gb688, 0, none⟩ = some (.int .i64 a0_0) := (blk_cell BK688.out 0).trans rfl; have hcz6_1 : w5.cell? ⟨gb688, 1, none⟩ = some (.int .i64 a0_1) := (blk_cell BK688.out 1).trans rfl; have hcz6_2 : w5.cell? ⟨gb688, 2, none⟩ = some (.slice A0_2 l0_2.length c0_2) := (blk_cell BK688.out 2).trans rfl; have hfz6_0 := blk_frozen BK688.out 0; have hfz6_1 := blk_frozen BK688.out 1; have hfz6_2 := blk_frozen BK688.out 2) | ((with_reducible refine gate_callee (f := 32) rfl ?_); refine goesL_ (some 7) rfl rfl Try.func32 (by kernel_rfl) rfl #[.agg #[.int .i64 a0_0, .int .i64 a0_1, .slice A0_2 l0_2.length c0_2], .slice A1 l1.length c1] rfl (by ((simp only [List.map_toArray, List.map_cons, List.map_nil])); (rfl)) ?_; (with_reducible refine (codewrightref05_Canon.calls k a0_0 a0_1 _ _ l0_2 _ _ l1 t689 _ ?side1 ?side2 ?side3 ?side4 A3.out).mono ?_); (case side1 => repeat ((exact (Kd.C_below HR0_2.out HB.out)))); (case side2 => exact HC0_2.out); (case side3 => repeat ((exact (Kd.C_below HR1.out HB.out)))); (case side4 => exact HC1.out); rintro e w7 ⟨v690, rfl, ho0, hb⟩; refine ⟨_, rfl, ?_⟩; have n0_ := Aside0.mk (Kd.R_lower ho0 (below_size HB.out)); have n1_ := Aside0.mk (blk_below (g := gb688) (o := .cells #[.int .i64 a0_0, .int .i64 a0_1, .slice A0_2 l0_2.length c0_2] 24 (0, 0)) BK688.out hb); have n2_ := Aside0.mk (below_step HB.out hb); clear BK688; clear HB; have HO691 := n0_; have BK688 := n1_; have HB := n2_; clear n0_ n1_ n2_; ((clear hb)); (skip); (skip); (skip); ((clear ho0)); obtain ⟨Ao8, co8, eo8⟩ := Kd.R_slice HO691.out; subst eo8))
  go_ret
  exact ⟨_, by rfl, by exact HO691.out, by exact HB.out⟩
 ·rw [if_neg c4] at H
  have c4b0 : ((t689.length : Int) == 0) = false := beq_eq_false_iff_ne.mpr c4
  have c4b1 : ((t689.length : Int) != 0) = true := bne_iff_ne.mpr c4
  have c4b2 : ¬ (t689 = []) := fun h_ => c4 (by rw [h_]; rfl)
  obtain ⟨ji9, hji9⟩ : ∃ j_ : Int, (wrap64 ((t689.length : Int) - 1)) = j_ := ⟨_, rfl⟩
  replace H : (if 0 ≤ (ji9) then (if (ji9) < (t689.length : Int) then ((codewrightref04_Inv.f k a0_0 a0_1 l0_2 (rd t689 (ji9))).bind fun t693 => ((codewrightref05_Scale.f k a0_0 a0_1 l0_2 t693 t689).bind fun t694 => (some t694))) else (none)) else (none)) = some r := by (rw [hji9] at H; exact H)
  have hji9w : (IntKind.i64.wrap ((t689.length : Int) - 1)) = ji9 := (i64_w _).trans hji9
  by_cases c10 : 0 ≤ (ji9)
  ·rw [if_pos c10] at H
   have c10b0 : decide (0 ≤ (ji9)) = true := decide_eq_true c10
   clear c10
   by_cases c11 : (ji9) < (t689.length : Int)
   ·rw [if_pos c11] at H
    have c11b0 : decide ((ji9) < (t689.length : Int)) = true := decide_eq_true c11
    clear c11
    obtain ⟨t693, A120, H⟩ := Option.bind_eq_some_iff.mp H
    replace H : ((codewrightref05_Scale.f k a0_0 a0_1 l0_2 t693 t689).bind fun t694 => (some t694)) = some r := H
    have A12 := Aside0.mk A120
    clear A120
    obtain ⟨t694, A130, H⟩ := Option.bind_eq_some_iff.mp H
    replace H : (some t694) = some r := H
    have A13 := Aside0.mk A130
    clear A130
    obtain rfl := Option.some.inj H
    go_enter Try.func21, Try.ntmps21
    (go_wp2_with (first | ((with_reducible refine gate_dst (N := 2) rfl ?_); refine box_event ?hg (N := 2) ?hd (cs := #[.int .i64 a0_0, .int .i64 a0_1, .slice A0_2 l0_2.length c0_2]) (t := 24) ?hr ?_; (case hd => rfl); (case hg => rfl); (case hr => (go_simp; done)); intro gb688 hg w14 hbox hb; have n0_ := Aside0.mk (below_step HB.out hb); have n1_ := Aside0.mk (hbox); have n2_ := Aside0.mk ((by rw [hg]; exact (below_size HB.out) : w.heap.size ≤ gb688)); have n3_ := Aside0.mk ((by rw [hg]; exact (below_size HB.out) : w.heap.size ≤ gb688)); clear HB; have HB := n0_; have BK688 := n1_; have GW688 := n2_; have GE688 := n3_; clear n0_ n1_ n2_ n3_; clear hb hbox hg; have hcz15_0 : w14.cell? ⟨gb688, 0, none⟩ = some (.int .i64 a0_0) := (blk_cell BK688.out 0).trans rfl; have hcz15_1 : w14.cell? ⟨gb688, 1, none⟩ = some (.int .i64 a0_1) := (blk_cell BK688.out 1).trans rfl; have hcz15_2 : w14.cell? ⟨gb688, 2, none⟩ = some (.slice A0_2 l0_2.length c0_2) := (blk_cell BK688.out 2).trans rfl; have hfz15_0 := blk_frozen BK688.out 0; have hfz15_1 := blk_frozen BK688.out 1; have hfz15_2 := blk_frozen BK688.out 2) | ((with_reducible refine gate_callee (f := 32) rfl ?_); refine goesL_ (some 7) rfl rfl Try.func32 (by kernel_rfl) rfl #[.agg #[.int .i64 a0_0, .int .i64 a0_1, .slice A0_2 l0_2.length c0_2], .slice A1 l1.length c1] rfl (by ((simp only [List.map_toArray, List.map_cons, List.map_nil])); (rfl)) ?_; (with_reducible refine (codewrightref05_Canon.calls k a0_0 a0_1 _ _ l0_2 _ _ l1 t689 _ ?side1 ?side2 ?side3 ?side4 A3.out).mono ?_); (case side1 => repeat ((exact (Kd.C_below HR0_2.out HB.out)))); (case side2 => exact HC0_2.out); (case side3 => repeat ((exact (Kd.C_below HR1.out HB.out)))); (case side4 => exact HC1.out); rintro e w16 ⟨v690, rfl, ho0, hb⟩; refine ⟨_, rfl, ?_⟩; have n0_ := Aside0.mk (Kd.R_lower ho0 (below_size HB.out)); have n1_ := Aside0.mk (blk_below (g := gb688) (o := .cells #[.int .i64 a0_0, .int .i64 a0_1, .slice A0_2 l0_2.length c0_2] 24 (0, 0)) BK688.out hb); have n2_ := Aside0.mk (below_step HB.out hb); clear BK688; clear HB; have HO691 := n0_; have BK688 := n1_; have HB := n2_; clear n0_ n1_ n2_; ((clear hb)); (skip); (skip); (skip); ((clear ho0)); obtain ⟨Ao17, co17, eo17⟩ := Kd.R_slice HO691.out; subst eo17)))
    have n0_ := Aside0.mk (Kd.R_drew HO691.out)
    have n1_ := Aside0.mk (blk_drew BK688.out)
    have n2_ := Aside0.mk (below_drew1 HB.out)
    clear HO691 BK688 HB
    have HO691 := n0_
    have BK688 := n1_
    have HB := n2_
    clear n0_ n1_ n2_
    have p692 : 0 ≤ ((ji9) : Int) := of_decide_eq_true (by (with_reducible assumption))
    have q692 : (ji9) < (t689.length : Int) := of_decide_eq_true (by (with_reducible assumption))
    obtain ⟨ad692, e692, hx692_0⟩ := Kd.at_int (Kd.R_reads' HO691.out).2.2 (ji9) p692 q692
    cases e692
    replace p692 := eq_true p692
    replace q692 := eq_true q692
    refine start_ (n := 12) (S := fun w' => w'.cell? ⟨gb688, 0, none⟩ = some (.int .i64 a0_0) ∧ w'.cell? ⟨gb688, 1, none⟩ = some (.int .i64 a0_1) ∧ w'.cell? ⟨gb688, 2, none⟩ = some (.slice A0_2 l0_2.length c0_2) ∧ w'.cell? (ad692.add ((ji9)).toNat) = some (.int .i64 (rd t689 (ji9)))) (ds := []) (bm 12 0) (by kernel_rfl) rfl rfl ⟨(blk_cell BK688.out 0).trans rfl, (blk_cell BK688.out 1).trans rfl, (blk_cell BK688.out 2).trans rfl, hx692_0⟩ (fun hHeld => ?_); refine with_tabW codewrightref05_Monic.tab4 codewrightref05_Monic.bits4 (fun HT_ HW_ => ?_)
    generalize w16.drew = w18 at HO691 BK688 HB hx692_0 hHeld ⊢
    refine pure_ (i := 2) (N := some 14) (v := ?_) (a' := ?_) (bm 12 4) rfl rfl (any_of HT_.out (by kernel_rfl)) (fun _ _ _ h => h) (Or.inl ⟨by rfl, ?_⟩) ?_ ?_;rotate_left;(intro w';go_simp;with_reducible rfl);rotate_left;(simp only [ps_];rfl)
    refine pure_ (i := 3) (N := some 15) (v := ?_) (a' := ?_) (bm 12 12) rfl rfl (any_of HT_.out (by kernel_rfl)) (fun _ _ _ h => h) (Or.inl ⟨by rfl, ?_⟩) ?_ ?_;rotate_left;(intro w';go_simp;with_reducible rfl);rotate_left;(simp only [ps_];rfl)
    refine pure_ (i := 4) (N := some 16) (v := ?_) (a' := ?_) (bm 12 28) rfl rfl (any_of HT_.out (by kernel_rfl)) (fun _ _ _ h => h) (Or.inl ⟨by rfl, ?_⟩) ?_ ?_;rotate_left;(intro w';go_simp;with_reducible rfl);rotate_left;(simp only [ps_];rfl)
    refine pure_ (i := 5) (N := some 17) (v := ?_) (a' := ?_) (bm 12 60) rfl rfl (any_of HT_.out (by kernel_rfl)) (fun _ _ _ h => h) (Or.inl ⟨by rfl, ?_⟩) ?_ ?_;rotate_left;(intro w';go_simp;with_reducible rfl);rotate_left;(simp only [ps_];rfl)
    refine pure_ (i := 6) (N := some 18) (v := ?_) (a' := ?_) (bm 12 124) rfl rfl (any_of HT_.out (by kernel_rfl)) (fun _ _ _ h => h) (Or.inl ⟨by rfl, ?_⟩) ?_ ?_;rotate_left;(intro w';go_simp;with_reducible rfl);rotate_left;(simp only [ps_];rfl)
    refine pure_ (i := 9) (N := some 21) (v := ?_) (a' := ?_) (bm 12 636) rfl rfl (any_of HT_.out (by kernel_rfl)) (fun _ _ _ h => h) (Or.inl ⟨by rfl, ?_⟩) ?_ ?_;rotate_left;(intro w';go_simp;with_reducible rfl);rotate_left;(simp only [ps_];rfl)
    refine take_ (i := 0) (N := some 12) (v := ?_) (a' := ?_) (bm 12 637) rfl rfl (take_ofW HT_.out HW_.out (by kernel_rfl)) (fun _ _ _ h => h) (Or.inl ⟨by rfl, ?_⟩) hHeld ?_ ?_;rotate_left;(rintro w' ⟨s0, s1, s2, s3⟩;go_simp;with_reducible rfl);rotate_left;(simp only [ps_];rfl)
    refine take_ (i := 1) (N := some 13) (v := ?_) (a' := ?_) (bm 12 639) rfl rfl (take_ofW HT_.out HW_.out (by kernel_rfl)) (fun _ _ _ h => h) (Or.inl ⟨by rfl, ?_⟩) hHeld ?_ ?_;rotate_left;(rintro w' ⟨s0, s1, s2, s3⟩;go_simp;with_reducible rfl);rotate_left;(simp only [ps_];rfl)
    refine take_ (i := 7) (N := some 19) (v := ?_) (a' := ?_) (bm 12 767) rfl rfl (take_ofW HT_.out HW_.out (by kernel_rfl)) (fun _ _ _ h => h) (Or.inl ⟨by rfl, ?_⟩) hHeld ?_ ?_;rotate_left;(rintro w' ⟨s0, s1, s2, s3⟩;go_simp;with_reducible rfl);rotate_left;(simp only [ps_];rfl)
    refine one_ (i := 8) (N := some 20) (bm 12 1023) rfl rfl (one_of HT_.out (by kernel_rfl)) (by decide) (fun K hK => ?_)
    refine goes_ Try.func46 (by kernel_rfl) rfl #[.agg #[.int .i64 a0_0, .int .i64 a0_1, .slice A0_2 l0_2.length c0_2], .int .i64 (rd t689 (ji9))] (by rfl) rfl rfl (by ((simp only [List.map_toArray, List.map_cons, List.map_nil])); (rfl)) ?_
    with_reducible refine (codewrightref04_Inv.calls k a0_0 a0_1 _ _ l0_2 (rd t689 (ji9)) t693 _ ?side1 ?side2 A12.out).mono ?_
    (case side1 => repeat ((exact (Kd.C_below HR0_2.out HB.out))))
    (case side2 => exact HC0_2.out)
    rintro e w19 ⟨rfl, hb⟩
    have HS3_ := (hb.cell (World.block_lt_of_cell? _ _ (hHeld.2.2.2))).trans (hHeld.2.2.2)
    refine ⟨_, rfl, ?_⟩
    have n0_ := Aside0.mk (Kd.R_below HO691.out hb)
    have n1_ := Aside0.mk (blk_below (g := gb688) (o := .cells #[.int .i64 a0_0, .int .i64 a0_1, .slice A0_2 l0_2.length c0_2] 24 (0, 0)) BK688.out hb)
    have n2_ := Aside0.mk (below_step HB.out hb)
    clear HO691 BK688 HB
    have HO691 := n0_
    have BK688 := n1_
    have HB := n2_
    clear n0_ n1_ n2_
    ((clear hb))
    refine hK.out _ _ ⟨(blk_cell BK688.out 0).trans rfl, (blk_cell BK688.out 1).trans rfl, (blk_cell BK688.out 2).trans rfl, HS3_⟩ (fun hHeld => ?_)
    clear hK K
    refine norm_ (a' := ?_) ?_ ?_
    rotate_left
    ·show Act.put _ (some 20) _ = _
     simp only [Act.put, List.setIfInBounds_toArray, List.set_cons_zero, List.set_cons_succ, i64_w, i32_w]
     rfl
    refine one_ (i := 10) (N := some 22) (bm 12 2047) rfl rfl (one_of HT_.out (by kernel_rfl)) (by decide) (fun K hK => ?_)
    refine goes_ Try.func42 (by kernel_rfl) rfl #[.agg #[.int .i64 a0_0, .int .i64 a0_1, .slice A0_2 l0_2.length c0_2], .int .i64 t693, .slice (some ad692) t689.length co17] (by rfl) rfl rfl (by ((simp only [List.map_toArray, List.map_cons, List.map_nil])); (rfl)) ?_
    with_reducible refine (codewrightref05_Scale.calls k a0_0 a0_1 _ _ l0_2 t693 _ _ t689 t694 _ ?side1 ?side2 ?side3 ?side4 A13.out).mono ?_
    (case side1 => repeat ((exact (Kd.C_below HR0_2.out HB.out))))
    (case side2 => exact HC0_2.out)
    (case side3 => repeat ((exact (Kd.R_reads' HO691.out).2.2)))
    (case side4 => exact (Kd.R_reads' HO691.out).2.1)
    rintro e w20 ⟨v695, rfl, ho0, hb⟩
    have HS3_ := (hb.cell (World.block_lt_of_cell? _ _ (hHeld.2.2.2))).trans (hHeld.2.2.2)
    refine ⟨_, rfl, ?_⟩
    have n0_ := Aside0.mk (Kd.R_elder' HO691.out (Kd.R_base ho0) hb)
    have n1_ := Aside0.mk (Kd.R_lower (Kd.R_new' ho0 (Kd.R_lt HO691.out)) (below_size HB.out))
    have n2_ := Aside0.mk (blk_below (g := gb688) (o := .cells #[.int .i64 a0_0, .int .i64 a0_1, .slice A0_2 l0_2.length c0_2] 24 (0, 0)) BK688.out hb)
    have n3_ := Aside0.mk (below_step HB.out hb)
    clear HO691 BK688 HB
    have HO691 := n0_
    have HO696 := n1_
    have BK688 := n2_
    have HB := n3_
    clear n0_ n1_ n2_ n3_
    ((clear hb))
    ((clear ho0))
    refine hK.out _ _ ⟨(blk_cell BK688.out 0).trans rfl, (blk_cell BK688.out 1).trans rfl, (blk_cell BK688.out 2).trans rfl, HS3_⟩ (fun hHeld => ?_)
    clear hK K
    refine norm_ (a' := ?_) ?_ ?_
    rotate_left
    ·show Act.put _ (some 22) _ = _
     simp only [Act.put, List.setIfInBounds_toArray, List.set_cons_zero, List.set_cons_succ, i64_w, i32_w]
     rfl
    refine pure_ (i := 11) (N := some 4) (v := ?_) (a' := ?_) (bm 12 4095) rfl rfl (any_of HT_.out (by kernel_rfl)) (fun _ _ _ h => h) (Or.inl ⟨by rfl, ?_⟩) ?_ ?_;rotate_left;(intro w';go_simp;with_reducible rfl);rotate_left;(simp only [ps_];rfl)
    refine done_ (done_of HT_.out (by kernel_rfl)) ?_
    (go_wp2)
    go_ret
    exact ⟨_, by rfl, by exact Kd.R_mono HO696.out (fun _ hk => trivial), by exact HB.out⟩
   ·rw [if_neg c11] at H
    exact absurd H (by simp)
  ·rw [if_neg c10] at H
   exact absurd H (by simp)
end Go.Proofs.Ytiejggpmjapajaa.PA
end
section
namespace Go.Proofs.Ytiejggpmjapajaa.PA
open Go.RowKit Go.Proofs.YtiejggpmjapajaaW.PrintWords Go.Proofs.YtiejggpmjapajaaW.PrintLast Go.Proofs.YtiejggpmjapajaaW.PrintMore
set_option linter.unusedVariables false
theorem step_append_fresh {P : Program} {ops : Array Oper} {o : Oper} {a : Act} {w : World} {K : Act → World → Prop} {Q : Exit → Act → World → Prop}
    (hgd : o.guard = none) (s x : Operand) (t e : TypeId) (ho : o.op = Op.call { callee := Callee.builtin Builtin.append, args := #[s, x], argTypes := #[t, t] })
    (ht : P.underlying t = some (.slice e)) (hinfo : (P.info? e).map (fun i => (i.zero, i.size, i.bytes)) = some (some (.int .i64 0), 1, 8))
    (g : Nat) (A : Option Addr) (c : Nat) (md : List Int) (hs : a.eval s = .slice (some ⟨g, 0, none⟩) 0 0) (hx : a.eval x = .slice A md.length c)
    (hg : w.heap[g]? = some (.cells #[] e (0, 0))) (HC : Kd.C (Kd.int .i64) w A md.length md) (hl : md.length ≤ 8)
    (h : ∀ A1 c1 w1, Aside0 (Kd.C (Kd.int .i64) w1 A1 md.length md ∧ md.length ≤ c1 ∧ g < w.heap.size ∧ w.grownBy w1 (some g) ∧ ∀ ad, A1 = some ad → ad.block = g ∨ w.heap.size ≤ ad.block) → K (a.put o.dst (.slice A1 md.length c1)) w1) :
    if Region.wanted o (yielded ops a.tmps) = true then Oper.wp P o a w K Q else K (a.put o.dst undef) w := by
  have hw : Region.wanted o (yielded ops a.tmps) = true := by simp [Region.wanted, hgd]
  have hR : Kd.R (Kd.int .i64) e w 0 (fun _ => True) (.slice (some ⟨g, 0, none⟩) 0 0) [] := by
    refine Kd.R_of_own ⟨rfl, .inr ⟨g, 0, #[], rfl, Nat.zero_le _, hg, Nat.le_refl _, by decide, rfl, rfl⟩⟩ (fun _ _ => trivial)
  refine Kd.R_append_rows_step (Kd.int .i64) (w0 := w) 0 hw s x t e (.int .i64 0) 8 ho ht hinfo rfl (by decide) (by decide) (.slice (some ⟨g, 0, none⟩) 0 0) [] md A md.length c (fun _ => True) (fun _ => False) hs hx hR HC (fun x cs hk => hk) (fun _ hk => hk.elim) (fun _ _ => trivial) (Below.refl _ _) (Nat.zero_le _) ?_ ?_
  · simp only [List.length_nil]; omega
  · intro v1 w1 h1 _ hgr hat
    obtain ⟨A1, c1, rfl, hc, hC⟩ := Kd.R_reads h1
    refine h A1 c1 w1 ⟨hC, hc, blk_lt hg, hgr, ?_⟩
    rintro ad rfl
    rcases hat with hat | ⟨b, hb, hl⟩
    · exact .inl (by simpa [Value.ownBlock] using hat)
    · exact .inr (by have hb' : ad.block = b := (by simpa [Value.ownBlock] using hb); omega)
theorem grown_below {w0 W w1 : World} {g : Nat} (h : Below w0.heap.size w0 W) (hg : w0.heap.size ≤ g) (HG : g ≤ W.heap.size) (k : W.grownBy w1 (some g)) : Below w0.heap.size w0 w1 :=
  below_weaken h hg ⟨k.os, k.tape, k.output, k.size, fun j hj => k.block j (Nat.lt_of_lt_of_le hj HG) (fun e => by injection e with e; omega)⟩
theorem blk_new1 (w : World) (a b : Obj) : ((w.alloc a).alloc b).heap[w.heap.size + 1]? = some b := by
  have h := blk_new (w.alloc a) b
  have e : (w.alloc a).heap.size = w.heap.size + 1 := by unfold World.alloc; exact Array.size_push _
  rwa [e] at h
end Go.Proofs.Ytiejggpmjapajaa.PA
end
section
namespace Go.Proofs.Ytiejggpmjapajaa.PA
open Go.RowKit Go.Proofs.YtiejggpmjapajaaW.PrintWords Go.Proofs.YtiejggpmjapajaaW.PrintLast Go.Proofs.YtiejggpmjapajaaW.PrintMore
attribute [local go_sem] max2_int min2_int max_two min_two max_three min_three max_four min_four
set_option linter.unusedVariables false
set_option linter.unusedSimpArgs false
end Go.Proofs.Ytiejggpmjapajaa.PA
end
section
namespace Go.Proofs.Ytiejggpmjapajaa.PA
open Go.RowKit Go.Proofs.YtiejggpmjapajaaW.PrintWords Go.Proofs.YtiejggpmjapajaaW.PrintLast Go.Proofs.YtiejggpmjapajaaW.PrintMore
attribute [local go_sem] max2_int min2_int max_two min_two max_three min_three max_four min_four
set_option linter.unusedVariables false
set_option linter.unusedSimpArgs false
end Go.Proofs.Ytiejggpmjapajaa.PA
end
section
namespace Go.Proofs.Ytiejggpmjapajaa.PA
open Go.RowKit Go.Proofs.YtiejggpmjapajaaW.PrintWords Go.Proofs.YtiejggpmjapajaaW.PrintLast Go.Proofs.YtiejggpmjapajaaW.PrintMore
attribute [local go_sem] max2_int min2_int max_two min_two max_three min_three max_four min_four
set_option linter.unusedVariables false
set_option linter.unusedSimpArgs false
end Go.Proofs.Ytiejggpmjapajaa.PA
end
section
namespace Go.Proofs.Ytiejggpmjapajaa.PA
open Go.RowKit Go.Proofs.YtiejggpmjapajaaW.PrintWords Go.Proofs.YtiejggpmjapajaaW.PrintLast Go.Proofs.YtiejggpmjapajaaW.PrintMore
attribute [local go_sem] max2_int min2_int max_two min_two max_three min_three max_four min_four
set_option linter.unusedVariables false
set_option linter.unusedSimpArgs false
def poly_Sub.f (k : Nat) (s0_0 : Int) (s0_1 : Int) (s0_2 : List Int) (s0_3 : Int) (s0_4 : List Int) (s0_5 : List Int) (l1 : List Int) (l2 : List Int) : Option (List Int × Int × Int × Int) := (field_GF_Neg.f k s0_0 s0_1 s0_2 s0_3 s0_4 s0_5 1).bind fun bt828 => ((poly_combine.f k bt828.2.1 bt828.2.2.1 s0_2 bt828.2.2.2 s0_4 s0_5 l1 bt828.1 l2).bind fun bt832 => (some (bt832.1, bt832.2.1, bt832.2.2.1, bt832.2.2.2)))
set_option maxHeartbeats 8000000 in
set_option maxRecDepth 100000 in
theorem poly_Sub.calls (k : Nat) (g : Nat) (s0_0 : Int) (s0_1 : Int) (s0_2 : List Int) (s0_3 : Int) (s0_4 : List Int) (s0_5 : List Int) (A1 : Option Addr) (c1 : Nat) (l1 : List Int) (A2 : Option Addr) (c2 : Nat) (l2 : List Int) (r1 : List Int) (r2 : Int) (r3 : Int) (r4 : Int) (w0 w : World) (hI : IsS85 w0 w g s0_0 s0_1 s0_2 s0_3 s0_4 s0_5) (hB : Below w0.heap.size w0 w) (hr1 : Kd.C (Kd.int .i64) w A1 l1.length l1) (hc1 : l1.length ≤ c1) (hf1 : ∀ ad, A1 = some ad → 0 < l1.length → ad.block ≠ g) (hr2 : Kd.C (Kd.int .i64) w A2 l2.length l2) (hc2 : l2.length ≤ c2) (hf2 : ∀ ad, A2 = some ad → 0 < l2.length → ad.block ≠ g) (h : poly_Sub.f k s0_0 s0_1 s0_2 s0_3 s0_4 s0_5 l1 l2 = some (r1, r2, r3, r4)) :
  Calls Try.prog 63 #[.pointer (some ⟨g, 0, none⟩), .slice A1 l1.length c1, .slice A2 l2.length c2] w fun e w' => ∃ v0_ : Value, e = .returned (v0_) ∧ Kd.R (Kd.int .i64) 3 w' w.heap.size (fun _ => True) v0_ r1 ∧ IsS85 w0 w' g r2 r3 s0_2 r4 s0_4 s0_5 ∧ Below w0.heap.size w0 w' ∧ KeepBut w w' g none := by
 have HR1 := Aside0.mk hr1
 have HC1 := Aside0.mk hc1
 clear hr1 hc1
 have HR2 := Aside0.mk hr2
 have HC2 := Aside0.mk hc2
 clear hr2 hc2
 have HI0 := Aside0.mk hI
 have HK := Aside0.mk (KeepBut.refl w g none)
 have HL := Aside0.mk hB.size
 clear hI
 have HW0 := Aside0.mk hB.size
 have HB := Aside0.mk hB
 clear hB
 have H : ((field_GF_Neg.f k s0_0 s0_1 s0_2 s0_3 s0_4 s0_5 1).bind fun bt828 => ((poly_combine.f k bt828.2.1 bt828.2.2.1 s0_2 bt828.2.2.2 s0_4 s0_5 l1 bt828.1 l2).bind fun bt832 => (some (bt832.1, bt832.2.1, bt832.2.2.1, bt832.2.2.2)))) = some (r1, r2, r3, r4) := h
 clear h
 replace H := Option.bind_eq_some_iff.mp H
 obtain ⟨⟨t828, t829, t830, t831⟩, A40, H⟩ := H
 replace H : ((poly_combine.f k t829 t830 s0_2 t831 s0_4 s0_5 l1 t828 l2).bind fun bt832 => (some (bt832.1, bt832.2.1, bt832.2.2.1, bt832.2.2.2))) = some (r1, r2, r3, r4) := H
 have A4 := Aside0.mk A40
 clear A40
 replace H := Option.bind_eq_some_iff.mp H
 obtain ⟨⟨t832, t835, t836, t837⟩, A50, H⟩ := H
 replace H : (some (t832, t835, t836, t837)) = some (r1, r2, r3, r4) := H
 have A5 := Aside0.mk A50
 clear A50
 simp only [Option.some.injEq, Prod.mk.injEq] at H
 obtain ⟨rfl, rfl, rfl, rfl⟩ := H
 go_enter Try.func63, Try.ntmps63
 go_wp2_with (first | ((with_reducible refine gate_callee (f := 56) rfl ?_); refine goesL_ (some 10) rfl rfl Try.func56 (by kernel_rfl) rfl #[.pointer (some ⟨g, 0, none⟩), .int .i64 1] rfl (by ((simp only [List.map_toArray, List.map_cons, List.map_nil])); (rfl)) ?_; (with_reducible refine (field_GF_Neg.calls k g s0_0 s0_1 s0_2 s0_3 s0_4 s0_5 1 t828 t829 t830 t831 w0 _ ?side1 ?side2 A4.out).mono ?_); (case side1 => repeat ((with_reducible (exact HI0.out)))); (case side2 => repeat ((with_reducible (exact HB.out)))); rintro e w6 ⟨rfl, hi, hb, hk⟩; refine ⟨_, rfl, ?_⟩; have n0_ := Aside0.mk (KeepBut.trans HK.out hk (.inl rfl)); have n1_ := Aside0.mk (hb); have n2_ := Aside0.mk (hi); clear HK; clear HB; clear HI0; have HK := n0_; have HB := n1_; have HI0 := n2_; clear n0_ n1_ n2_; ((clear hb)); (skip); ((clear hk)); ((clear hi))) | ((with_reducible refine gate_callee (f := 52) rfl ?_); refine goesL_ (some 12) rfl rfl Try.func52 (by kernel_rfl) rfl #[.pointer (some ⟨g, 0, none⟩), .slice A1 l1.length c1, .int .i64 t828, .slice A2 l2.length c2] rfl (by ((simp only [List.map_toArray, List.map_cons, List.map_nil])); (rfl)) ?_; (with_reducible refine (poly_combine.calls k g t829 t830 s0_2 t831 s0_4 s0_5 _ _ l1 t828 _ _ l2 t832 t835 t836 t837 w0 _ ?side1 ?side2 ?side3 ?side4 ?side5 ?side6 ?side7 ?side8 A5.out).mono ?_); (case side1 => repeat ((with_reducible (exact HI0.out)))); (case side2 => repeat ((with_reducible (exact HB.out)))); (case side3 => exact Kd.C_keep 0 HR1.out HK.out hf1); (case side4 => exact HC1.out); (case side5 => exact hf1); (case side6 => exact Kd.C_keep 0 HR2.out HK.out hf2); (case side7 => exact HC2.out); (case side8 => exact hf2); rintro e w7 ⟨v833, rfl, ho0, hi, hb, hk⟩; refine ⟨_, rfl, ?_⟩; have n0_ := Aside0.mk (Kd.R_lower ho0 (keep_size (w := w) (g := g) (row := none) HK.out)); have n1_ := Aside0.mk (KeepBut.trans HK.out hk (.inl rfl)); have n2_ := Aside0.mk (hb); have n3_ := Aside0.mk (hi); clear HK; clear HB; clear HI0; have HO834 := n0_; have HK := n1_; have HB := n2_; have HI0 := n3_; clear n0_ n1_ n2_ n3_; ((clear hb)); (skip); ((clear hk)); ((clear hi)); ((clear ho0))))
 go_ret
 exact ⟨_, by rfl, by exact HO834.out, by exact HI0.out, by exact HB.out, by exact HK.out⟩
def poly_Scale.f (k : Nat) (s0_0 : Int) (s0_1 : Int) (s0_2 : List Int) (s0_3 : Int) (s0_4 : List Int) (s0_5 : List Int) (a1 : Int) (l2 : List Int) : Option (List Int × Int × Int × Int) := (field_GF_Scale.f k s0_0 s0_1 s0_2 s0_3 s0_4 s0_5 a1 l2).bind fun bt838 => ((poly_trim.f k bt838.1).bind fun t844 => (some (t844, bt838.2.1, bt838.2.2.1, bt838.2.2.2)))
set_option maxHeartbeats 8000000 in
set_option maxRecDepth 100000 in
theorem poly_Scale.calls (k : Nat) (g : Nat) (s0_0 : Int) (s0_1 : Int) (s0_2 : List Int) (s0_3 : Int) (s0_4 : List Int) (s0_5 : List Int) (a1 : Int) (A2 : Option Addr) (c2 : Nat) (l2 : List Int) (r1 : List Int) (r2 : Int) (r3 : Int) (r4 : Int) (w0 w : World) (hI : IsS85 w0 w g s0_0 s0_1 s0_2 s0_3 s0_4 s0_5) (hB : Below w0.heap.size w0 w) (hr2 : Kd.C (Kd.int .i64) w A2 l2.length l2) (hc2 : l2.length ≤ c2) (hf2 : ∀ ad, A2 = some ad → 0 < l2.length → ad.block ≠ g) (h : poly_Scale.f k s0_0 s0_1 s0_2 s0_3 s0_4 s0_5 a1 l2 = some (r1, r2, r3, r4)) :
  Calls Try.prog 64 #[.pointer (some ⟨g, 0, none⟩), .int .i64 a1, .slice A2 l2.length c2] w fun e w' => ∃ v0_ : Value, e = .returned (v0_) ∧ Kd.R (Kd.int .i64) 3 w' w.heap.size (fun _ => True) v0_ r1 ∧ IsS85 w0 w' g r2 r3 s0_2 r4 s0_4 s0_5 ∧ Below w0.heap.size w0 w' ∧ KeepBut w w' g none := by
 have HR2 := Aside0.mk hr2
 have HC2 := Aside0.mk hc2
 clear hr2 hc2
 have HI0 := Aside0.mk hI
 have HK := Aside0.mk (KeepBut.refl w g none)
 have HL := Aside0.mk hB.size
 clear hI
 have HW0 := Aside0.mk hB.size
 have HB := Aside0.mk hB
 clear hB
 have H : ((field_GF_Scale.f k s0_0 s0_1 s0_2 s0_3 s0_4 s0_5 a1 l2).bind fun bt838 => ((poly_trim.f k bt838.1).bind fun t844 => (some (t844, bt838.2.1, bt838.2.2.1, bt838.2.2.2)))) = some (r1, r2, r3, r4) := h
 clear h
 replace H := Option.bind_eq_some_iff.mp H
 obtain ⟨⟨t838, t841, t842, t843⟩, A40, H⟩ := H
 replace H : ((poly_trim.f k t838).bind fun t844 => (some (t844, t841, t842, t843))) = some (r1, r2, r3, r4) := H
 have A4 := Aside0.mk A40
 clear A40
 obtain ⟨t844, A50, H⟩ := Option.bind_eq_some_iff.mp H
 replace H : (some (t844, t841, t842, t843)) = some (r1, r2, r3, r4) := H
 have A5 := Aside0.mk A50
 clear A50
 simp only [Option.some.injEq, Prod.mk.injEq] at H
 obtain ⟨rfl, rfl, rfl, rfl⟩ := H
 go_enter Try.func64, Try.ntmps64
 go_wp2_with (first | ((with_reducible refine gate_callee (f := 74) rfl ?_); refine goesL_ (some 10) rfl rfl Try.func74 (by kernel_rfl) rfl #[.pointer (some ⟨g, 0, none⟩), .int .i64 a1, .slice A2 l2.length c2] rfl (by ((simp only [List.map_toArray, List.map_cons, List.map_nil])); (rfl)) ?_; (with_reducible refine (field_GF_Scale.calls k g s0_0 s0_1 s0_2 s0_3 s0_4 s0_5 a1 _ _ l2 t838 t841 t842 t843 w0 _ ?side1 ?side2 ?side3 ?side4 ?side5 A4.out).mono ?_); (case side1 => repeat ((with_reducible (exact HI0.out)))); (case side2 => repeat ((with_reducible (exact HB.out)))); (case side3 => exact Kd.C_keep 0 HR2.out HK.out hf2); (case side4 => exact HC2.out); (case side5 => exact hf2); rintro e w6 ⟨v839, rfl, ho0, hi, hb, hk⟩; refine ⟨_, rfl, ?_⟩; have n0_ := Aside0.mk (Kd.R_lower ho0 (keep_size (w := w) (g := g) (row := none) HK.out)); have n1_ := Aside0.mk (KeepBut.trans HK.out hk (.inl rfl)); have n2_ := Aside0.mk (hb); have n3_ := Aside0.mk (hi); clear HK; clear HB; clear HI0; have HO840 := n0_; have HK := n1_; have HB := n2_; have HI0 := n3_; clear n0_ n1_ n2_ n3_; ((clear hb)); (skip); ((clear hk)); ((clear hi)); ((clear ho0)); obtain ⟨Ao7, co7, eo7⟩ := Kd.R_slice HO840.out; subst eo7) | ((with_reducible refine gate_callee (f := 50) rfl ?_); refine goesL_ (some 11) rfl rfl Try.func50 (by kernel_rfl) rfl #[.slice Ao7 t838.length co7] rfl (by ((simp only [List.map_toArray, List.map_cons, List.map_nil])); (rfl)) ?_; (with_reducible refine (poly_trim.calls k (fun k_ => some k_ = (.slice Ao7 t838.length co7 : Value).ownBlock) (.slice Ao7 t838.length co7) t838 t844 w0 _ ?side1 ?side2 A5.out).mono ?_); (case side1 => repeat ((with_reducible (exact HB.out)))); (case side2 => exact Kd.R_lower (Kd.R_tight rfl HO840.out) HL.out); rintro e w8 ⟨v845, rfl, ho0, hb, hkp⟩; refine ⟨_, rfl, ?_⟩; have n0_ := Aside0.mk (IsS85.kept HI0.out hkp (fun hs_ => (fun e_ => (IsS85.own_ne HI0.out HO840.out (by decide)) e_) hs_)); have n1_ := Aside0.mk (Kd.R_mono (ok' := fun k_ => True) (Kd.R_raise (d := (Kd.int .i64)) (b := w0.heap.size) (b' := w.heap.size) (fun _ _ _ _ h_ => h_) ho0 (fun k_ e_ => Or.elim (ho0.1 k_ e_) (fun hs_ => (fun e_ => Kd.R_base HO840.out k_ e_.symm) hs_) (fun hn_ => Nat.le_trans (keep_size (w := w) (g := g) (row := none) HK.out) hn_))) (fun k_ hk_ => trivial)); have n2_ := Aside0.mk (Kept.keepG HK.out hkp (fun k_ hs_ => (fun e_ => .inr (Kd.R_base HO840.out k_ e_.symm)) hs_)); have n3_ := Aside0.mk (hb); clear HI0; clear HK; clear HB; clear HO840; have HI0 := n0_; have HO846 := n1_; have HK := n2_; have HB := n3_; clear n0_ n1_ n2_ n3_; ((clear hb)); ((clear hkp)); ((clear ho0))))
 go_ret
 exact ⟨_, by rfl, by exact HO846.out, by exact HI0.out, by exact HB.out, by exact HK.out⟩
def codewrightref05_Gcd.l0 : Nat → List Int → List Int → Int → Int → List Int → Option (List Int)
 | 0, _, _, _, _, _ => none
 | k + 1, x1, x2, x964000, x964001, x964002 => if (x2.length : Int) > 0 then ((codewrightref05_DivMod.f k x964000 x964001 x964002 x1 x2).bind fun bt970 => (codewrightref05_Gcd.l0 k x2 bt970.2 x964000 x964001 x964002)) else ((codewrightref05_Monic.f k x964000 x964001 x964002 x1).bind fun t976 => (some t976))
def codewrightref05_Gcd.f (k : Nat) (a0_0 : Int) (a0_1 : Int) (l0_2 : List Int) (l1 : List Int) (l2 : List Int) : Option (List Int) := (codewrightref05_Canon.f k a0_0 a0_1 l0_2 l1).bind fun t964 => ((codewrightref05_Canon.f k a0_0 a0_1 l0_2 l2).bind fun t967 => (codewrightref05_Gcd.l0 k t964 t967 a0_0 a0_1 l0_2))
set_option maxHeartbeats 8000000 in
set_option maxRecDepth 100000 in
theorem codewrightref05_Gcd.calls (k : Nat) (a0_0 : Int) (a0_1 : Int) (A0_2 : Option Addr) (c0_2 : Nat) (l0_2 : List Int) (A1 : Option Addr) (c1 : Nat) (l1 : List Int) (A2 : Option Addr) (c2 : Nat) (l2 : List Int) (r : List Int) (w : World) (hr0_2 : Kd.C (Kd.int .i64) w A0_2 l0_2.length l0_2) (hc0_2 : l0_2.length ≤ c0_2) (hr1 : Kd.C (Kd.int .i64) w A1 l1.length l1) (hc1 : l1.length ≤ c1) (hr2 : Kd.C (Kd.int .i64) w A2 l2.length l2) (hc2 : l2.length ≤ c2) (h : codewrightref05_Gcd.f k a0_0 a0_1 l0_2 l1 l2 = some r) :
  Calls Try.prog 34 #[.agg #[.int .i64 a0_0, .int .i64 a0_1, .slice A0_2 l0_2.length c0_2], .slice A1 l1.length c1, .slice A2 l2.length c2] w fun e w' => ∃ v0_ : Value, e = .returned (v0_) ∧ Kd.R (Kd.int .i64) 3 w' w.heap.size (fun _ => True) v0_ r ∧ Below w.heap.size w w' := by
 have hu24 := Try.underlying24
 have HR0_2 := Aside0.mk hr0_2
 have HC0_2 := Aside0.mk hc0_2
 clear hr0_2 hc0_2
 have HR1 := Aside0.mk hr1
 have HC1 := Aside0.mk hc1
 clear hr1 hc1
 have HR2 := Aside0.mk hr2
 have HC2 := Aside0.mk hc2
 clear hr2 hc2
 have HB := Aside0.mk (Below.refl w.heap.size w)
 have H : ((codewrightref05_Canon.f k a0_0 a0_1 l0_2 l1).bind fun t964 => ((codewrightref05_Canon.f k a0_0 a0_1 l0_2 l2).bind fun t967 => (codewrightref05_Gcd.l0 k t964 t967 a0_0 a0_1 l0_2))) = some r := h
 clear h
 obtain ⟨t964, A40, H⟩ := Option.bind_eq_some_iff.mp H
 replace H : ((codewrightref05_Canon.f k a0_0 a0_1 l0_2 l2).bind fun t967 => (codewrightref05_Gcd.l0 k t964 t967 a0_0 a0_1 l0_2)) = some r := H
 have A4 := Aside0.mk A40
 clear A40
 obtain ⟨t967, A50, H⟩ := Option.bind_eq_some_iff.mp H
 replace H : (codewrightref05_Gcd.l0 k t964 t967 a0_0 a0_1 l0_2) = some r := H
 have A5 := Aside0.mk A50
 clear A50
 have H' := Aside0.mk H
 clear H
 go_enter Try.func34, Try.ntmps34
 go_wp2_with (first | ((with_reducible refine gate_dst (N := 3) rfl ?_); refine box_event ?hg (N := 3) ?hd (cs := #[.int .i64 a0_0, .int .i64 a0_1, .slice A0_2 l0_2.length c0_2]) (t := 24) ?hr ?_; (case hd => rfl); (case hg => rfl); (case hr => (go_simp; done)); intro gb963 hg w6 hbox hb; have n0_ := Aside0.mk (below_step HB.out hb); have n1_ := Aside0.mk (hbox); have n2_ := Aside0.mk ((by rw [hg]; exact (below_size HB.out) : w.heap.size ≤ gb963)); have n3_ := Aside0.mk ((by rw [hg]; exact (below_size HB.out) : w.heap.size ≤ gb963)); clear HB; have HB := n0_; have BK963 := n1_; have GW963 := n2_; have GE963 := n3_; clear n0_ n1_ n2_ n3_; clear hb hbox hg; have hcz7_0 : w6.cell? ⟨gb963, 0, none⟩ = some (.int .i64 a0_0) := (blk_cell BK963.out 0).trans rfl; have hcz7_1 : w6.cell? ⟨gb963, 1, none⟩ = some (.int .i64 a0_1) := (blk_cell BK963.out 1).trans rfl; have hcz7_2 : w6.cell? ⟨gb963, 2, none⟩ = some (.slice A0_2 l0_2.length c0_2) := (blk_cell BK963.out 2).trans rfl; have hfz7_0 := blk_frozen BK963.out 0; have hfz7_1 := blk_frozen BK963.out 1; have hfz7_2 := blk_frozen BK963.out 2) | ((with_reducible refine gate_callee (f := 32) rfl ?_); refine goesL_ (some 11) rfl rfl Try.func32 (by kernel_rfl) rfl #[.agg #[.int .i64 a0_0, .int .i64 a0_1, .slice A0_2 l0_2.length c0_2], .slice A1 l1.length c1] rfl (by ((simp only [List.map_toArray, List.map_cons, List.map_nil])); (rfl)) ?_; (with_reducible refine (codewrightref05_Canon.calls k a0_0 a0_1 _ _ l0_2 _ _ l1 t964 _ ?side1 ?side2 ?side3 ?side4 A4.out).mono ?_); (case side1 => repeat ((exact (Kd.C_below HR0_2.out HB.out)))); (case side2 => exact HC0_2.out); (case side3 => repeat ((exact (Kd.C_below HR1.out HB.out)))); (case side4 => exact HC1.out); rintro e w8 ⟨v965, rfl, ho0, hb⟩; refine ⟨_, rfl, ?_⟩; have n0_ := Aside0.mk (Kd.R_lower ho0 (below_size HB.out)); have n1_ := Aside0.mk (blk_below (g := gb963) (o := .cells #[.int .i64 a0_0, .int .i64 a0_1, .slice A0_2 l0_2.length c0_2] 24 (0, 0)) BK963.out hb); have n2_ := Aside0.mk (below_step HB.out hb); clear BK963; clear HB; have HO966 := n0_; have BK963 := n1_; have HB := n2_; clear n0_ n1_ n2_; ((clear hb)); (skip); (skip); (skip); ((clear ho0)); have hcz9_0 : w8.cell? ⟨gb963, 0, none⟩ = some (.int .i64 a0_0) := (blk_cell BK963.out 0).trans rfl; have hcz9_1 : w8.cell? ⟨gb963, 1, none⟩ = some (.int .i64 a0_1) := (blk_cell BK963.out 1).trans rfl; have hcz9_2 : w8.cell? ⟨gb963, 2, none⟩ = some (.slice A0_2 l0_2.length c0_2) := (blk_cell BK963.out 2).trans rfl; have hfz9_0 := blk_frozen BK963.out 0; have hfz9_1 := blk_frozen BK963.out 1; have hfz9_2 := blk_frozen BK963.out 2) | ((with_reducible refine gate_callee (f := 32) rfl ?_); refine goesL_ (some 14) rfl rfl Try.func32 (by kernel_rfl) rfl #[.agg #[.int .i64 a0_0, .int .i64 a0_1, .slice A0_2 l0_2.length c0_2], .slice A2 l2.length c2] rfl (by ((simp only [List.map_toArray, List.map_cons, List.map_nil])); (rfl)) ?_; (with_reducible refine (codewrightref05_Canon.calls k a0_0 a0_1 _ _ l0_2 _ _ l2 t967 _ ?side1 ?side2 ?side3 ?side4 A5.out).mono ?_); (case side1 => repeat ((exact (Kd.C_below HR0_2.out HB.out)))); (case side2 => exact HC0_2.out); (case side3 => repeat ((exact (Kd.C_below HR2.out HB.out)))); (case side4 => exact HC2.out); rintro e w10 ⟨v968, rfl, ho0, hb⟩; refine ⟨_, rfl, ?_⟩; have n0_ := Aside0.mk (Kd.R_elder' HO966.out (Kd.R_base ho0) hb); have n1_ := Aside0.mk (Kd.R_lower (Kd.R_new' ho0 (Kd.R_lt HO966.out)) (below_size HB.out)); have n2_ := Aside0.mk (blk_below (g := gb963) (o := .cells #[.int .i64 a0_0, .int .i64 a0_1, .slice A0_2 l0_2.length c0_2] 24 (0, 0)) BK963.out hb); have n3_ := Aside0.mk (below_step HB.out hb); clear HO966; clear BK963; clear HB; have HO966 := n0_; have HO969 := n1_; have BK963 := n2_; have HB := n3_; clear n0_ n1_ n2_ n3_; ((clear hb)); (skip); (skip); (skip); ((clear ho0))))
 go_loopg [1, 2] k (fun kq v1 v2 w' => ∃ (x1_1 : List Int) (x2_1 : List Int), Aside0 (codewrightref05_Gcd.l0 kq x1_1 x2_1 a0_0 a0_1 l0_2 = some r) ∧ Aside0 (kq ≤ k) ∧ Aside0 (Kd.R (Kd.int .i64) 3 w' w.heap.size (fun k_ => some k_ ≠ (v2 : Value).ownBlock) v1 x1_1) ∧ Aside0 (Kd.R (Kd.int .i64) 3 w' w.heap.size (fun k_ => some k_ ≠ (v1 : Value).ownBlock) v2 x2_1) ∧ Aside0 (w'.heap[gb963]? = some (.cells #[.int .i64 a0_0, .int .i64 a0_1, (.slice A0_2 l0_2.length c0_2)] 24 (0, 0))) ∧ Aside0 (Below w.heap.size w w'))
 case atStart => exact ⟨(t964), (t967), H', ⟨Nat.le_refl _⟩, ⟨by exact Kd.R_mono HO966.out (fun _ hk => hk.2)⟩, ⟨by exact Kd.R_mono HO969.out (fun _ hk => hk.2)⟩, ⟨BK963.out⟩, ⟨by exact HB.out⟩⟩
 case round =>
  clear H' hcz7_0 hcz7_1 hcz7_2 hcz9_0 hcz9_1 hcz9_2 hfz7_0 hfz7_1 hfz7_2 hfz9_0 hfz9_1 hfz9_2
  obtain ⟨x1_1, x2_1, HA, HK1, HO_1, HO_2, BK963, HB⟩ := hrel
  cases gk with
  | zero => exact absurd HA.out (by simp [codewrightref05_Gcd.l0])
  | succ k1 =>
   have H := HA.out
   clear HA
   simp only [codewrightref05_Gcd.l0] at H
   by_cases c11 : (x2_1.length : Int) > 0
   ·rw [if_pos c11] at H
    have c11b0 : decide (0 < (x2_1.length : Int)) = true := decide_eq_true c11
    have c11b1 : decide (0 < x2_1.length) = true := decide_eq_true (by omega)
    clear c11
    replace H := Option.bind_eq_some_iff.mp H
    obtain ⟨⟨t970, t973⟩, A120, H⟩ := H
    replace H : (codewrightref05_Gcd.l0 k1 x2_1 t973 a0_0 a0_1 l0_2) = some r := H
    have A12 := Aside0.mk A120
    clear A120
    have H' := Aside0.mk H
    clear H
    obtain ⟨Ao13, co13, eo13⟩ := Kd.R_slice HO_2.out
    subst eo13
    have hcz14_0 : wr.cell? ⟨gb963, 0, none⟩ = some (.int .i64 a0_0) := (blk_cell BK963.out 0).trans rfl
    have hcz14_1 : wr.cell? ⟨gb963, 1, none⟩ = some (.int .i64 a0_1) := (blk_cell BK963.out 1).trans rfl
    have hcz14_2 : wr.cell? ⟨gb963, 2, none⟩ = some (.slice A0_2 l0_2.length c0_2) := (blk_cell BK963.out 2).trans rfl
    have hfz14_0 := blk_frozen BK963.out 0
    have hfz14_1 := blk_frozen BK963.out 1
    have hfz14_2 := blk_frozen BK963.out 2
    obtain ⟨Ao15, co15, eo15⟩ := Kd.R_slice HO_1.out
    subst eo15
    go_wp2_with (((with_reducible refine gate_callee (f := 47) rfl ?_); refine goesL_ (some 22) rfl rfl Try.func47 (by kernel_rfl) rfl #[.agg #[.int .i64 a0_0, .int .i64 a0_1, .slice A0_2 l0_2.length c0_2], .slice Ao15 x1_1.length co15, .slice Ao13 x2_1.length co13] rfl (by ((simp only [List.map_toArray, List.map_cons, List.map_nil])); (rfl)) ?_; (with_reducible refine (codewrightref05_DivMod.calls k1 a0_0 a0_1 _ _ l0_2 _ _ x1_1 _ _ x2_1 t970 t973 _ ?side1 ?side2 ?side3 ?side4 ?side5 ?side6 A12.out).mono ?_); (case side1 => repeat ((exact (Kd.C_below HR0_2.out HB.out)))); (case side2 => exact HC0_2.out); (case side3 => repeat ((exact (Kd.R_reads' HO_1.out).2.2))); (case side4 => exact (Kd.R_reads' HO_1.out).2.1); (case side5 => repeat ((exact (Kd.R_reads' HO_2.out).2.2))); (case side6 => exact (Kd.R_reads' HO_2.out).2.1); rintro e w16 ⟨v971, v974, rfl, ho0, ho1, hb⟩; refine ⟨_, rfl, ?_⟩; have n0_ := Aside0.mk (Kd.R_mono (Kd.R_told (Kd.R_told (Kd.R_old HO_1.out hb) (Kd.R_base ho0)) (Kd.R_base ho1)) (fun _ h_ => h_.1)); have n1_ := Aside0.mk (Kd.R_mono (Kd.R_told (Kd.R_told (Kd.R_old HO_2.out hb) (Kd.R_base ho0)) (Kd.R_base ho1)) (fun _ h_ => h_.1)); have n2_ := Aside0.mk (Kd.R_lower (Kd.R_new' (Kd.R_new' ho0 (Kd.R_lt HO_1.out)) (Kd.R_lt HO_2.out)) (below_size HB.out)); have n3_ := Aside0.mk (Kd.R_lower (Kd.R_new' (Kd.R_new' ho1 (Kd.R_lt HO_1.out)) (Kd.R_lt HO_2.out)) (below_size HB.out)); have n4_ := Aside0.mk (blk_below (g := gb963) (o := .cells #[.int .i64 a0_0, .int .i64 a0_1, .slice A0_2 l0_2.length c0_2] 24 (0, 0)) BK963.out hb); have n5_ := Aside0.mk (below_step HB.out hb); clear HO_1; clear HO_2; clear BK963; clear HB; have HO_1 := n0_; have HO_2 := n1_; have HO972 := n2_; have HO975 := n3_; have BK963 := n4_; have HB := n5_; clear n0_ n1_ n2_ n3_ n4_ n5_; ((clear hb)); (skip); (skip); (skip); ((clear ho0)); ((clear ho1))))
    go_roundg k1
    case measure => have := HK1.out; omega
    case rel => exact ⟨(x2_1), (t973), H', ⟨by have := HK1.out; omega⟩, ⟨by exact Kd.R_mono HO_2.out (fun _ hk => hk.2)⟩, ⟨by exact Kd.R_mono HO975.out (fun _ hk => hk.2)⟩, ⟨BK963.out⟩, ⟨by exact HB.out⟩⟩
   ·rw [if_neg c11] at H
    have c11b0 : decide (0 < (x2_1.length : Int)) = false := decide_eq_false c11
    have c11b1 : decide (0 < x2_1.length) = false := decide_eq_false (by omega)
    clear c11
    obtain ⟨t976, A170, H⟩ := Option.bind_eq_some_iff.mp H
    replace H : (some t976) = some r := H
    have A17 := Aside0.mk A170
    clear A170
    obtain rfl := Option.some.inj H
    obtain ⟨Ao18, co18, eo18⟩ := Kd.R_slice HO_2.out
    subst eo18
    have hcz19_0 : wr.cell? ⟨gb963, 0, none⟩ = some (.int .i64 a0_0) := (blk_cell BK963.out 0).trans rfl
    have hcz19_1 : wr.cell? ⟨gb963, 1, none⟩ = some (.int .i64 a0_1) := (blk_cell BK963.out 1).trans rfl
    have hcz19_2 : wr.cell? ⟨gb963, 2, none⟩ = some (.slice A0_2 l0_2.length c0_2) := (blk_cell BK963.out 2).trans rfl
    have hfz19_0 := blk_frozen BK963.out 0
    have hfz19_1 := blk_frozen BK963.out 1
    have hfz19_2 := blk_frozen BK963.out 2
    obtain ⟨Ao20, co20, eo20⟩ := Kd.R_slice HO_1.out
    subst eo20
    go_wp2_with (((with_reducible refine gate_callee (f := 21) rfl ?_); refine goesL_ (some 29) rfl rfl Try.func21 (by kernel_rfl) rfl #[.agg #[.int .i64 a0_0, .int .i64 a0_1, .slice A0_2 l0_2.length c0_2], .slice Ao20 x1_1.length co20] rfl (by ((simp only [List.map_toArray, List.map_cons, List.map_nil])); (rfl)) ?_; (with_reducible refine (codewrightref05_Monic.calls k1 a0_0 a0_1 _ _ l0_2 _ _ x1_1 t976 _ ?side1 ?side2 ?side3 ?side4 A17.out).mono ?_); (case side1 => repeat ((exact (Kd.C_below HR0_2.out HB.out)))); (case side2 => exact HC0_2.out); (case side3 => repeat ((exact (Kd.R_reads' HO_1.out).2.2))); (case side4 => exact (Kd.R_reads' HO_1.out).2.1); rintro e w21 ⟨v977, rfl, ho0, hb⟩; refine ⟨_, rfl, ?_⟩; have n0_ := Aside0.mk (Kd.R_elder' HO_1.out (Kd.R_base ho0) hb); have n1_ := Aside0.mk (Kd.R_elder' HO_2.out (Kd.R_base ho0) hb); have n2_ := Aside0.mk (Kd.R_lower (Kd.R_new' (Kd.R_new' ho0 (Kd.R_lt HO_1.out)) (Kd.R_lt HO_2.out)) (below_size HB.out)); have n3_ := Aside0.mk (blk_below (g := gb963) (o := .cells #[.int .i64 a0_0, .int .i64 a0_1, .slice A0_2 l0_2.length c0_2] 24 (0, 0)) BK963.out hb); have n4_ := Aside0.mk (below_step HB.out hb); clear HO_1; clear HO_2; clear BK963; clear HB; have HO_1 := n0_; have HO_2 := n1_; have HO978 := n2_; have BK963 := n3_; have HB := n4_; clear n0_ n1_ n2_ n3_ n4_; ((clear hb)); (skip); (skip); (skip); ((clear ho0))))
    go_ret
    exact ⟨_, by rfl, by exact Kd.R_mono HO978.out (fun _ hk => trivial), by exact HB.out⟩
end Go.Proofs.Ytiejggpmjapajaa.PA
end
section
namespace Go.Proofs.Ytiejggpmjapajaa.PA
open Go.RowKit Go.Proofs.YtiejggpmjapajaaW.PrintWords Go.Proofs.YtiejggpmjapajaaW.PrintLast Go.Proofs.YtiejggpmjapajaaW.PrintMore
attribute [local go_sem] max2_int min2_int max_two min_two max_three min_three max_four min_four
set_option linter.unusedVariables false
set_option linter.unusedSimpArgs false
end Go.Proofs.Ytiejggpmjapajaa.PA
end
section
namespace Go.Proofs.Ytiejggpmjapajaa.PA
open Go.RowKit Go.Proofs.YtiejggpmjapajaaW.PrintWords Go.Proofs.YtiejggpmjapajaaW.PrintLast Go.Proofs.YtiejggpmjapajaaW.PrintMore
theorem Ev.succ {α : Type} {g : Nat → Option α} {r : α} (h : Ev (fun k => g (k + 1)) r) : Ev g r := Ev.step (fun _ => rfl) h
theorem Ev.ifp {α : Type} {c : Prop} [Decidable c] {f g : Nat → Option α} {r : α} (h : c) (e : Ev f r) : Ev (fun k => if c then f k else g k) r := by simp only [if_pos h]; exact e
theorem Ev.ifn {α : Type} {c : Prop} [Decidable c] {f g : Nat → Option α} {r : α} (h : ¬ c) (e : Ev g r) : Ev (fun k => if c then f k else g k) r := by simp only [if_neg h]; exact e
theorem Ev.val {α : Type} {a r : α} (h : a = r) : Ev (fun _ => some a) r := h ▸ Ev.now a
theorem Ev.some_bind {α β : Type} {a : α} {f : Nat → α → Option β} {r : β} (h : Ev (fun k => f k a) r) : Ev (fun k => (some a).bind (f k)) r := h
theorem Ev.opt_bind {α β : Type} {o : Option α} {a : α} {f : Nat → α → Option β} {r : β} (h0 : o = some a) (h : Ev (fun k => f k a) r) : Ev (fun k => o.bind (f k)) r := by subst h0; exact h
theorem w64 {n : Int} (h : -4000000000000000000 ≤ n ∧ n ≤ 4000000000000000000) : wrap64 n = n := by unfold wrap64; omega
theorem rd_nat (xs : List Int) (j : Nat) : rd xs (j : Int) = xs.getD j 0 := by unfold rd; rw [Int.toNat_natCast]
theorem rd_set (xs : List Int) (i j : Nat) (v : Int) (h : i < xs.length) : (xs.set i v).getD j 0 = if i = j then v else xs.getD j 0 := by
  rw [List.getD_eq_getElem?_getD, List.getElem?_set]
  split
  · rename_i e; subst e; simp [h]
  · rw [List.getD_eq_getElem?_getD]
theorem tdiv_pos {a b : Int} (h : 0 ≤ a) : Int.tdiv a b = a / b := Int.tdiv_eq_ediv_of_nonneg h
theorem tmod_pos {a b : Int} (h : 0 ≤ a) : Int.tmod a b = a % b := Int.tmod_eq_emod_of_nonneg h
theorem getD_nat_lt (xs : List Int) (j : Nat) (h : xs.length ≤ j) : xs.getD j 0 = 0 := by
  rw [List.getD_eq_getElem?_getD, List.getElem?_eq_none h]; rfl
theorem getD_zeros (n j : Nat) : (List.replicate n (0 : Int)).getD j 0 = 0 := by
  rw [List.getD_eq_getElem?_getD, List.getElem?_replicate]; split <;> rfl
end Go.Proofs.Ytiejggpmjapajaa.PA
end
