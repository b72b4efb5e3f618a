/- Proved: for every input the law PolyAdds returns true and leaves its arguments as they were; no conditions. Part 5 of 6 of the proof. -/
import Derived.Test.YtccmpmkmgehkiaaZPolyAdds3
set_option linter.unusedSectionVars false
set_option linter.unusedSimpArgs false
set_option linter.unusedVariables false
section
namespace Go.Proofs.Ytccmpmkmgehkiaa.PA
open Go.RowKit Go.Proofs.YtccmpmkmgehkiaaW.PrintWords Go.Proofs.YtccmpmkmgehkiaaW.PrintLast Go.Proofs.YtccmpmkmgehkiaaW.PrintMore
attribute [local go_sem] max2_int min2_int max_two min_two max_three min_three max_four min_four
set_option linter.unusedVariables false
set_option linter.unusedSimpArgs false
mutual
def poly_combine.l0 : Nat → Int → List Int → List Int → List Int → Int → Int → Int → Int → List Int → Int → List Int → List Int → Option (List Int × Int × Int × Int)
 | 0, _, _, _, _, _, _, _, _, _, _, _, _ => none
 | k + 1, x2, x3, x9, x20, x21, x22, x1000, x1001, x1002, x1003, x1004, x1005 => if x22 < x21 then (if 0 ≤ x22 then (if x22 < (x20.length : Int) then ((field_GF_Add.f k x1000 x1001 x1002 x1003 x1004 x1005 (rd x20 x22) 0).bind fun bt475 => (if x22 < (x9.length : Int) then (poly_combine.l0 k x2 x3 (x9.set (x22 : Int).toNat bt475.1) x20 x21 (wrap64 (x22 + 1)) bt475.2.1 bt475.2.2.1 x1002 bt475.2.2.2 x1004 x1005) else (none))) else (none)) else (none)) else (poly_combine.l1 k x2 x9 x3 (x3.length : Int) 0 x1000 x1001 x1002 x1003 x1004 x1005)
def poly_combine.l1 : Nat → Int → List Int → List Int → Int → Int → Int → Int → List Int → Int → List Int → List Int → Option (List Int × Int × Int × Int)
 | 0, _, _, _, _, _, _, _, _, _, _, _ => none
 | k + 1, x2, x9, x34, x35, x36, x1000, x1001, x1002, x1003, x1004, x1005 => if x36 < x35 then (if 0 ≤ x36 then (if x36 < (x34.length : Int) then (if x36 < (x9.length : Int) then ((field_GF_Mul.f x1000 x1001 x1002 x1003 x1004 x1005 x2 (rd x34 x36)).bind fun bt482 => ((field_GF_Add.f k bt482.2.1 bt482.2.2.1 x1002 bt482.2.2.2 x1004 x1005 (rd x9 x36) bt482.1).bind fun bt486 => (poly_combine.l1 k x2 (x9.set (x36 : Int).toNat bt486.1) x34 x35 (wrap64 (x36 + 1)) bt486.2.1 bt486.2.2.1 x1002 bt486.2.2.2 x1004 x1005))) else (none)) else (none)) else (none)) else ((poly_trim.f k x9).bind fun t491 => (some (t491, x1000, x1001, x1003)))
end
def poly_combine.f (k : Nat) (s0_0 : Int) (s0_1 : Int) (s0_2 : List Int) (s0_3 : Int) (s0_4 : List Int) (s0_5 : List Int) (l1 : List Int) (a2 : Int) (l3 : List Int) : Option (List Int × Int × Int × Int) := if 0 ≤ (mx (l1.length : Int) (l3.length : Int)) then (if (mx (l1.length : Int) (l3.length : Int) : Int).toNat ≤ 35184372088832 then (poly_combine.l0 k a2 l3 (List.replicate (mx (l1.length : Int) (l3.length : Int) : Int).toNat 0) l1 (l1.length : Int) 0 s0_0 s0_1 s0_2 s0_3 s0_4 s0_5) else (none)) else (none)
def poly_combine.T10 : Bool × List (List Nat × List Nat) := (true, [([], []), ([], []), ([], []), ([], []), ([], []), ([3, 4], [3, 4]), ([5], [5]), ([], []), ([], []), ([], []), ([7, 8, 9], [7, 8, 9]), ([2, 6, 10, 10], [2, 6, 10]), ([0, 1, 0, 1, 2, 3, 4, 5, 6, 7, 8, 9, 10, 11], [0, 1]), ([12, 11, 11, 0, 1, 2, 3, 4, 5, 6, 7, 8, 9, 10, 11], [11, 12])])
def poly_combine.B10 : List Nat := [0, 0, 0, 0, 0, 24, 56, 0, 0, 0, 896, 2044, 4095, 8191]
theorem poly_combine.tab10 : rtab .any (opsOf Try.f50 10) = poly_combine.T10 := by kernel_rfl
theorem poly_combine.bits10 : waitsOk poly_combine.T10.2 poly_combine.B10 = true := by kernel_rfl
set_option maxHeartbeats 8000000 in
set_option maxRecDepth 100000 in
theorem poly_combine.calls (k : Nat) (g : Nat) (s0_0 : Int) (s0_1 : Int) (s0_2 : List Int) (s0_3 : Int) (s0_4 : List Int) (s0_5 : List Int) (A1 : Option Addr) (c1 : Nat) (l1 : List Int) (a2 : Int) (A3 : Option Addr) (c3 : Nat) (l3 : List Int) (r1 : List Int) (r2 : Int) (r3 : Int) (r4 : Int) (w0 w : World) (hI : IsS74 w0 w g s0_0 s0_1 s0_2 s0_3 s0_4 s0_5) (hB : Below w0.heap.size w0 w) (hr1 : Kd.C (Kd.int .i64) w A1 l1.length l1) (hc1 : l1.length ≤ c1) (hf1 : ∀ ad, A1 = some ad → 0 < l1.length → ad.block ≠ g) (hr3 : Kd.C (Kd.int .i64) w A3 l3.length l3) (hc3 : l3.length ≤ c3) (hf3 : ∀ ad, A3 = some ad → 0 < l3.length → ad.block ≠ g) (h : poly_combine.f k s0_0 s0_1 s0_2 s0_3 s0_4 s0_5 l1 a2 l3 = some (r1, r2, r3, r4)) :
  Calls Try.prog 50 #[.pointer (some ⟨g, 0, none⟩), .slice A1 l1.length c1, .int .i64 a2, .slice A3 l3.length c3] w fun e w' => ∃ v0_ : Value, e = .returned (v0_) ∧ Kd.R (Kd.int .i64) 3 w' w.heap.size (fun _ => True) v0_ r1 ∧ IsS74 w0 w' g r2 r3 s0_2 r4 s0_4 s0_5 ∧ Below w0.heap.size w0 w' ∧ KeepBut w w' g none := by
 have HR1 := Aside0.mk hr1
 have HC1 := Aside0.mk hc1
 clear hr1 hc1
 have HR3 := Aside0.mk hr3
 have HC3 := Aside0.mk hc3
 clear hr3 hc3
 have HI0 := Aside0.mk hI
 have HK := Aside0.mk (KeepBut.refl w g none)
 have HL := Aside0.mk hB.size
 clear hI
 have HW0 := Aside0.mk hB.size
 have HB := Aside0.mk hB
 clear hB
 have H : (if 0 ≤ (mx (l1.length : Int) (l3.length : Int)) then (if (mx (l1.length : Int) (l3.length : Int) : Int).toNat ≤ 35184372088832 then (poly_combine.l0 k a2 l3 (List.replicate (mx (l1.length : Int) (l3.length : Int) : Int).toNat 0) l1 (l1.length : Int) 0 s0_0 s0_1 s0_2 s0_3 s0_4 s0_5) else (none)) else (none)) = some (r1, r2, r3, r4) := h
 clear h
 obtain ⟨ji5, hji5⟩ : ∃ j_ : Int, (mx (l1.length : Int) (l3.length : Int)) = j_ := ⟨_, rfl⟩
 replace H : (if 0 ≤ (ji5) then (if (ji5 : Int).toNat ≤ 35184372088832 then (poly_combine.l0 k a2 l3 (List.replicate (ji5 : Int).toNat 0) l1 (l1.length : Int) 0 s0_0 s0_1 s0_2 s0_3 s0_4 s0_5) else (none)) else (none)) = some (r1, r2, r3, r4) := by (rw [hji5] at H; exact H)
 ((have hji5l : 0 ≤ ji5 := by (rw [← hji5]; unfold mx; (repeat' split) <;> omega)))
 ((have hji5m : 0 ≤ ji5 := by omega))
 have hji5_ : (if (l1.length : Int) < (l3.length : Int) then (l3.length : Int) else (l1.length : Int)) = ji5 := hji5
 have hji5n : (if l1.length < l3.length then (l3.length : Int) else (l1.length : Int)) = ji5 := by rw [← hji5_]; simp only [Int.ofNat_lt]
 by_cases c6 : 0 ≤ (ji5)
 ·rw [if_pos c6] at H
  have c6b0 := eq_true c6
  have c6b1 : decide (0 ≤ (ji5)) = true := decide_eq_true c6
  clear c6
  by_cases c7 : (ji5 : Int).toNat ≤ 35184372088832
  ·rw [if_pos c7] at H
   have c7b0 := eq_true c7
   have c7b1 : decide ((ji5 : Int).toNat ≤ 35184372088832) = true := decide_eq_true c7
   clear c7
   obtain ⟨y471, hy471⟩ : ∃ y_ : List Int, y_ = (List.replicate (ji5 : Int).toNat 0) := ⟨_, rfl⟩
   replace H : (poly_combine.l0 k a2 l3 y471 l1 (l1.length : Int) 0 s0_0 s0_1 s0_2 s0_3 s0_4 s0_5) = some (r1, r2, r3, r4) := by (rw [hy471]; with_reducible exact H)
   have Ny471 := Aside0.mk hy471
   clear hy471
   have H' := Aside0.mk H
   clear H
   go_enter Try.func50, Try.ntmps50
   go_wp2_with (((with_reducible refine gate_dst (N := 19) rfl ?_); refine Kd.R_make (Kd.int .i64) _ 3 rfl (N := 19) rfl 22 _ _ rfl ji5 rfl rfl Try.underlying22 (.int .i64 0) 8 info3 rfl (by decide) (by omega) 0 (ok := fun _ => True) (okp := fun _ => True) rfl (fun _ hk => hk) trivial (of_decide_eq_true (by (with_reducible assumption))) (Nat.le_trans (Nat.mul_le_mul_right _ (of_decide_eq_true (by (with_reducible assumption)) : ji5.toNat ≤ 35184372088832)) (by omega)) (Below.refl _ _) (Nat.le_refl _) ?_; intro v472 w8 ho9 hb hg_ hnew_; clear hg_ hnew_; ((rw [← Ny471.out] at ho9)); have n0_ := Aside0.mk (Kd.R_lower ho9 (keep_size (w := w) (g := g) (row := none) HK.out)); have n1_ := Aside0.mk (IsS74.below HI0.out hb); have n2_ := Aside0.mk (KeepBut.trans HK.out (KeepBut.of_below hb g none) (.inl rfl)); have n3_ := Aside0.mk (below_step HB.out hb); clear HI0; clear HK; clear HB; have HO473 := n0_; have HI0 := n1_; have HK := n2_; have HB := n3_; clear n0_ n1_ n2_ n3_; clear hb ho9))
   go_loopg [22] k (fun kq v22 w' => ∃ (x9_1 : List Int) (x22_1 : Int) (x1000_1 : Int) (x1001_1 : Int) (x1003_1 : Int), v22 = .int .i64 x22_1 ∧ Aside0 (poly_combine.l0 kq a2 l3 x9_1 l1 (l1.length : Int) x22_1 x1000_1 x1001_1 s0_2 x1003_1 s0_4 s0_5 = some (r1, r2, r3, r4)) ∧ Aside0 (kq ≤ k) ∧ Aside0 (Kd.R (Kd.int .i64) 3 w' w.heap.size (fun _ => True) v472 x9_1) ∧ Aside0 (IsS74 w0 w' g x1000_1 x1001_1 s0_2 x1003_1 s0_4 s0_5) ∧ Aside0 (KeepBut w w' g none) ∧ Aside0 (Below w0.heap.size w0 w'))
   case atStart => exact ⟨(y471), (0), (s0_0), (s0_1), (s0_3), (by rfl), H', ⟨Nat.le_refl _⟩, ⟨HO473.out⟩, ⟨by exact HI0.out⟩, ⟨by exact HK.out⟩, ⟨by exact HB.out⟩⟩
   case round =>
    clear H' c6b0 c6b1 c7b0 c7b1
    obtain ⟨x9_1, x22_1, x1000_1, x1001_1, x1003_1, rfl, HA, HK1, HO_9, HI0, HK, HB⟩ := hrel
    cases gk with
    | zero => exact absurd HA.out (by simp [poly_combine.l0])
    | succ k1 =>
     have H := HA.out
     clear HA
     simp only [poly_combine.l0] at H
     by_cases c10 : x22_1 < (l1.length : Int)
     ·rw [if_pos c10] at H
      have c10b0 : decide (x22_1 < (l1.length : Int)) = true := decide_eq_true c10
      clear c10
      by_cases c11 : 0 ≤ x22_1
      ·rw [if_pos c11] at H
       have c11b0 : decide (0 ≤ x22_1) = true := decide_eq_true c11
       clear c11
       by_cases c12 : x22_1 < (l1.length : Int)
       ·rw [if_pos c12] at H
        have c12b0 : decide (x22_1 < (l1.length : Int)) = true := decide_eq_true c12
        clear c12
        replace H := Option.bind_eq_some_iff.mp H
        obtain ⟨⟨t475, t476, t477, t478⟩, A130, H⟩ := H
        replace H : (if x22_1 < (x9_1.length : Int) then (poly_combine.l0 k1 a2 l3 (x9_1.set (x22_1 : Int).toNat t475) l1 (l1.length : Int) (wrap64 (x22_1 + 1)) t476 t477 s0_2 t478 s0_4 s0_5) else (none)) = some (r1, r2, r3, r4) := H
        have A13 := Aside0.mk A130
        clear A130
        by_cases c14 : x22_1 < (x9_1.length : Int)
        ·rw [if_pos c14] at H
         have c14b0 : decide (x22_1 < (x9_1.length : Int)) = true := decide_eq_true c14
         clear c14
         obtain ⟨y479, hy479⟩ : ∃ y_ : List Int, y_ = (x9_1.set (x22_1 : Int).toNat t475) := ⟨_, rfl⟩
         replace H : (poly_combine.l0 k1 a2 l3 y479 l1 (l1.length : Int) (wrap64 (x22_1 + 1)) t476 t477 s0_2 t478 s0_4 s0_5) = some (r1, r2, r3, r4) := by (rw [hy479]; with_reducible exact H)
         have Ny479 := Aside0.mk hy479
         clear hy479
         have H' := Aside0.mk H
         clear H
         have p474 : 0 ≤ (x22_1 : Int) := of_decide_eq_true (by (with_reducible assumption))
         have q474 : x22_1 < (l1.length : Int) := of_decide_eq_true (by (with_reducible assumption))
         obtain ⟨ad474, e474, hx474_0⟩ := Kd.at_int HR1.out x22_1 p474 q474
         cases e474
         replace hx474_0 := keep_cell HK.out hx474_0 (by (rw [add_block]; exact hf1 _ rfl (by omega)))
         replace p474 := eq_true p474
         replace q474 := eq_true q474
         go_wp2_with (first | ((with_reducible refine gate_callee (f := 53) rfl ?_); refine goesL_ (some 31) rfl rfl Try.func53 (by kernel_rfl) rfl #[.pointer (some ⟨g, 0, none⟩), .int .i64 (rd l1 x22_1), .int .i64 0] rfl (by ((simp only [List.map_toArray, List.map_cons, List.map_nil])); (rfl)) ?_; (with_reducible refine (field_GF_Add.calls k1 g x1000_1 x1001_1 s0_2 x1003_1 s0_4 s0_5 (rd l1 x22_1) 0 t475 t476 t477 t478 w0 _ ?side1 ?side2 A13.out).mono ?_); (case side1 => repeat ((with_reducible (exact HI0.out)))); (case side2 => repeat ((with_reducible (exact HB.out)))); rintro e w16 ⟨rfl, hi, hb, hk⟩; refine ⟨_, rfl, ?_⟩; have n0_ := Aside0.mk (Kd.R_mono (Kd.R_keep (IsS74.apart (show IsS74 w0 _ g x1000_1 x1001_1 s0_2 x1003_1 s0_4 s0_5 from by exact HI0.out) HO_9.out (by decide)) hk (fun _ h => h.2)) (fun _ h => h.1)); have n1_ := Aside0.mk (KeepBut.trans HK.out hk (.inl rfl)); have n2_ := Aside0.mk (hb); have n3_ := Aside0.mk (hi); clear HO_9; clear HK; clear HB; clear HI0; have HO_9 := n0_; have HK := n1_; have HB := n2_; have HI0 := n3_; clear n0_ n1_ n2_ n3_; ((clear hb)); (skip); ((clear hk)); ((clear hi)); have p15 : 0 ≤ (x22_1 : Int) := of_decide_eq_true (by (with_reducible assumption)); have q15 : (x22_1 : Int) < ((x9_1.length : Int) : Int) := of_decide_eq_true (by (with_reducible assumption)); obtain ⟨go15, co15, eo15, gb15, gl15, cl15, HG15⟩ := Kd.R_form HO_9.out (by omega); ((cases eo15)); have GB15 := Aside0.mk gb15; have GG15 := Aside0.mk HG15; clear gb15 gl15 HG15; obtain ⟨hx15_0, hf15_0⟩ := Kd.R_celln 0 HO_9.out (x22_1 : Int) p15 q15; replace p15 := eq_true p15; replace q15 := eq_true q15; obtain ⟨hy17_, hz17_⟩ := Kd.R_celln 0 HO_9.out (x22_1 : Int) (of_decide_eq_true (by (with_reducible assumption))) (of_decide_eq_true (by (with_reducible assumption))); have HP17 := Kd.R_putg HO_9.out (x22_1 : Int) t475) | ((with_reducible refine gate_store (t := 3) (p := 32) rfl ?_); refine store_event (t := 3) (p := 32) (v := ?vo_w18) (w1 := (w16.setCell ⟨go15, (x22_1 : Int).toNat, none⟩ (.int .i64 t475))) ?hg ?ho ?hn ?hr ?_; (case ho => rfl); (case hg => rfl); (case hn => rfl); (case hr => (go_simp; done)); intro w18 hw; have hg : w16.grownBy w18 (some go15) := (by rw [hw]; exact HP17.2); have hp_ : Kd.R (Kd.int .i64) 3 w18 w.heap.size (fun _ => True) (.slice (some ⟨go15, 0, none⟩) x9_1.length co15) y479 := (by rw [hw, Ny479.out]; exact HP17.1); clear HP17; have n0_ := Aside0.mk (hp_); have n1_ := Aside0.mk (IsS74.grown HI0.out hg (IsS74.own_ne HI0.out HO_9.out (by decide))); have n2_ := Aside0.mk ((by rw [hw]; exact below_set (HB.out) (Nat.le_trans HL.out GB15.out) : Below w0.heap.size w0 w18)); have n3_ := Aside0.mk (KeepBut.trans HK.out (KeepBut.of_grown hg g) (Kd.R_base2 HO_9.out)); clear HO_9; clear HI0; clear HB; clear HK; have HO_9 := n0_; have HI0 := n1_; have HB := n2_; have HK := n3_; clear n0_ n1_ n2_ n3_; clear hg hw hp_))
         go_roundg k1
         case measure => have := HK1.out; omega
         case rel => exact ⟨(y479), (wrap64 (x22_1 + 1)), (t476), (t477), (t478), (by rfl), H', ⟨by have := HK1.out; omega⟩, ⟨HO_9.out⟩, ⟨by exact HI0.out⟩, ⟨by exact HK.out⟩, ⟨by exact HB.out⟩⟩
        ·rw [if_neg c14] at H
         exact absurd H (by simp)
       ·rw [if_neg c12] at H
        exact absurd H (by simp)
      ·rw [if_neg c11] at H
       exact absurd H (by simp)
     ·rw [if_neg c10] at H
      have c10b0 : decide (x22_1 < (l1.length : Int)) = false := decide_eq_false c10
      clear c10
      have H' := Aside0.mk H
      clear H
      go_wp2
      go_loopg [36] k1 (fun kq v36 w' => ∃ (x9_2 : List Int) (x36_2 : Int) (x1000_2 : Int) (x1001_2 : Int) (x1003_2 : Int), v36 = .int .i64 x36_2 ∧ Aside0 (poly_combine.l1 kq a2 x9_2 l3 (l3.length : Int) x36_2 x1000_2 x1001_2 s0_2 x1003_2 s0_4 s0_5 = some (r1, r2, r3, r4)) ∧ Aside0 (kq ≤ k1) ∧ Aside0 (Kd.R (Kd.int .i64) 3 w' w.heap.size (fun _ => True) v472 x9_2) ∧ Aside0 (IsS74 w0 w' g x1000_2 x1001_2 s0_2 x1003_2 s0_4 s0_5) ∧ Aside0 (KeepBut w w' g none) ∧ Aside0 (Below w0.heap.size w0 w'))
      case atStart => exact ⟨(x9_1), (0), (x1000_1), (x1001_1), (x1003_1), (by rfl), H', ⟨Nat.le_refl _⟩, ⟨HO_9.out⟩, ⟨by exact HI0.out⟩, ⟨by exact HK.out⟩, ⟨by exact HB.out⟩⟩
      case round =>
       clear H' c10b0
       obtain ⟨x9_2, x36_2, x1000_2, x1001_2, x1003_2, rfl, HA, HK2, HO_9, HI0, HK, HB⟩ := hrel
       cases gk with
       | zero => exact absurd HA.out (by simp [poly_combine.l1])
       | succ k2 =>
        have H := HA.out
        clear HA
        simp only [poly_combine.l1] at H
        by_cases c19 : x36_2 < (l3.length : Int)
        ·rw [if_pos c19] at H
         have c19b0 : decide (x36_2 < (l3.length : Int)) = true := decide_eq_true c19
         clear c19
         by_cases c20 : 0 ≤ x36_2
         ·rw [if_pos c20] at H
          have c20b0 : decide (0 ≤ x36_2) = true := decide_eq_true c20
          clear c20
          by_cases c21 : x36_2 < (l3.length : Int)
          ·rw [if_pos c21] at H
           have c21b0 : decide (x36_2 < (l3.length : Int)) = true := decide_eq_true c21
           clear c21
           by_cases c22 : x36_2 < (x9_2.length : Int)
           ·rw [if_pos c22] at H
            have c22b0 : decide (x36_2 < (x9_2.length : Int)) = true := decide_eq_true c22
            clear c22
            replace H := Option.bind_eq_some_iff.mp H
            obtain ⟨⟨t482, t483, t484, t485⟩, A230, H⟩ := H
            replace H : ((field_GF_Add.f k2 t483 t484 s0_2 t485 s0_4 s0_5 (rd x9_2 x36_2) t482).bind fun bt486 => (poly_combine.l1 k2 a2 (x9_2.set (x36_2 : Int).toNat bt486.1) l3 (l3.length : Int) (wrap64 (x36_2 + 1)) bt486.2.1 bt486.2.2.1 s0_2 bt486.2.2.2 s0_4 s0_5)) = some (r1, r2, r3, r4) := H
            have A23 := Aside0.mk A230
            clear A230
            replace H := Option.bind_eq_some_iff.mp H
            obtain ⟨⟨t486, t487, t488, t489⟩, A240, H⟩ := H
            replace H : (poly_combine.l1 k2 a2 (x9_2.set (x36_2 : Int).toNat t486) l3 (l3.length : Int) (wrap64 (x36_2 + 1)) t487 t488 s0_2 t489 s0_4 s0_5) = some (r1, r2, r3, r4) := H
            have A24 := Aside0.mk A240
            clear A240
            obtain ⟨y490, hy490⟩ : ∃ y_ : List Int, y_ = (x9_2.set (x36_2 : Int).toNat t486) := ⟨_, rfl⟩
            replace H : (poly_combine.l1 k2 a2 y490 l3 (l3.length : Int) (wrap64 (x36_2 + 1)) t487 t488 s0_2 t489 s0_4 s0_5) = some (r1, r2, r3, r4) := by (rw [hy490]; with_reducible exact H)
            have Ny490 := Aside0.mk hy490
            clear hy490
            have H' := Aside0.mk H
            clear H
            have p480 : 0 ≤ (x36_2 : Int) := of_decide_eq_true (by (with_reducible assumption))
            have q480 : x36_2 < (l3.length : Int) := of_decide_eq_true (by (with_reducible assumption))
            obtain ⟨ad480, e480, hx480_0⟩ := Kd.at_int HR3.out x36_2 p480 q480
            cases e480
            replace hx480_0 := keep_cell HK.out hx480_0 (by (rw [add_block]; exact hf3 _ rfl (by omega)))
            replace p480 := eq_true p480
            replace q480 := eq_true q480
            (go_wp2)
            have n0_ := Aside0.mk (Kd.R_drew HO_9.out)
            have n1_ := Aside0.mk (IsS74.drew HI0.out)
            have n2_ := Aside0.mk (keep_drew HK.out)
            have n3_ := Aside0.mk (below_drew1 HB.out)
            clear HO_9 HI0 HK HB
            have HO_9 := n0_
            have HI0 := n1_
            have HK := n2_
            have HB := n3_
            clear n0_ n1_ n2_ n3_
            obtain ⟨Ao27, co27, eo27⟩ := Kd.R_slice HO_9.out
            ((subst eo27))
            have p481 : 0 ≤ (x36_2 : Int) := of_decide_eq_true (by (with_reducible assumption))
            have q481 : x36_2 < (x9_2.length : Int) := of_decide_eq_true (by (with_reducible assumption))
            obtain ⟨ad481, e481, hx481_0⟩ := Kd.at_int (Kd.R_reads' HO_9.out).2.2 x36_2 p481 q481
            cases e481
            replace p481 := eq_true p481
            replace q481 := eq_true q481
            refine start_ (n := 14) (S := fun w' => w'.cell? (ad481.add (x36_2).toNat) = some (.int .i64 (rd x9_2 x36_2))) (ds := [13]) #[false, false, false, false, false, false, false, false, false, false, false, false, false, false] (by kernel_rfl) rfl rfl (hx481_0) (fun hHeld => ?_); refine with_tabW poly_combine.tab10 poly_combine.bits10 (fun HT_ HW_ => ?_)
            generalize wr.drew = w26 at HO_9 HI0 HK HB hx481_0 hHeld ⊢
            refine pure_ (i := 0) (N := some 41) (v := ?_) (a' := ?_) #[true, false, false, false, false, false, false, false, false, false, false, false, false, false] rfl rfl (any_of HT_.out (by kernel_rfl)) (fun _ _ _ h => h) (Or.inl ⟨by rfl, ?_⟩) ?_ ?_
            rotate_left
            ·intro w'
             go_simp
             with_reducible rfl
            rotate_left
            ·simp only [Act.put, List.setIfInBounds_toArray, List.set_cons_zero, List.set_cons_succ, i64_w, i32_w]
             rfl
            refine pure_ (i := 1) (N := some 42) (v := ?_) (a' := ?_) #[true, true, false, false, false, false, false, false, false, false, false, false, false, false] rfl rfl (any_of HT_.out (by kernel_rfl)) (fun _ _ _ h => h) (Or.inl ⟨by rfl, ?_⟩) ?_ ?_
            rotate_left
            ·intro w'
             go_simp
             with_reducible rfl
            rotate_left
            ·simp only [Act.put, List.setIfInBounds_toArray, List.set_cons_zero, List.set_cons_succ, i64_w, i32_w]
             rfl
            refine pure_ (i := 2) (N := some 43) (v := ?_) (a' := ?_) #[true, true, true, false, false, false, false, false, false, false, false, false, false, false] rfl rfl (any_of HT_.out (by kernel_rfl)) (fun _ _ _ h => h) (Or.inl ⟨by rfl, ?_⟩) ?_ ?_
            rotate_left
            ·intro w'
             go_simp
             with_reducible rfl
            rotate_left
            ·simp only [Act.put, List.setIfInBounds_toArray, List.set_cons_zero, List.set_cons_succ, i64_w, i32_w]
             rfl
            refine pure_ (i := 3) (N := some 44) (v := ?_) (a' := ?_) #[true, true, true, true, false, false, false, false, false, false, false, false, false, false] rfl rfl (any_of HT_.out (by kernel_rfl)) (fun _ _ _ h => h) (Or.inl ⟨by rfl, ?_⟩) ?_ ?_
            rotate_left
            ·intro w'
             go_simp
             with_reducible rfl
            rotate_left
            ·simp only [Act.put, List.setIfInBounds_toArray, List.set_cons_zero, List.set_cons_succ, i64_w, i32_w]
             rfl
            refine pure_ (i := 4) (N := some 45) (v := ?_) (a' := ?_) #[true, true, true, true, true, false, false, false, false, false, false, false, false, false] rfl rfl (any_of HT_.out (by kernel_rfl)) (fun _ _ _ h => h) (Or.inl ⟨by rfl, ?_⟩) ?_ ?_
            rotate_left
            ·intro w'
             go_simp
             with_reducible rfl
            rotate_left
            ·simp only [Act.put, List.setIfInBounds_toArray, List.set_cons_zero, List.set_cons_succ, i64_w, i32_w]
             rfl
            refine pure_ (i := 5) (N := some 46) (v := ?_) (a' := ?_) #[true, true, true, true, true, true, false, false, false, false, false, false, false, false] rfl rfl (any_of HT_.out (by kernel_rfl)) (fun _ _ _ h => h) (Or.inl ⟨by rfl, ?_⟩) ?_ ?_
            rotate_left
            ·intro w'
             go_simp
             with_reducible rfl
            rotate_left
            ·simp only [Act.put, List.setIfInBounds_toArray, List.set_cons_zero, List.set_cons_succ, i64_w, i32_w]
             rfl
            refine pure_ (i := 7) (N := some 48) (v := ?_) (a' := ?_) #[true, true, true, true, true, true, false, true, false, false, false, false, false, false] rfl rfl (any_of HT_.out (by kernel_rfl)) (fun _ _ _ h => h) (Or.inl ⟨by rfl, ?_⟩) ?_ ?_
            rotate_left
            ·intro w'
             go_simp
             with_reducible rfl
            rotate_left
            ·simp only [Act.put, List.setIfInBounds_toArray, List.set_cons_zero, List.set_cons_succ, i64_w, i32_w]
             rfl
            refine pure_ (i := 8) (N := some 49) (v := ?_) (a' := ?_) #[true, true, true, true, true, true, false, true, true, false, false, false, false, false] rfl rfl (any_of HT_.out (by kernel_rfl)) (fun _ _ _ h => h) (Or.inl ⟨by rfl, ?_⟩) ?_ ?_
            rotate_left
            ·intro w'
             go_simp
             with_reducible rfl
            rotate_left
            ·simp only [Act.put, List.setIfInBounds_toArray, List.set_cons_zero, List.set_cons_succ, i64_w, i32_w]
             rfl
            refine pure_ (i := 9) (N := some 50) (v := ?_) (a' := ?_) #[true, true, true, true, true, true, false, true, true, true, false, false, false, false] rfl rfl (any_of HT_.out (by kernel_rfl)) (fun _ _ _ h => h) (Or.inl ⟨by rfl, ?_⟩) ?_ ?_
            rotate_left
            ·intro w'
             go_simp
             with_reducible rfl
            rotate_left
            ·simp only [Act.put, List.setIfInBounds_toArray, List.set_cons_zero, List.set_cons_succ, i64_w, i32_w]
             rfl
            refine take_ (i := 6) (N := some 47) (v := ?_) (a' := ?_) #[true, true, true, true, true, true, true, true, true, true, false, false, false, false] rfl rfl (take_ofW HT_.out HW_.out (by kernel_rfl)) (fun _ _ _ h => h) (Or.inl ⟨by rfl, ?_⟩) hHeld ?_ ?_
            rotate_left
            ·intro w' s0
             go_simp
             with_reducible rfl
            rotate_left
            ·simp only [Act.put, List.setIfInBounds_toArray, List.set_cons_zero, List.set_cons_succ, i64_w, i32_w]
             rfl
            refine one_ (i := 10) (N := some 51) #[true, true, true, true, true, true, true, true, true, true, true, false, false, false] rfl rfl (one_of HT_.out (by kernel_rfl)) (by decide) (fun K hK => ?_)
            refine goes_ Try.func44 (by kernel_rfl) rfl #[.pointer (some ⟨g, 0, none⟩), .int .i64 a2, .int .i64 (rd l3 x36_2)] (by rfl) rfl rfl (by ((simp only [List.map_toArray, List.map_cons, List.map_nil])); (rfl)) ?_
            with_reducible refine (field_GF_Mul.calls g x1000_2 x1001_2 s0_2 x1003_2 s0_4 s0_5 a2 (rd l3 x36_2) t482 t483 t484 t485 w0 _ ?side1 ?side2 A23.out).mono ?_
            (case side1 => repeat ((with_reducible (exact HI0.out))))
            (case side2 => repeat ((with_reducible (exact HB.out))))
            rintro e w28 ⟨rfl, hi, hb, hk⟩
            have HS0_ := keep_cell hk (hHeld) (by (rw [add_block]; exact Kd.own_blk (IsS74.own_ne HI0.out HO_9.out (by decide))))
            refine ⟨_, rfl, ?_⟩
            have n0_ := Aside0.mk (Kd.R_mono (Kd.R_keep (IsS74.apart (show IsS74 w0 _ g x1000_2 x1001_2 s0_2 x1003_2 s0_4 s0_5 from by exact HI0.out) HO_9.out (by decide)) hk (fun _ h => h.2)) (fun _ h => h.1))
            have n1_ := Aside0.mk (KeepBut.trans HK.out hk (.inl rfl))
            have n2_ := Aside0.mk (hb)
            have n3_ := Aside0.mk (hi)
            clear HO_9 HK HB HI0
            have HO_9 := n0_
            have HK := n1_
            have HB := n2_
            have HI0 := n3_
            clear n0_ n1_ n2_ n3_
            ((clear hb))
            ((clear hk))
            ((clear hi))
            refine hK.out _ _ (HS0_) (fun hHeld => ?_)
            clear hK K
            refine norm_ (a' := ?_) ?_ ?_
            rotate_left
            ·show Act.put _ (some 51) _ = _
             simp only [Act.put, List.setIfInBounds_toArray, List.set_cons_zero, List.set_cons_succ, i64_w, i32_w]
             rfl
            refine one_ (i := 11) (N := some 52) #[true, true, true, true, true, true, true, true, true, true, true, true, false, false] rfl rfl (one_of HT_.out (by kernel_rfl)) (by decide) (fun K hK => ?_)
            refine goes_ Try.func53 (by kernel_rfl) rfl #[.pointer (some ⟨g, 0, none⟩), .int .i64 (rd x9_2 x36_2), .int .i64 t482] (by rfl) rfl rfl (by ((simp only [List.map_toArray, List.map_cons, List.map_nil])); (rfl)) ?_
            with_reducible refine (field_GF_Add.calls k2 g t483 t484 s0_2 t485 s0_4 s0_5 (rd x9_2 x36_2) t482 t486 t487 t488 t489 w0 _ ?side1 ?side2 A24.out).mono ?_
            (case side1 => repeat ((with_reducible (exact HI0.out))))
            (case side2 => repeat ((with_reducible (exact HB.out))))
            rintro e w29 ⟨rfl, hi, hb, hk⟩
            have HS0_ := keep_cell hk (hHeld) (by (rw [add_block]; exact Kd.own_blk (IsS74.own_ne HI0.out HO_9.out (by decide))))
            refine ⟨_, rfl, ?_⟩
            have n0_ := Aside0.mk (Kd.R_mono (Kd.R_keep (IsS74.apart (show IsS74 w0 _ g t483 t484 s0_2 t485 s0_4 s0_5 from by exact HI0.out) HO_9.out (by decide)) hk (fun _ h => h.2)) (fun _ h => h.1))
            have n1_ := Aside0.mk (KeepBut.trans HK.out hk (.inl rfl))
            have n2_ := Aside0.mk (hb)
            have n3_ := Aside0.mk (hi)
            clear HO_9 HK HB HI0
            have HO_9 := n0_
            have HK := n1_
            have HB := n2_
            have HI0 := n3_
            clear n0_ n1_ n2_ n3_
            ((clear hb))
            ((clear hk))
            ((clear hi))
            have p25 : 0 ≤ (x36_2 : Int) := of_decide_eq_true (by (with_reducible assumption))
            have q25 : (x36_2 : Int) < ((x9_2.length : Int) : Int) := of_decide_eq_true (by (with_reducible assumption))
            obtain ⟨go25, co25, eo25, gb25, gl25, cl25, HG25⟩ := Kd.R_form HO_9.out (by omega)
            ((cases eo25))
            have GB25 := Aside0.mk gb25
            have GG25 := Aside0.mk HG25
            clear gb25 gl25 HG25
            ((simp only [add_plain] at hx481_0))
            obtain ⟨hx25_0, hf25_0⟩ := Kd.R_celln 0 HO_9.out (x36_2 : Int) p25 q25
            replace p25 := eq_true p25
            replace q25 := eq_true q25
            have HN0_go25 := Aside0.mk (show g ≠ go25 from by have h_ := IsS74.own_ne HI0.out HO_9.out (by decide); intro e_; exact h_ (by rw [e_]; rfl))
            have HP30 := Kd.R_putn HO_9.out (x36_2 : Int) t486
            rw [← Ny490.out] at HP30
            have HQ30 := Aside0.mk HP30
            clear HP30
            refine hK.out _ _ (HS0_) (fun hHeld => ?_)
            clear hK K
            refine norm_ (a' := ?_) ?_ ?_
            rotate_left
            ·show Act.put _ (some 52) _ = _
             simp only [Act.put, List.setIfInBounds_toArray, List.set_cons_zero, List.set_cons_succ, i64_w, i32_w]
             rfl
            refine pure_ (i := 12) (N := some 53) (v := ?_) (a' := ?_) #[true, true, true, true, true, true, true, true, true, true, true, true, true, false] rfl rfl (any_of HT_.out (by kernel_rfl)) (fun _ _ _ h => h) (Or.inl ⟨by rfl, ?_⟩) ?_ ?_
            rotate_left
            ·intro w'
             go_simp
             with_reducible rfl
            rotate_left
            ·simp only [Act.put, List.setIfInBounds_toArray, List.set_cons_zero, List.set_cons_succ, i64_w, i32_w]
             rfl
            refine last_ (i := 13) (N := none) #[true, true, true, true, true, true, true, true, true, true, true, true, true, true] rfl rfl (one_of HT_.out (by kernel_rfl)) (by decide) (fun K hK => ?_)
            refine skip_ (w1 := ?_) (by rfl) rfl ?_ ?_
            rotate_left
            ·go_simp
             rfl
            refine hK.out _ _ ?_
            clear hK K
            refine done_ (done_of HT_.out (by kernel_rfl)) ?_
            (go_wp2)
            go_roundg k2
            case measure => have := HK1.out; have := HK2.out; omega
            case rel => exact ⟨(y490), (wrap64 (x36_2 + 1)), (t487), (t488), (t489), (by rfl), H', ⟨by have := HK1.out; have := HK2.out; omega⟩, ⟨HQ30.out⟩, ⟨by repeat ((with_reducible first | (exact HI0.out) | (refine IsS74.far ?_ HN0_go25.out _)))⟩, ⟨by repeat ((with_reducible first | (exact HK.out) | (refine keep_far ?_ GB25.out _)))⟩, ⟨by repeat ((with_reducible first | (exact HB.out) | (refine below_set ?_ (Nat.le_trans HL.out GB25.out))))⟩⟩
           ·rw [if_neg c22] at H
            exact absurd H (by simp)
          ·rw [if_neg c21] at H
           exact absurd H (by simp)
         ·rw [if_neg c20] at H
          exact absurd H (by simp)
        ·rw [if_neg c19] at H
         have c19b0 : decide (x36_2 < (l3.length : Int)) = false := decide_eq_false c19
         clear c19
         obtain ⟨t491, A310, H⟩ := Option.bind_eq_some_iff.mp H
         replace H : (some (t491, x1000_2, x1001_2, x1003_2)) = some (r1, r2, r3, r4) := H
         have A31 := Aside0.mk A310
         clear A310
         simp only [Option.some.injEq, Prod.mk.injEq] at H
         obtain ⟨rfl, rfl, rfl, rfl⟩ := H
         obtain ⟨Ao32, co32, eo32⟩ := Kd.R_slice HO_9.out
         subst eo32
         go_wp2_with (((with_reducible refine gate_callee (f := 46) rfl ?_); refine goesL_ (some 56) rfl rfl Try.func46 (by kernel_rfl) rfl #[.slice Ao32 x9_2.length co32] rfl (by ((simp only [List.map_toArray, List.map_cons, List.map_nil])); (rfl)) ?_; (with_reducible refine (poly_trim.calls k2 (fun k_ => some k_ = (.slice Ao32 x9_2.length co32 : Value).ownBlock) (.slice Ao32 x9_2.length co32) x9_2 t491 w0 _ ?side1 ?side2 A31.out).mono ?_); (case side1 => repeat ((with_reducible (exact HB.out)))); (case side2 => exact Kd.R_lower (Kd.R_tight rfl HO_9.out) HL.out); rintro e w33 ⟨v492, rfl, ho0, hb, hkp⟩; refine ⟨_, rfl, ?_⟩; have n0_ := Aside0.mk (IsS74.kept HI0.out hkp (fun hs_ => (fun e_ => (IsS74.own_ne HI0.out HO_9.out (by decide)) e_) hs_)); have n1_ := Aside0.mk (Kd.R_mono (ok' := fun k_ => True) (Kd.R_raise (d := (Kd.int .i64)) (b := w0.heap.size) (b' := w.heap.size) (fun _ _ _ _ h_ => h_) ho0 (fun k_ e_ => Or.elim (ho0.1 k_ e_) (fun hs_ => (fun e_ => Kd.R_base HO_9.out k_ e_.symm) hs_) (fun hn_ => Nat.le_trans (keep_size (w := w) (g := g) (row := none) HK.out) hn_))) (fun k_ hk_ => trivial)); have n2_ := Aside0.mk (Kept.keepG HK.out hkp (fun k_ hs_ => (fun e_ => .inr (Kd.R_base HO_9.out k_ e_.symm)) hs_)); have n3_ := Aside0.mk (hb); clear HI0; clear HK; clear HB; clear HO_9; have HI0 := n0_; have HO493 := n1_; have HK := n2_; have HB := n3_; clear n0_ n1_ n2_ n3_; ((clear hb)); ((clear hkp)); ((clear ho0))))
         go_ret
         exact ⟨_, by rfl, by exact HO493.out, by exact HI0.out, by exact HB.out, by exact HK.out⟩
  ·rw [if_neg c7] at H
   exact absurd H (by simp)
 ·rw [if_neg c6] at H
  exact absurd H (by simp)
def poly_Add.f (k : Nat) (s0_0 : Int) (s0_1 : Int) (s0_2 : List Int) (s0_3 : Int) (s0_4 : List Int) (s0_5 : List Int) (l1 : List Int) (l2 : List Int) : Option (List Int × Int × Int × Int) := (poly_combine.f k s0_0 s0_1 s0_2 s0_3 s0_4 s0_5 l1 1 l2).bind fun bt494 => (some (bt494.1, bt494.2.1, bt494.2.2.1, bt494.2.2.2))
set_option maxHeartbeats 8000000 in
set_option maxRecDepth 100000 in
theorem poly_Add.calls (k : Nat) (g : Nat) (s0_0 : Int) (s0_1 : Int) (s0_2 : List Int) (s0_3 : Int) (s0_4 : List Int) (s0_5 : List Int) (A1 : Option Addr) (c1 : Nat) (l1 : List Int) (A2 : Option Addr) (c2 : Nat) (l2 : List Int) (r1 : List Int) (r2 : Int) (r3 : Int) (r4 : Int) (w0 w : World) (hI : IsS74 w0 w g s0_0 s0_1 s0_2 s0_3 s0_4 s0_5) (hB : Below w0.heap.size w0 w) (hr1 : Kd.C (Kd.int .i64) w A1 l1.length l1) (hc1 : l1.length ≤ c1) (hf1 : ∀ ad, A1 = some ad → 0 < l1.length → ad.block ≠ g) (hr2 : Kd.C (Kd.int .i64) w A2 l2.length l2) (hc2 : l2.length ≤ c2) (hf2 : ∀ ad, A2 = some ad → 0 < l2.length → ad.block ≠ g) (h : poly_Add.f k s0_0 s0_1 s0_2 s0_3 s0_4 s0_5 l1 l2 = some (r1, r2, r3, r4)) :
  Calls Try.prog 30 #[.pointer (some ⟨g, 0, none⟩), .slice A1 l1.length c1, .slice A2 l2.length c2] w fun e w' => ∃ v0_ : Value, e = .returned (v0_) ∧ Kd.R (Kd.int .i64) 3 w' w.heap.size (fun _ => True) v0_ r1 ∧ IsS74 w0 w' g r2 r3 s0_2 r4 s0_4 s0_5 ∧ Below w0.heap.size w0 w' ∧ KeepBut w w' g none := by
 have HR1 := Aside0.mk hr1
 have HC1 := Aside0.mk hc1
 clear hr1 hc1
 have HR2 := Aside0.mk hr2
 have HC2 := Aside0.mk hc2
 clear hr2 hc2
 have HI0 := Aside0.mk hI
 have HK := Aside0.mk (KeepBut.refl w g none)
 have HL := Aside0.mk hB.size
 clear hI
 have HW0 := Aside0.mk hB.size
 have HB := Aside0.mk hB
 clear hB
 have H : ((poly_combine.f k s0_0 s0_1 s0_2 s0_3 s0_4 s0_5 l1 1 l2).bind fun bt494 => (some (bt494.1, bt494.2.1, bt494.2.2.1, bt494.2.2.2))) = some (r1, r2, r3, r4) := h
 clear h
 replace H := Option.bind_eq_some_iff.mp H
 obtain ⟨⟨t494, t497, t498, t499⟩, A40, H⟩ := H
 replace H : (some (t494, t497, t498, t499)) = some (r1, r2, r3, r4) := H
 have A4 := Aside0.mk A40
 clear A40
 simp only [Option.some.injEq, Prod.mk.injEq] at H
 obtain ⟨rfl, rfl, rfl, rfl⟩ := H
 go_enter Try.func30, Try.ntmps30
 go_wp2_with (((with_reducible refine gate_callee (f := 50) rfl ?_); refine goesL_ (some 10) rfl rfl Try.func50 (by kernel_rfl) rfl #[.pointer (some ⟨g, 0, none⟩), .slice A1 l1.length c1, .int .i64 1, .slice A2 l2.length c2] rfl (by ((simp only [List.map_toArray, List.map_cons, List.map_nil])); (rfl)) ?_; (with_reducible refine (poly_combine.calls k g s0_0 s0_1 s0_2 s0_3 s0_4 s0_5 _ _ l1 1 _ _ l2 t494 t497 t498 t499 w0 _ ?side1 ?side2 ?side3 ?side4 ?side5 ?side6 ?side7 ?side8 A4.out).mono ?_); (case side1 => repeat ((with_reducible (exact HI0.out)))); (case side2 => repeat ((with_reducible (exact HB.out)))); (case side3 => exact Kd.C_keep 0 HR1.out HK.out hf1); (case side4 => exact HC1.out); (case side5 => exact hf1); (case side6 => exact Kd.C_keep 0 HR2.out HK.out hf2); (case side7 => exact HC2.out); (case side8 => exact hf2); rintro e w5 ⟨v495, rfl, ho0, hi, hb, hk⟩; refine ⟨_, rfl, ?_⟩; have n0_ := Aside0.mk (Kd.R_lower ho0 (keep_size (w := w) (g := g) (row := none) HK.out)); have n1_ := Aside0.mk (KeepBut.trans HK.out hk (.inl rfl)); have n2_ := Aside0.mk (hb); have n3_ := Aside0.mk (hi); clear HK; clear HB; clear HI0; have HO496 := n0_; have HK := n1_; have HB := n2_; have HI0 := n3_; clear n0_ n1_ n2_ n3_; ((clear hb)); (skip); ((clear hk)); ((clear hi)); ((clear ho0))))
 go_ret
 exact ⟨_, by rfl, by exact HO496.out, by exact HI0.out, by exact HB.out, by exact HK.out⟩
def poly_Sub.f (k : Nat) (s0_0 : Int) (s0_1 : Int) (s0_2 : List Int) (s0_3 : Int) (s0_4 : List Int) (s0_5 : List Int) (l1 : List Int) (l2 : List Int) : Option (List Int × Int × Int × Int) := (field_GF_Neg.f k s0_0 s0_1 s0_2 s0_3 s0_4 s0_5 1).bind fun bt500 => ((poly_combine.f k bt500.2.1 bt500.2.2.1 s0_2 bt500.2.2.2 s0_4 s0_5 l1 bt500.1 l2).bind fun bt504 => (some (bt504.1, bt504.2.1, bt504.2.2.1, bt504.2.2.2)))
set_option maxHeartbeats 8000000 in
set_option maxRecDepth 100000 in
theorem poly_Sub.calls (k : Nat) (g : Nat) (s0_0 : Int) (s0_1 : Int) (s0_2 : List Int) (s0_3 : Int) (s0_4 : List Int) (s0_5 : List Int) (A1 : Option Addr) (c1 : Nat) (l1 : List Int) (A2 : Option Addr) (c2 : Nat) (l2 : List Int) (r1 : List Int) (r2 : Int) (r3 : Int) (r4 : Int) (w0 w : World) (hI : IsS74 w0 w g s0_0 s0_1 s0_2 s0_3 s0_4 s0_5) (hB : Below w0.heap.size w0 w) (hr1 : Kd.C (Kd.int .i64) w A1 l1.length l1) (hc1 : l1.length ≤ c1) (hf1 : ∀ ad, A1 = some ad → 0 < l1.length → ad.block ≠ g) (hr2 : Kd.C (Kd.int .i64) w A2 l2.length l2) (hc2 : l2.length ≤ c2) (hf2 : ∀ ad, A2 = some ad → 0 < l2.length → ad.block ≠ g) (h : poly_Sub.f k s0_0 s0_1 s0_2 s0_3 s0_4 s0_5 l1 l2 = some (r1, r2, r3, r4)) :
  Calls Try.prog 31 #[.pointer (some ⟨g, 0, none⟩), .slice A1 l1.length c1, .slice A2 l2.length c2] w fun e w' => ∃ v0_ : Value, e = .returned (v0_) ∧ Kd.R (Kd.int .i64) 3 w' w.heap.size (fun _ => True) v0_ r1 ∧ IsS74 w0 w' g r2 r3 s0_2 r4 s0_4 s0_5 ∧ Below w0.heap.size w0 w' ∧ KeepBut w w' g none := by
 have HR1 := Aside0.mk hr1
 have HC1 := Aside0.mk hc1
 clear hr1 hc1
 have HR2 := Aside0.mk hr2
 have HC2 := Aside0.mk hc2
 clear hr2 hc2
 have HI0 := Aside0.mk hI
 have HK := Aside0.mk (KeepBut.refl w g none)
 have HL := Aside0.mk hB.size
 clear hI
 have HW0 := Aside0.mk hB.size
 have HB := Aside0.mk hB
 clear hB
 have H : ((field_GF_Neg.f k s0_0 s0_1 s0_2 s0_3 s0_4 s0_5 1).bind fun bt500 => ((poly_combine.f k bt500.2.1 bt500.2.2.1 s0_2 bt500.2.2.2 s0_4 s0_5 l1 bt500.1 l2).bind fun bt504 => (some (bt504.1, bt504.2.1, bt504.2.2.1, bt504.2.2.2)))) = some (r1, r2, r3, r4) := h
 clear h
 replace H := Option.bind_eq_some_iff.mp H
 obtain ⟨⟨t500, t501, t502, t503⟩, A40, H⟩ := H
 replace H : ((poly_combine.f k t501 t502 s0_2 t503 s0_4 s0_5 l1 t500 l2).bind fun bt504 => (some (bt504.1, bt504.2.1, bt504.2.2.1, bt504.2.2.2))) = some (r1, r2, r3, r4) := H
 have A4 := Aside0.mk A40
 clear A40
 replace H := Option.bind_eq_some_iff.mp H
 obtain ⟨⟨t504, t507, t508, t509⟩, A50, H⟩ := H
 replace H : (some (t504, t507, t508, t509)) = some (r1, r2, r3, r4) := H
 have A5 := Aside0.mk A50
 clear A50
 simp only [Option.some.injEq, Prod.mk.injEq] at H
 obtain ⟨rfl, rfl, rfl, rfl⟩ := H
 go_enter Try.func31, Try.ntmps31
 go_wp2_with (first | ((with_reducible refine gate_callee (f := 51) rfl ?_); refine goesL_ (some 10) rfl rfl Try.func51 (by kernel_rfl) rfl #[.pointer (some ⟨g, 0, none⟩), .int .i64 1] rfl (by ((simp only [List.map_toArray, List.map_cons, List.map_nil])); (rfl)) ?_; (with_reducible refine (field_GF_Neg.calls k g s0_0 s0_1 s0_2 s0_3 s0_4 s0_5 1 t500 t501 t502 t503 w0 _ ?side1 ?side2 A4.out).mono ?_); (case side1 => repeat ((with_reducible (exact HI0.out)))); (case side2 => repeat ((with_reducible (exact HB.out)))); rintro e w6 ⟨rfl, hi, hb, hk⟩; refine ⟨_, rfl, ?_⟩; have n0_ := Aside0.mk (KeepBut.trans HK.out hk (.inl rfl)); have n1_ := Aside0.mk (hb); have n2_ := Aside0.mk (hi); clear HK; clear HB; clear HI0; have HK := n0_; have HB := n1_; have HI0 := n2_; clear n0_ n1_ n2_; ((clear hb)); (skip); ((clear hk)); ((clear hi))) | ((with_reducible refine gate_callee (f := 50) rfl ?_); refine goesL_ (some 12) rfl rfl Try.func50 (by kernel_rfl) rfl #[.pointer (some ⟨g, 0, none⟩), .slice A1 l1.length c1, .int .i64 t500, .slice A2 l2.length c2] rfl (by ((simp only [List.map_toArray, List.map_cons, List.map_nil])); (rfl)) ?_; (with_reducible refine (poly_combine.calls k g t501 t502 s0_2 t503 s0_4 s0_5 _ _ l1 t500 _ _ l2 t504 t507 t508 t509 w0 _ ?side1 ?side2 ?side3 ?side4 ?side5 ?side6 ?side7 ?side8 A5.out).mono ?_); (case side1 => repeat ((with_reducible (exact HI0.out)))); (case side2 => repeat ((with_reducible (exact HB.out)))); (case side3 => exact Kd.C_keep 0 HR1.out HK.out hf1); (case side4 => exact HC1.out); (case side5 => exact hf1); (case side6 => exact Kd.C_keep 0 HR2.out HK.out hf2); (case side7 => exact HC2.out); (case side8 => exact hf2); rintro e w7 ⟨v505, rfl, ho0, hi, hb, hk⟩; refine ⟨_, rfl, ?_⟩; have n0_ := Aside0.mk (Kd.R_lower ho0 (keep_size (w := w) (g := g) (row := none) HK.out)); have n1_ := Aside0.mk (KeepBut.trans HK.out hk (.inl rfl)); have n2_ := Aside0.mk (hb); have n3_ := Aside0.mk (hi); clear HK; clear HB; clear HI0; have HO506 := n0_; have HK := n1_; have HB := n2_; have HI0 := n3_; clear n0_ n1_ n2_ n3_; ((clear hb)); (skip); ((clear hk)); ((clear hi)); ((clear ho0))))
 go_ret
 exact ⟨_, by rfl, by exact HO506.out, by exact HI0.out, by exact HB.out, by exact HK.out⟩
def codewrightref04_Neg.l0 : Nat → List Int → Int → Int → Int → List Int → Option (Int)
 | 0, _, _, _, _, _ => none
 | k + 1, x5, x6, x511000, x511001, x511002 => if x6 < (x5.length : Int) then (if 0 ≤ x6 then (if x511000 = 0 then (none) else (codewrightref04_Neg.l0 k (x5.set (x6 : Int).toNat (Int.tmod (wrap64 (x511000 - (rd x5 x6))) x511000)) (wrap64 (x6 + 1)) x511000 x511001 x511002)) else (none)) else ((codewrightref04_Value.f k x511000 x511001 x511002 x5).bind fun t516 => (some t516))
def codewrightref04_Neg.f (k : Nat) (a0_0 : Int) (a0_1 : Int) (l0_2 : List Int) (a1 : Int) : Option (Int) := (codewrightref04_Digits.f k a0_0 a0_1 l0_2 a1).bind fun t511 => (codewrightref04_Neg.l0 k t511 0 a0_0 a0_1 l0_2)
def codewrightref04_Neg.T5 : Bool × List (List Nat × List Nat) := (true, [([], []), ([], []), ([], []), ([2], [2]), ([], []), ([], []), ([4, 5], [4, 5]), ([6], [6]), ([3, 7], [3, 7]), ([], []), ([9], [9]), ([8, 10], [8, 10]), ([0, 1, 0, 1, 2, 3, 4, 5, 6, 7, 8, 9, 10, 11], [0, 1]), ([12, 11, 0, 1, 2, 3, 4, 5, 6, 7, 8, 9, 10, 11], [11, 12])])
def codewrightref04_Neg.B5 : List Nat := [0, 0, 0, 4, 0, 0, 48, 112, 252, 0, 512, 2044, 4095, 8191]
theorem codewrightref04_Neg.tab5 : rtab .any (opsOf Try.f52 5) = codewrightref04_Neg.T5 := by kernel_rfl
theorem codewrightref04_Neg.bits5 : waitsOk codewrightref04_Neg.T5.2 codewrightref04_Neg.B5 = true := by kernel_rfl
set_option maxHeartbeats 8000000 in
set_option maxRecDepth 100000 in
theorem codewrightref04_Neg.calls (k : Nat) (a0_0 : Int) (a0_1 : Int) (A0_2 : Option Addr) (c0_2 : Nat) (l0_2 : List Int) (a1 : Int) (r : Int) (w : World) (hr0_2 : Kd.C (Kd.int .i64) w A0_2 l0_2.length l0_2) (hc0_2 : l0_2.length ≤ c0_2) (h : codewrightref04_Neg.f k a0_0 a0_1 l0_2 a1 = some r) :
  Calls Try.prog 52 #[.agg #[.int .i64 a0_0, .int .i64 a0_1, .slice A0_2 l0_2.length c0_2], .int .i64 a1] w fun e w' => e = .returned (.int .i64 r) ∧ Below w.heap.size w w' := by
 have hu24 := Try.underlying24
 have HR0_2 := Aside0.mk hr0_2
 have HC0_2 := Aside0.mk hc0_2
 clear hr0_2 hc0_2
 have HB := Aside0.mk (Below.refl w.heap.size w)
 have H : ((codewrightref04_Digits.f k a0_0 a0_1 l0_2 a1).bind fun t511 => (codewrightref04_Neg.l0 k t511 0 a0_0 a0_1 l0_2)) = some r := h
 clear h
 obtain ⟨t511, A30, H⟩ := Option.bind_eq_some_iff.mp H
 replace H : (codewrightref04_Neg.l0 k t511 0 a0_0 a0_1 l0_2) = some r := H
 have A3 := Aside0.mk A30
 clear A30
 have H' := Aside0.mk H
 clear H
 go_enter Try.func52, Try.ntmps52
 go_wp2_with (first | ((with_reducible refine gate_dst (N := 2) rfl ?_); refine box_event ?hg (N := 2) ?hd (cs := #[.int .i64 a0_0, .int .i64 a0_1, .slice A0_2 l0_2.length c0_2]) (t := 24) ?hr ?_; (case hd => rfl); (case hg => rfl); (case hr => (go_simp; done)); intro gb510 hg w4 hbox hb; have n0_ := Aside0.mk (below_step HB.out hb); have n1_ := Aside0.mk (hbox); have n2_ := Aside0.mk ((by rw [hg]; exact (below_size HB.out) : w.heap.size ≤ gb510)); have n3_ := Aside0.mk ((by rw [hg]; exact (below_size HB.out) : w.heap.size ≤ gb510)); clear HB; have HB := n0_; have BK510 := n1_; have GW510 := n2_; have GE510 := n3_; clear n0_ n1_ n2_ n3_; clear hb hbox hg; have hcz5_0 : w4.cell? ⟨gb510, 0, none⟩ = some (.int .i64 a0_0) := (blk_cell BK510.out 0).trans rfl; have hcz5_1 : w4.cell? ⟨gb510, 1, none⟩ = some (.int .i64 a0_1) := (blk_cell BK510.out 1).trans rfl; have hcz5_2 : w4.cell? ⟨gb510, 2, none⟩ = some (.slice A0_2 l0_2.length c0_2) := (blk_cell BK510.out 2).trans rfl; have hfz5_0 := blk_frozen BK510.out 0; have hfz5_1 := blk_frozen BK510.out 1; have hfz5_2 := blk_frozen BK510.out 2) | ((with_reducible refine gate_callee (f := 55) rfl ?_); refine goesL_ (some 9) rfl rfl Try.func55 (by kernel_rfl) rfl #[.agg #[.int .i64 a0_0, .int .i64 a0_1, .slice A0_2 l0_2.length c0_2], .int .i64 a1] rfl (by ((simp only [List.map_toArray, List.map_cons, List.map_nil])); (rfl)) ?_; (with_reducible refine (codewrightref04_Digits.calls k a0_0 a0_1 _ _ l0_2 a1 t511 _ ?side1 ?side2 A3.out).mono ?_); (case side1 => repeat ((exact (Kd.C_below HR0_2.out HB.out)))); (case side2 => exact HC0_2.out); rintro e w6 ⟨v512, rfl, ho0, hb⟩; refine ⟨_, rfl, ?_⟩; have n0_ := Aside0.mk (Kd.R_lower ho0 (below_size HB.out)); have n1_ := Aside0.mk (blk_below (g := gb510) (o := .cells #[.int .i64 a0_0, .int .i64 a0_1, .slice A0_2 l0_2.length c0_2] 24 (0, 0)) BK510.out hb); have n2_ := Aside0.mk (below_step HB.out hb); clear BK510; clear HB; have HO513 := n0_; have BK510 := n1_; have HB := n2_; clear n0_ n1_ n2_; ((clear hb)); (skip); (skip); (skip); ((clear ho0))))
 go_loopg [6] k (fun kq v6 w' => ∃ (x5_1 : List Int) (x6_1 : Int), v6 = .int .i64 x6_1 ∧ Aside0 (codewrightref04_Neg.l0 kq x5_1 x6_1 a0_0 a0_1 l0_2 = some r) ∧ Aside0 (kq ≤ k) ∧ Aside0 (Kd.R (Kd.int .i64) 3 w' w.heap.size (fun _ => True) v512 x5_1) ∧ Aside0 (w'.heap[gb510]? = some (.cells #[.int .i64 a0_0, .int .i64 a0_1, (.slice A0_2 l0_2.length c0_2)] 24 (0, 0))) ∧ Aside0 (Below w.heap.size w w'))
 case atStart => exact ⟨(t511), (0), (by rfl), H', ⟨Nat.le_refl _⟩, ⟨HO513.out⟩, ⟨BK510.out⟩, ⟨by exact HB.out⟩⟩
 case round =>
  clear H' hcz5_0 hcz5_1 hcz5_2 hfz5_0 hfz5_1 hfz5_2
  obtain ⟨x5_1, x6_1, rfl, HA, HK1, HO_5, BK510, HB⟩ := hrel
  cases gk with
  | zero => exact absurd HA.out (by simp [codewrightref04_Neg.l0])
  | succ k1 =>
   have H := HA.out
   clear HA
   simp only [codewrightref04_Neg.l0] at H
   by_cases c7 : x6_1 < (x5_1.length : Int)
   ·rw [if_pos c7] at H
    have c7b0 : decide (x6_1 < (x5_1.length : Int)) = true := decide_eq_true c7
    clear c7
    by_cases c8 : 0 ≤ x6_1
    ·rw [if_pos c8] at H
     have c8b0 : decide (0 ≤ x6_1) = true := decide_eq_true c8
     clear c8
     by_cases c9 : a0_0 = 0
     ·rw [if_pos c9] at H
      exact absurd H (by simp)
     ·rw [if_neg c9] at H
      have c9b0 : (a0_0 == 0) = false := beq_eq_false_iff_ne.mpr c9
      have c9b1 : (a0_0 != 0) = true := bne_iff_ne.mpr c9
      obtain ⟨y515, hy515⟩ : ∃ y_ : List Int, y_ = (x5_1.set (x6_1 : Int).toNat (Int.tmod (wrap64 (a0_0 - (rd x5_1 x6_1))) a0_0)) := ⟨_, rfl⟩
      replace H : (codewrightref04_Neg.l0 k1 y515 (wrap64 (x6_1 + 1)) a0_0 a0_1 l0_2) = some r := by (rw [hy515]; with_reducible exact H)
      have Ny515 := Aside0.mk hy515
      clear hy515
      have H' := Aside0.mk H
      clear H
      obtain ⟨Ao11, co11, eo11⟩ := Kd.R_slice HO_5.out
      subst eo11
      (go_wp2)
      have n0_ := Aside0.mk (Kd.R_drew HO_5.out)
      have n1_ := Aside0.mk (blk_drew BK510.out)
      have n2_ := Aside0.mk (below_drew1 HB.out)
      clear HO_5 BK510 HB
      have HO_5 := n0_
      have BK510 := n1_
      have HB := n2_
      clear n0_ n1_ n2_
      have p514 : 0 ≤ (x6_1 : Int) := of_decide_eq_true (by (with_reducible assumption))
      have q514 : x6_1 < (x5_1.length : Int) := of_decide_eq_true (by (with_reducible assumption))
      obtain ⟨ad514, e514, hx514_0⟩ := Kd.at_int (Kd.R_reads' HO_5.out).2.2 x6_1 p514 q514
      cases e514
      replace p514 := eq_true p514
      replace q514 := eq_true q514
      have p10 : 0 ≤ (x6_1 : Int) := of_decide_eq_true (by (with_reducible assumption))
      have q10 : (x6_1 : Int) < ((x5_1.length : Int) : Int) := of_decide_eq_true (by (with_reducible assumption))
      obtain ⟨go10, co10, eo10, gb10, gl10, cl10, HG10⟩ := Kd.R_form HO_5.out (by omega)
      ((cases eo10))
      have GB10 := Aside0.mk gb10
      have GG10 := Aside0.mk HG10
      clear gb10 gl10 HG10
      ((simp only [add_plain] at hx514_0))
      obtain ⟨hx10_0, hf10_0⟩ := Kd.R_celln 0 HO_5.out (x6_1 : Int) p10 q10
      replace p10 := eq_true p10
      replace q10 := eq_true q10
      have HP13 := Kd.R_putn HO_5.out (x6_1 : Int) (Int.tmod (wrap64 (a0_0 - (rd x5_1 x6_1))) a0_0)
      rw [← Ny515.out] at HP13
      have HQ13 := Aside0.mk HP13
      clear HP13
      refine start_ (n := 14) (S := fun w' => w'.cell? ⟨gb510, 0, none⟩ = some (.int .i64 a0_0) ∧ w'.cell? ⟨gb510, 1, none⟩ = some (.int .i64 a0_1) ∧ w'.cell? ⟨gb510, 2, none⟩ = some (.slice A0_2 l0_2.length c0_2) ∧ w'.cell? ⟨go10, (x6_1).toNat, none⟩ = some (.int .i64 (rd x5_1 x6_1))) (ds := [13]) #[false, false, false, false, false, false, false, false, false, false, false, false, false, false] (by kernel_rfl) rfl rfl ⟨(blk_cell BK510.out 0).trans rfl, (blk_cell BK510.out 1).trans rfl, (blk_cell BK510.out 2).trans rfl, hx514_0⟩ (fun hHeld => ?_); refine with_tabW codewrightref04_Neg.tab5 codewrightref04_Neg.bits5 (fun HT_ HW_ => ?_)
      generalize wr.drew = w12 at HO_5 BK510 HB GG10 HQ13 hf10_0 hx10_0 hx514_0 hHeld ⊢
      refine pure_ (i := 0) (N := some 16) (v := ?_) (a' := ?_) #[true, false, false, false, false, false, false, false, false, false, false, false, false, false] rfl rfl (any_of HT_.out (by kernel_rfl)) (fun _ _ _ h => h) (Or.inl ⟨by rfl, ?_⟩) ?_ ?_
      rotate_left
      ·intro w'
       go_simp
       with_reducible rfl
      rotate_left
      ·simp only [Act.put, List.setIfInBounds_toArray, List.set_cons_zero, List.set_cons_succ, i64_w, i32_w]
       rfl
      refine pure_ (i := 1) (N := some 17) (v := ?_) (a' := ?_) #[true, true, false, false, false, false, false, false, false, false, false, false, false, false] rfl rfl (any_of HT_.out (by kernel_rfl)) (fun _ _ _ h => h) (Or.inl ⟨by rfl, ?_⟩) ?_ ?_
      rotate_left
      ·intro w'
       go_simp
       with_reducible rfl
      rotate_left
      ·simp only [Act.put, List.setIfInBounds_toArray, List.set_cons_zero, List.set_cons_succ, i64_w, i32_w]
       rfl
      refine pure_ (i := 2) (N := some 18) (v := ?_) (a' := ?_) #[true, true, true, false, false, false, false, false, false, false, false, false, false, false] rfl rfl (any_of HT_.out (by kernel_rfl)) (fun _ _ _ h => h) (Or.inl ⟨by rfl, ?_⟩) ?_ ?_
      rotate_left
      ·intro w'
       go_simp
       with_reducible rfl
      rotate_left
      ·simp only [Act.put, List.setIfInBounds_toArray, List.set_cons_zero, List.set_cons_succ, i64_w, i32_w]
       rfl
      refine pure_ (i := 4) (N := some 20) (v := ?_) (a' := ?_) #[true, true, true, false, true, false, false, false, false, false, false, false, false, false] rfl rfl (any_of HT_.out (by kernel_rfl)) (fun _ _ _ h => h) (Or.inl ⟨by rfl, ?_⟩) ?_ ?_
      rotate_left
      ·intro w'
       go_simp
       with_reducible rfl
      rotate_left
      ·simp only [Act.put, List.setIfInBounds_toArray, List.set_cons_zero, List.set_cons_succ, i64_w, i32_w]
       rfl
      refine pure_ (i := 5) (N := some 21) (v := ?_) (a' := ?_) #[true, true, true, false, true, true, false, false, false, false, false, false, false, false] rfl rfl (any_of HT_.out (by kernel_rfl)) (fun _ _ _ h => h) (Or.inl ⟨by rfl, ?_⟩) ?_ ?_
      rotate_left
      ·intro w'
       go_simp
       with_reducible rfl
      rotate_left
      ·simp only [Act.put, List.setIfInBounds_toArray, List.set_cons_zero, List.set_cons_succ, i64_w, i32_w]
       rfl
      refine pure_ (i := 6) (N := some 22) (v := ?_) (a' := ?_) #[true, true, true, false, true, true, true, false, false, false, false, false, false, false] rfl rfl (any_of HT_.out (by kernel_rfl)) (fun _ _ _ h => h) (Or.inl ⟨by rfl, ?_⟩) ?_ ?_
      rotate_left
      ·intro w'
       go_simp
       with_reducible rfl
      rotate_left
      ·simp only [Act.put, List.setIfInBounds_toArray, List.set_cons_zero, List.set_cons_succ, i64_w, i32_w]
       rfl
      refine pure_ (i := 9) (N := some 25) (v := ?_) (a' := ?_) #[true, true, true, false, true, true, true, false, false, true, false, false, false, false] rfl rfl (any_of HT_.out (by kernel_rfl)) (fun _ _ _ h => h) (Or.inl ⟨by rfl, ?_⟩) ?_ ?_
      rotate_left
      ·intro w'
       go_simp
       with_reducible rfl
      rotate_left
      ·simp only [Act.put, List.setIfInBounds_toArray, List.set_cons_zero, List.set_cons_succ, i64_w, i32_w]
       rfl
      refine take_ (i := 3) (N := some 19) (v := ?_) (a' := ?_) #[true, true, true, true, true, true, true, false, false, true, false, false, false, false] rfl rfl (take_ofW HT_.out HW_.out (by kernel_rfl)) (fun _ _ _ h => h) (Or.inl ⟨by rfl, ?_⟩) hHeld ?_ ?_
      rotate_left
      ·rintro w' ⟨s0, s1, s2, s3⟩
       go_simp
       with_reducible rfl
      rotate_left
      ·simp only [Act.put, List.setIfInBounds_toArray, List.set_cons_zero, List.set_cons_succ, i64_w, i32_w]
       rfl
      refine take_ (i := 7) (N := some 23) (v := ?_) (a' := ?_) #[true, true, true, true, true, true, true, true, false, true, false, false, false, false] rfl rfl (take_ofW HT_.out HW_.out (by kernel_rfl)) (fun _ _ _ h => h) (Or.inl ⟨by rfl, ?_⟩) hHeld ?_ ?_
      rotate_left
      ·rintro w' ⟨s0, s1, s2, s3⟩
       go_simp
       with_reducible rfl
      rotate_left
      ·simp only [Act.put, List.setIfInBounds_toArray, List.set_cons_zero, List.set_cons_succ, i64_w, i32_w]
       rfl
      refine pure_ (i := 8) (N := some 24) (v := ?_) (a' := ?_) #[true, true, true, true, true, true, true, true, true, true, false, false, false, false] rfl rfl (any_of HT_.out (by kernel_rfl)) (fun _ _ _ h => h) (Or.inl ⟨by rfl, ?_⟩) ?_ ?_
      rotate_left
      ·intro w'
       go_simp
       with_reducible rfl
      rotate_left
      ·simp only [Act.put, List.setIfInBounds_toArray, List.set_cons_zero, List.set_cons_succ, i64_w, i32_w]
       rfl
      refine take_ (i := 10) (N := some 26) (v := ?_) (a' := ?_) #[true, true, true, true, true, true, true, true, true, true, true, false, false, false] rfl rfl (take_ofW HT_.out HW_.out (by kernel_rfl)) (fun _ _ _ h => h) (Or.inl ⟨by rfl, ?_⟩) hHeld ?_ ?_
      rotate_left
      ·rintro w' ⟨s0, s1, s2, s3⟩
       go_simp
       with_reducible rfl
      rotate_left
      ·simp only [Act.put, List.setIfInBounds_toArray, List.set_cons_zero, List.set_cons_succ, i64_w, i32_w]
       rfl
      refine pure_ (i := 11) (N := some 27) (v := ?_) (a' := ?_) #[true, true, true, true, true, true, true, true, true, true, true, true, false, false] rfl rfl (any_of HT_.out (by kernel_rfl)) (fun _ _ _ h => h) (Or.inl ⟨by rfl, ?_⟩) ?_ ?_
      rotate_left
      ·intro w'
       go_simp
       with_reducible rfl
      rotate_left
      ·simp only [Act.put, List.setIfInBounds_toArray, List.set_cons_zero, List.set_cons_succ, i64_w, i32_w]
       rfl
      refine pure_ (i := 12) (N := some 28) (v := ?_) (a' := ?_) #[true, true, true, true, true, true, true, true, true, true, true, true, true, false] rfl rfl (any_of HT_.out (by kernel_rfl)) (fun _ _ _ h => h) (Or.inl ⟨by rfl, ?_⟩) ?_ ?_
      rotate_left
      ·intro w'
       go_simp
       with_reducible rfl
      rotate_left
      ·simp only [Act.put, List.setIfInBounds_toArray, List.set_cons_zero, List.set_cons_succ, i64_w, i32_w]
       rfl
      refine last_ (i := 13) (N := none) #[true, true, true, true, true, true, true, true, true, true, true, true, true, true] rfl rfl (one_of HT_.out (by kernel_rfl)) (by decide) (fun K hK => ?_)
      refine skip_ (w1 := ?_) (by rfl) rfl ?_ ?_
      rotate_left
      ·go_simp
       rfl
      refine hK.out _ _ ?_
      clear hK K
      refine done_ (done_of HT_.out (by kernel_rfl)) ?_
      (go_wp2)
      go_roundg k1
      case measure => have := HK1.out; omega
      case rel => exact ⟨(y515), (wrap64 (x6_1 + 1)), (by rfl), H', ⟨by have := HK1.out; omega⟩, ⟨HQ13.out⟩, ⟨by (with_reducible repeat (fail)); refine blk_far ?_ (by have h_ := Kd.R_ne HO_5.out BK510.out (by decide); intro e_; exact h_ (by rw [e_]; rfl)) _; (with_reducible repeat (fail)); exact BK510.out⟩, ⟨by repeat ((with_reducible first | (exact HB.out) | (refine below_set ?_ GB10.out)))⟩⟩
    ·rw [if_neg c8] at H
     exact absurd H (by simp)
   ·rw [if_neg c7] at H
    have c7b0 : decide (x6_1 < (x5_1.length : Int)) = false := decide_eq_false c7
    clear c7
    obtain ⟨t516, A140, H⟩ := Option.bind_eq_some_iff.mp H
    replace H : (some t516) = some r := H
    have A14 := Aside0.mk A140
    clear A140
    obtain rfl := Option.some.inj H
    obtain ⟨Ao15, co15, eo15⟩ := Kd.R_slice HO_5.out
    subst eo15
    have hcz16_0 : wr.cell? ⟨gb510, 0, none⟩ = some (.int .i64 a0_0) := (blk_cell BK510.out 0).trans rfl
    have hcz16_1 : wr.cell? ⟨gb510, 1, none⟩ = some (.int .i64 a0_1) := (blk_cell BK510.out 1).trans rfl
    have hcz16_2 : wr.cell? ⟨gb510, 2, none⟩ = some (.slice A0_2 l0_2.length c0_2) := (blk_cell BK510.out 2).trans rfl
    have hfz16_0 := blk_frozen BK510.out 0
    have hfz16_1 := blk_frozen BK510.out 1
    have hfz16_2 := blk_frozen BK510.out 2
    go_wp2_with (((with_reducible refine gate_callee (f := 56) rfl ?_); refine goesL_ (some 31) rfl rfl Try.func56 (by kernel_rfl) rfl #[.agg #[.int .i64 a0_0, .int .i64 a0_1, .slice A0_2 l0_2.length c0_2], .slice Ao15 x5_1.length co15] rfl (by ((simp only [List.map_toArray, List.map_cons, List.map_nil])); (rfl)) ?_; (with_reducible refine (codewrightref04_Value.calls k1 a0_0 a0_1 _ _ l0_2 _ _ x5_1 t516 _ ?side1 ?side2 ?side3 ?side4 A14.out).mono ?_); (case side1 => repeat ((exact (Kd.C_below HR0_2.out HB.out)))); (case side2 => exact HC0_2.out); (case side3 => repeat ((exact (Kd.R_reads' HO_5.out).2.2))); (case side4 => exact (Kd.R_reads' HO_5.out).2.1); rintro e w17 ⟨rfl, hb⟩; refine ⟨_, rfl, ?_⟩; have n0_ := Aside0.mk (Kd.R_below HO_5.out hb); have n1_ := Aside0.mk (blk_below (g := gb510) (o := .cells #[.int .i64 a0_0, .int .i64 a0_1, .slice A0_2 l0_2.length c0_2] 24 (0, 0)) BK510.out hb); have n2_ := Aside0.mk (below_step HB.out hb); clear HO_5; clear BK510; clear HB; have HO_5 := n0_; have BK510 := n1_; have HB := n2_; clear n0_ n1_ n2_; ((clear hb)); (skip); (skip); (skip)))
    go_ret
    exact ⟨by rfl, by exact HB.out⟩
end Go.Proofs.Ytccmpmkmgehkiaa.PA
end
section
namespace Go.Proofs.Ytccmpmkmgehkiaa.PA
open Go.RowKit Go.Proofs.YtccmpmkmgehkiaaW.PrintWords Go.Proofs.YtccmpmkmgehkiaaW.PrintLast Go.Proofs.YtccmpmkmgehkiaaW.PrintMore
attribute [local go_sem] max2_int min2_int max_two min_two max_three min_three max_four min_four
set_option linter.unusedVariables false
set_option linter.unusedSimpArgs false
def codewrightref05_Sub.f (k : Nat) (a0_0 : Int) (a0_1 : Int) (l0_2 : List Int) (l1 : List Int) (l2 : List Int) : Option (List Int) := (codewrightref04_Neg.f k a0_0 a0_1 l0_2 1).bind fun t518 => ((codewrightref05_Scale.f k a0_0 a0_1 l0_2 t518 l2).bind fun t519 => ((codewrightref05_Add.f k a0_0 a0_1 l0_2 l1 t519).bind fun t522 => (some t522)))
def codewrightref05_Sub.T1 : Bool × List (List Nat × List Nat) := (true, [([], []), ([], []), ([], []), ([], []), ([3], [3]), ([], []), ([2, 4, 5, 4], [2, 4, 5]), ([0, 1, 6, 6], [0, 1, 6]), ([7, 7, 0, 1, 2, 3, 4, 5, 6, 7], [7])])
def codewrightref05_Sub.B1 : List Nat := [0, 0, 0, 0, 8, 0, 60, 127, 255]
theorem codewrightref05_Sub.tab1 : rtab .any (opsOf Try.f32 1) = codewrightref05_Sub.T1 := by kernel_rfl
theorem codewrightref05_Sub.bits1 : waitsOk codewrightref05_Sub.T1.2 codewrightref05_Sub.B1 = true := by kernel_rfl
set_option maxHeartbeats 8000000 in
set_option maxRecDepth 100000 in
theorem codewrightref05_Sub.calls (k : Nat) (a0_0 : Int) (a0_1 : Int) (A0_2 : Option Addr) (c0_2 : Nat) (l0_2 : List Int) (A1 : Option Addr) (c1 : Nat) (l1 : List Int) (A2 : Option Addr) (c2 : Nat) (l2 : List Int) (r : List Int) (w : World) (hr0_2 : Kd.C (Kd.int .i64) w A0_2 l0_2.length l0_2) (hc0_2 : l0_2.length ≤ c0_2) (hr1 : Kd.C (Kd.int .i64) w A1 l1.length l1) (hc1 : l1.length ≤ c1) (hr2 : Kd.C (Kd.int .i64) w A2 l2.length l2) (hc2 : l2.length ≤ c2) (h : codewrightref05_Sub.f k a0_0 a0_1 l0_2 l1 l2 = some r) :
  Calls Try.prog 32 #[.agg #[.int .i64 a0_0, .int .i64 a0_1, .slice A0_2 l0_2.length c0_2], .slice A1 l1.length c1, .slice A2 l2.length c2] w fun e w' => ∃ v0_ : Value, e = .returned (v0_) ∧ Kd.R (Kd.int .i64) 3 w' w.heap.size (fun _ => True) v0_ r ∧ Below w.heap.size w w' := by
 have hu24 := Try.underlying24
 have HR0_2 := Aside0.mk hr0_2
 have HC0_2 := Aside0.mk hc0_2
 clear hr0_2 hc0_2
 have HR1 := Aside0.mk hr1
 have HC1 := Aside0.mk hc1
 clear hr1 hc1
 have HR2 := Aside0.mk hr2
 have HC2 := Aside0.mk hc2
 clear hr2 hc2
 have HB := Aside0.mk (Below.refl w.heap.size w)
 have H : ((codewrightref04_Neg.f k a0_0 a0_1 l0_2 1).bind fun t518 => ((codewrightref05_Scale.f k a0_0 a0_1 l0_2 t518 l2).bind fun t519 => ((codewrightref05_Add.f k a0_0 a0_1 l0_2 l1 t519).bind fun t522 => (some t522)))) = some r := h
 clear h
 obtain ⟨t518, A40, H⟩ := Option.bind_eq_some_iff.mp H
 replace H : ((codewrightref05_Scale.f k a0_0 a0_1 l0_2 t518 l2).bind fun t519 => ((codewrightref05_Add.f k a0_0 a0_1 l0_2 l1 t519).bind fun t522 => (some t522))) = some r := H
 have A4 := Aside0.mk A40
 clear A40
 obtain ⟨t519, A50, H⟩ := Option.bind_eq_some_iff.mp H
 replace H : ((codewrightref05_Add.f k a0_0 a0_1 l0_2 l1 t519).bind fun t522 => (some t522)) = some r := H
 have A5 := Aside0.mk A50
 clear A50
 obtain ⟨t522, A60, H⟩ := Option.bind_eq_some_iff.mp H
 replace H : (some t522) = some r := H
 have A6 := Aside0.mk A60
 clear A60
 obtain rfl := Option.some.inj H
 go_enter Try.func32, Try.ntmps32
 (go_wp2_with (((with_reducible refine gate_dst (N := 3) rfl ?_); refine box_event ?hg (N := 3) ?hd (cs := #[.int .i64 a0_0, .int .i64 a0_1, .slice A0_2 l0_2.length c0_2]) (t := 24) ?hr ?_; (case hd => rfl); (case hg => rfl); (case hr => (go_simp; done)); intro gb517 hg w7 hbox hb; have n0_ := Aside0.mk (below_step HB.out hb); have n1_ := Aside0.mk (hbox); have n2_ := Aside0.mk ((by rw [hg]; exact (below_size HB.out) : w.heap.size ≤ gb517)); have n3_ := Aside0.mk ((by rw [hg]; exact (below_size HB.out) : w.heap.size ≤ gb517)); clear HB; have HB := n0_; have BK517 := n1_; have GW517 := n2_; have GE517 := n3_; clear n0_ n1_ n2_ n3_; clear hb hbox hg)))
 have n0_ := Aside0.mk (blk_drew BK517.out)
 have n1_ := Aside0.mk (below_drew1 HB.out)
 clear BK517 HB
 have BK517 := n0_
 have HB := n1_
 clear n0_ n1_
 refine start_ (n := 9) (S := fun w' => w'.cell? ⟨gb517, 0, none⟩ = some (.int .i64 a0_0) ∧ w'.cell? ⟨gb517, 1, none⟩ = some (.int .i64 a0_1) ∧ w'.cell? ⟨gb517, 2, none⟩ = some (.slice A0_2 l0_2.length c0_2)) (ds := []) #[false, false, false, false, false, false, false, false, false] (by kernel_rfl) rfl rfl ⟨(blk_cell BK517.out 0).trans rfl, (blk_cell BK517.out 1).trans rfl, (blk_cell BK517.out 2).trans rfl⟩ (fun hHeld => ?_); refine with_tabW codewrightref05_Sub.tab1 codewrightref05_Sub.bits1 (fun HT_ HW_ => ?_)
 generalize w7.drew = w8 at BK517 HB hHeld ⊢
 refine pure_ (i := 1) (N := some 8) (v := ?_) (a' := ?_) #[false, true, false, false, false, false, false, false, false] rfl rfl (any_of HT_.out (by kernel_rfl)) (fun _ _ _ h => h) (Or.inl ⟨by rfl, ?_⟩) ?_ ?_
 rotate_left
 ·intro w'
  go_simp
  with_reducible rfl
 rotate_left
 ·simp only [Act.put, List.setIfInBounds_toArray, List.set_cons_zero, List.set_cons_succ, i64_w, i32_w]
  rfl
 refine pure_ (i := 5) (N := some 12) (v := ?_) (a' := ?_) #[false, true, false, false, false, true, false, false, false] rfl rfl (any_of HT_.out (by kernel_rfl)) (fun _ _ _ h => h) (Or.inl ⟨by rfl, ?_⟩) ?_ ?_
 rotate_left
 ·intro w'
  go_simp
  with_reducible rfl
 rotate_left
 ·simp only [Act.put, List.setIfInBounds_toArray, List.set_cons_zero, List.set_cons_succ, i64_w, i32_w]
  rfl
 refine take_ (i := 0) (N := some 7) (v := ?_) (a' := ?_) #[true, true, false, false, false, true, false, false, false] rfl rfl (take_ofW HT_.out HW_.out (by kernel_rfl)) (fun _ _ _ h => h) (Or.inl ⟨by rfl, ?_⟩) hHeld ?_ ?_
 rotate_left
 ·rintro w' ⟨s0, s1, s2⟩
  go_simp
  with_reducible rfl
 rotate_left
 ·simp only [Act.put, List.setIfInBounds_toArray, List.set_cons_zero, List.set_cons_succ, i64_w, i32_w]
  rfl
 refine take_ (i := 2) (N := some 9) (v := ?_) (a' := ?_) #[true, true, true, false, false, true, false, false, false] rfl rfl (take_ofW HT_.out HW_.out (by kernel_rfl)) (fun _ _ _ h => h) (Or.inl ⟨by rfl, ?_⟩) hHeld ?_ ?_
 rotate_left
 ·rintro w' ⟨s0, s1, s2⟩
  go_simp
  with_reducible rfl
 rotate_left
 ·simp only [Act.put, List.setIfInBounds_toArray, List.set_cons_zero, List.set_cons_succ, i64_w, i32_w]
  rfl
 refine take_ (i := 3) (N := some 10) (v := ?_) (a' := ?_) #[true, true, true, true, false, true, false, false, false] rfl rfl (take_ofW HT_.out HW_.out (by kernel_rfl)) (fun _ _ _ h => h) (Or.inl ⟨by rfl, ?_⟩) hHeld ?_ ?_
 rotate_left
 ·rintro w' ⟨s0, s1, s2⟩
  go_simp
  with_reducible rfl
 rotate_left
 ·simp only [Act.put, List.setIfInBounds_toArray, List.set_cons_zero, List.set_cons_succ, i64_w, i32_w]
  rfl
 refine one_ (i := 4) (N := some 11) #[true, true, true, true, true, true, false, false, false] rfl rfl (one_of HT_.out (by kernel_rfl)) (by decide) (fun K hK => ?_)
 refine goes_ Try.func52 (by kernel_rfl) rfl #[.agg #[.int .i64 a0_0, .int .i64 a0_1, .slice A0_2 l0_2.length c0_2], .int .i64 1] (by rfl) rfl rfl (by ((simp only [List.map_toArray, List.map_cons, List.map_nil])); (rfl)) ?_
 with_reducible refine (codewrightref04_Neg.calls k a0_0 a0_1 _ _ l0_2 1 t518 _ ?side1 ?side2 A4.out).mono ?_
 (case side1 => repeat ((exact (Kd.C_below HR0_2.out HB.out))))
 (case side2 => exact HC0_2.out)
 rintro e w9 ⟨rfl, hb⟩
 refine ⟨_, rfl, ?_⟩
 have n0_ := Aside0.mk (blk_below (g := gb517) (o := .cells #[.int .i64 a0_0, .int .i64 a0_1, .slice A0_2 l0_2.length c0_2] 24 (0, 0)) BK517.out hb)
 have n1_ := Aside0.mk (below_step HB.out hb)
 clear BK517 HB
 have BK517 := n0_
 have HB := n1_
 clear n0_ n1_
 ((clear hb))
 refine hK.out _ _ ⟨(blk_cell BK517.out 0).trans rfl, (blk_cell BK517.out 1).trans rfl, (blk_cell BK517.out 2).trans rfl⟩ (fun hHeld => ?_)
 clear hK K
 refine norm_ (a' := ?_) ?_ ?_
 rotate_left
 ·show Act.put _ (some 11) _ = _
  simp only [Act.put, List.setIfInBounds_toArray, List.set_cons_zero, List.set_cons_succ, i64_w, i32_w]
  rfl
 refine one_ (i := 6) (N := some 13) #[true, true, true, true, true, true, true, false, false] rfl rfl (one_of HT_.out (by kernel_rfl)) (by decide) (fun K hK => ?_)
 refine goes_ Try.func26 (by kernel_rfl) rfl #[.agg #[.int .i64 a0_0, .int .i64 a0_1, .slice A0_2 l0_2.length c0_2], .int .i64 t518, .slice A2 l2.length c2] (by rfl) rfl rfl (by ((simp only [List.map_toArray, List.map_cons, List.map_nil])); (rfl)) ?_
 with_reducible refine (codewrightref05_Scale.calls k a0_0 a0_1 _ _ l0_2 t518 _ _ l2 t519 _ ?side1 ?side2 ?side3 ?side4 A5.out).mono ?_
 (case side1 => repeat ((exact (Kd.C_below HR0_2.out HB.out))))
 (case side2 => exact HC0_2.out)
 (case side3 => repeat ((exact (Kd.C_below HR2.out HB.out))))
 (case side4 => exact HC2.out)
 rintro e w10 ⟨v520, rfl, ho0, hb⟩
 refine ⟨_, rfl, ?_⟩
 have n0_ := Aside0.mk (Kd.R_lower ho0 (below_size HB.out))
 have n1_ := Aside0.mk (blk_below (g := gb517) (o := .cells #[.int .i64 a0_0, .int .i64 a0_1, .slice A0_2 l0_2.length c0_2] 24 (0, 0)) BK517.out hb)
 have n2_ := Aside0.mk (below_step HB.out hb)
 clear BK517 HB
 have HO521 := n0_
 have BK517 := n1_
 have HB := n2_
 clear n0_ n1_ n2_
 ((clear hb))
 ((clear ho0))
 obtain ⟨Ao11, co11, eo11⟩ := Kd.R_slice HO521.out
 ((subst eo11))
 refine hK.out _ _ ⟨(blk_cell BK517.out 0).trans rfl, (blk_cell BK517.out 1).trans rfl, (blk_cell BK517.out 2).trans rfl⟩ (fun hHeld => ?_)
 clear hK K
 refine norm_ (a' := ?_) ?_ ?_
 rotate_left
 ·show Act.put _ (some 13) _ = _
  simp only [Act.put, List.setIfInBounds_toArray, List.set_cons_zero, List.set_cons_succ, i64_w, i32_w]
  rfl
 refine one_ (i := 7) (N := some 14) #[true, true, true, true, true, true, true, true, false] rfl rfl (one_of HT_.out (by kernel_rfl)) (by decide) (fun K hK => ?_)
 refine goes_ Try.func18 (by kernel_rfl) rfl #[.agg #[.int .i64 a0_0, .int .i64 a0_1, .slice A0_2 l0_2.length c0_2], .slice A1 l1.length c1, .slice Ao11 t519.length co11] (by rfl) rfl rfl (by ((simp only [List.map_toArray, List.map_cons, List.map_nil])); (rfl)) ?_
 with_reducible refine (codewrightref05_Add.calls k a0_0 a0_1 _ _ l0_2 _ _ l1 _ _ t519 t522 _ ?side1 ?side2 ?side3 ?side4 ?side5 ?side6 A6.out).mono ?_
 (case side1 => repeat ((exact (Kd.C_below HR0_2.out HB.out))))
 (case side2 => exact HC0_2.out)
 (case side3 => repeat ((exact (Kd.C_below HR1.out HB.out))))
 (case side4 => exact HC1.out)
 (case side5 => repeat ((exact (Kd.R_reads' HO521.out).2.2)))
 (case side6 => exact (Kd.R_reads' HO521.out).2.1)
 rintro e w12 ⟨v523, rfl, ho0, hb⟩
 refine ⟨_, rfl, ?_⟩
 have n0_ := Aside0.mk (Kd.R_elder' HO521.out (Kd.R_base ho0) hb)
 have n1_ := Aside0.mk (Kd.R_lower (Kd.R_new' ho0 (Kd.R_lt HO521.out)) (below_size HB.out))
 have n2_ := Aside0.mk (blk_below (g := gb517) (o := .cells #[.int .i64 a0_0, .int .i64 a0_1, .slice A0_2 l0_2.length c0_2] 24 (0, 0)) BK517.out hb)
 have n3_ := Aside0.mk (below_step HB.out hb)
 clear HO521 BK517 HB
 have HO521 := n0_
 have HO524 := n1_
 have BK517 := n2_
 have HB := n3_
 clear n0_ n1_ n2_ n3_
 ((clear hb))
 ((clear ho0))
 refine hK.out _ _ ⟨(blk_cell BK517.out 0).trans rfl, (blk_cell BK517.out 1).trans rfl, (blk_cell BK517.out 2).trans rfl⟩ (fun hHeld => ?_)
 clear hK K
 refine norm_ (a' := ?_) ?_ ?_
 rotate_left
 ·show Act.put _ (some 14) _ = _
  simp only [Act.put, List.setIfInBounds_toArray, List.set_cons_zero, List.set_cons_succ, i64_w, i32_w]
  rfl
 refine pure_ (i := 8) (N := some 6) (v := ?_) (a' := ?_) #[true, true, true, true, true, true, true, true, true] rfl rfl (any_of HT_.out (by kernel_rfl)) (fun _ _ _ h => h) (Or.inl ⟨by rfl, ?_⟩) ?_ ?_
 rotate_left
 ·intro w'
  go_simp
  with_reducible rfl
 rotate_left
 ·simp only [Act.put, List.setIfInBounds_toArray, List.set_cons_zero, List.set_cons_succ, i64_w, i32_w]
  rfl
 refine done_ (done_of HT_.out (by kernel_rfl)) ?_
 (go_wp2)
 go_ret
 exact ⟨_, by rfl, by exact Kd.R_mono HO524.out (fun _ hk => trivial), by exact HB.out⟩
end Go.Proofs.Ytccmpmkmgehkiaa.PA
end
section
namespace Go.Proofs.Ytccmpmkmgehkiaa.PA
open Go.RowKit Go.Proofs.YtccmpmkmgehkiaaW.PrintWords Go.Proofs.YtccmpmkmgehkiaaW.PrintLast Go.Proofs.YtccmpmkmgehkiaaW.PrintMore
attribute [local go_sem] max2_int min2_int max_two min_two max_three min_three max_four min_four
set_option linter.unusedVariables false
set_option linter.unusedSimpArgs false
end Go.Proofs.Ytccmpmkmgehkiaa.PA
end
section
namespace Go.Proofs.Ytccmpmkmgehkiaa.PA
open Go.RowKit Go.Proofs.YtccmpmkmgehkiaaW.PrintWords Go.Proofs.YtccmpmkmgehkiaaW.PrintLast Go.Proofs.YtccmpmkmgehkiaaW.PrintMore
attribute [local go_sem] max2_int min2_int max_two min_two max_three min_three max_four min_four
set_option linter.unusedVariables false
set_option linter.unusedSimpArgs false
end Go.Proofs.Ytccmpmkmgehkiaa.PA
end
section
namespace Go.Proofs.Ytccmpmkmgehkiaa.PA
open Go.RowKit Go.Proofs.YtccmpmkmgehkiaaW.PrintWords Go.Proofs.YtccmpmkmgehkiaaW.PrintLast Go.Proofs.YtccmpmkmgehkiaaW.PrintMore
theorem Ev.succ {α : Type} {g : Nat → Option α} {r : α} (h : Ev (fun k => g (k + 1)) r) : Ev g r := Ev.step (fun _ => rfl) h
theorem Ev.ifp {α : Type} {c : Prop} [Decidable c] {f g : Nat → Option α} {r : α} (h : c) (e : Ev f r) : Ev (fun k => if c then f k else g k) r := by simp only [if_pos h]; exact e
theorem Ev.ifn {α : Type} {c : Prop} [Decidable c] {f g : Nat → Option α} {r : α} (h : ¬ c) (e : Ev g r) : Ev (fun k => if c then f k else g k) r := by simp only [if_neg h]; exact e
theorem Ev.val {α : Type} {a r : α} (h : a = r) : Ev (fun _ => some a) r := h ▸ Ev.now a
theorem Ev.some_bind {α β : Type} {a : α} {f : Nat → α → Option β} {r : β} (h : Ev (fun k => f k a) r) : Ev (fun k => (some a).bind (f k)) r := h
theorem Ev.opt_bind {α β : Type} {o : Option α} {a : α} {f : Nat → α → Option β} {r : β} (h0 : o = some a) (h : Ev (fun k => f k a) r) : Ev (fun k => o.bind (f k)) r := by subst h0; exact h
theorem w64 {n : Int} (h : -4000000000000000000 ≤ n ∧ n ≤ 4000000000000000000) : wrap64 n = n := by unfold wrap64; omega
theorem rd_nat (xs : List Int) (j : Nat) : rd xs (j : Int) = xs.getD j 0 := by unfold rd; rw [Int.toNat_natCast]
theorem rd_set (xs : List Int) (i j : Nat) (v : Int) (h : i < xs.length) : (xs.set i v).getD j 0 = if i = j then v else xs.getD j 0 := by
  rw [List.getD_eq_getElem?_getD, List.getElem?_set]
  split
  · rename_i e; subst e; simp [h]
  · rw [List.getD_eq_getElem?_getD]
theorem tdiv_pos {a b : Int} (h : 0 ≤ a) : Int.tdiv a b = a / b := Int.tdiv_eq_ediv_of_nonneg h
theorem tmod_pos {a b : Int} (h : 0 ≤ a) : Int.tmod a b = a % b := Int.tmod_eq_emod_of_nonneg h
theorem getD_nat_lt (xs : List Int) (j : Nat) (h : xs.length ≤ j) : xs.getD j 0 = 0 := by
  rw [List.getD_eq_getElem?_getD, List.getElem?_eq_none h]; rfl
theorem getD_zeros (n j : Nat) : (List.replicate n (0 : Int)).getD j 0 = 0 := by
  rw [List.getD_eq_getElem?_getD, List.getElem?_replicate]; split <;> rfl
end Go.Proofs.Ytccmpmkmgehkiaa.PA
end
