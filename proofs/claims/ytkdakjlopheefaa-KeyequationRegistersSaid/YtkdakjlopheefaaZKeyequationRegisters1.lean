/- Proved: for every input the law KeyequationRegisters returns true and leaves its arguments as they were; no conditions. Part 2 of 5 of the proof. -/
import Derived.Test.YtkdakjlopheefaaZKeyequationRegisters0
import Derived.Test.YtkdakjlopheefaaProg
import Derived.Below
import Derived.Deep.Draws
import Derived.Deep.AppendLies
import Derived.Maps.AppendAt
import Derived.OwnWalk
import Derived.Laws.BytesArg
import Derived.Laws.MakeOwn
import Derived.Laws.OwnMore
import Derived.Deep.OwnRows
import Derived.Tactics
import Derived.Lib.ConvBytes
import Derived.Laws.Slices
import Derived.WalkKit
import Derived.KernelRfl
import Derived.RowKit3
import Derived.Deep.LoopGhost
import Derived.Deep.QuietTactic
import Derived.BigQuiet
import Derived.WideLaws
import Derived.Deep.DeepCutAuto
import Derived.Deep.CutBlock
import Derived.Deep.RegionHeld3
import Derived.Laws.Rows
import Derived.Lib.AppendStr
import Derived.ArgAppend
import Derived.Laws.IdiomCopy
import Derived.OrdersHeld
import Derived.Laws.BitsLemmas
import Derived.RowKit
import Derived.Laws.CopyOwn
import Derived.Deep.RegionLaw
set_option linter.unusedSectionVars false
set_option linter.unusedSimpArgs false
set_option linter.unusedVariables false
section
namespace Go.Proofs.Ytkdakjlopheefaa.PA
open Go.RowKit Go.Proofs.YtkdakjlopheefaaW.PrintWords Go.Proofs.YtkdakjlopheefaaW.PrintLast Go.Proofs.YtkdakjlopheefaaW.PrintMore
attribute [local go_sem] max2_int min2_int max_two min_two max_three min_three max_four min_four
set_option linter.unusedVariables false
set_option linter.unusedSimpArgs false
theorem info3 : (Try.prog.info? 3).map (fun i => (i.zero, i.size, i.bytes)) = some (some (.int .i64 0), 1, 8) := by kernel_rfl
theorem info4 : (Try.prog.info? 4).map (fun i => (i.zero, i.size, i.bytes)) = some (some (.bool false), 1, 1) := by kernel_rfl
def bm (n k : Nat) : Array Bool := ⟨(List.range n).map fun i => k / 2 ^ i % 2 == 1⟩
theorem ps_ : (∀ (ts : Array Value) (ds : List Deferred) (t : Tmp) (v : Value), Act.put ⟨ts, ds⟩ (some t) v = ⟨ts.setIfInBounds t v, ds⟩) ∧ (∀ (l : List Value) (i : Nat) (x : Value), l.toArray.setIfInBounds i x = (l.set i x).toArray) ∧ (∀ (a : Value) (l : List Value) (x : Value), (a :: l).set 0 x = x :: l) ∧
  (∀ (a : Value) (l : List Value) (n : Nat) (x : Value), (a :: l).set (n + 1) x = a :: l.set n x) ∧ (∀ n, IntKind.i64.wrap n = Go.RowKit.wrap64 n) ∧ (∀ n, IntKind.i32.wrap n = Go.RowKit.wrap32 n) :=
 ⟨fun _ _ _ _ => rfl, fun _ _ _ => List.setIfInBounds_toArray .., fun _ _ _ => rfl, fun _ _ _ _ => rfl, i64_w, i32_w⟩
end Go.Proofs.Ytkdakjlopheefaa.PA
end
section
namespace Go.Proofs.Ytkdakjlopheefaa.PA
open Go.RowKit Go.Proofs.YtkdakjlopheefaaW.PrintWords Go.Proofs.YtkdakjlopheefaaW.PrintLast Go.Proofs.YtkdakjlopheefaaW.PrintMore
attribute [local go_sem] max2_int min2_int max_two min_two max_three min_three max_four min_four
set_option linter.unusedVariables false
set_option linter.unusedSimpArgs false
mutual
def codewrightref04_Order.j0 : Nat → Bool → Int → Int → List Int → Option (Int)
 | 0, _, _, _, _ => none
 | k + 1, x17, x102000, x102001, x102002 => if x17 = true then (some 0) else (codewrightref04_Order.l0 k 1 0 x102000 x102001 x102002)
def codewrightref04_Order.l0 : Nat → Int → Int → Int → Int → List Int → Option (Int)
 | 0, _, _, _, _, _ => none
 | k + 1, x3, x4, x102000, x102001, x102002 => if x4 < x102001 then (if x102000 = 0 then (none) else (if x3 > (wrap64 (Int.tdiv (256 : Int) x102000)) then (some 0) else (codewrightref04_Order.l0 k (wrap64 (x3 * x102000)) (wrap64 (x4 + 1)) x102000 x102001 x102002))) else (some x3)
end
def codewrightref04_Order.f (k : Nat) (a0_0 : Int) (a0_1 : Int) (l0_2 : List Int) : Option (Int) := if a0_0 < 2 then (codewrightref04_Order.j0 k true a0_0 a0_1 l0_2) else (if a0_1 < 1 then (codewrightref04_Order.j0 k true a0_0 a0_1 l0_2) else (codewrightref04_Order.j0 k (decide (a0_1 > 8)) a0_0 a0_1 l0_2))
set_option maxHeartbeats 8000000 in
set_option maxRecDepth 100000 in
theorem codewrightref04_Order.calls (k : Nat) (a0_0 : Int) (a0_1 : Int) (A0_2 : Option Addr) (c0_2 : Nat) (l0_2 : List Int) (r : Int) (w : World) (hr0_2 : Kd.C (Kd.int .i64) w A0_2 l0_2.length l0_2) (hc0_2 : l0_2.length ≤ c0_2) (h : codewrightref04_Order.f k a0_0 a0_1 l0_2 = some r) :
  Calls Try.prog 71 #[.agg #[.int .i64 a0_0, .int .i64 a0_1, .slice A0_2 l0_2.length c0_2]] w fun e w' => e = .returned (.int .i64 r) ∧ Below w.heap.size w w' := by
 have hu24 := Try.underlying24
 have HR0_2 := Aside0.mk hr0_2
 have HC0_2 := Aside0.mk hc0_2
 clear hr0_2 hc0_2
 have HB := Aside0.mk (Below.refl w.heap.size w)
 have H : (if a0_0 < 2 then (codewrightref04_Order.j0 k true a0_0 a0_1 l0_2) else (if a0_1 < 1 then (codewrightref04_Order.j0 k true a0_0 a0_1 l0_2) else (codewrightref04_Order.j0 k (decide (a0_1 > 8)) a0_0 a0_1 l0_2))) = some r := h
 clear h
 have HC2 := Aside0.mk H
 clear H
 go_enter Try.func71, Try.ntmps71
 go_upto_region 1 with (((with_reducible refine gate_dst (N := 1) rfl ?_); refine box_event ?hg (N := 1) ?hd (cs := #[.int .i64 a0_0, .int .i64 a0_1, .slice A0_2 l0_2.length c0_2]) (t := 24) ?hr ?_; (case hd => rfl); (case hg => rfl); (case hr => (go_simp; done)); intro gb101 hg w3 hbox hb; have n0_ := Aside0.mk (below_step HB.out hb); have n1_ := Aside0.mk (hbox); have n2_ := Aside0.mk ((by rw [hg]; exact (below_size HB.out) : w.heap.size ≤ gb101)); have n3_ := Aside0.mk ((by rw [hg]; exact (below_size HB.out) : w.heap.size ≤ gb101)); clear HB; have HB := n0_; have BK101 := n1_; have GW101 := n2_; have GE101 := n3_; clear n0_ n1_ n2_ n3_; clear hb hbox hg))
 go_cut [17] (fun v17 wc => ∃ (kq : Nat) (x17_1 : Bool), v17 = .bool x17_1 ∧ Aside0 (codewrightref04_Order.j0 kq x17_1 a0_0 a0_1 l0_2 = some r) ∧ Aside0 (kq ≤ k) ∧ Aside0 (wc.heap[gb101]? = some (.cells #[.int .i64 a0_0, .int .i64 a0_1, (.slice A0_2 l0_2.length c0_2)] 24 (0, 0))) ∧ Aside0 (Below w.heap.size w wc))
 case first =>
  have H := HC2.out
  clear HC2
  by_cases c4 : a0_0 < 2
  ·rw [if_pos c4] at H
   have c4b0 : decide (a0_0 < 2) = true := decide_eq_true c4
   clear c4
   ((skip))
   have H' := Aside0.mk H
   clear H
   have hcz5_0 : w3.cell? ⟨gb101, 0, none⟩ = some (.int .i64 a0_0) := (blk_cell BK101.out 0).trans rfl
   have hcz5_1 : w3.cell? ⟨gb101, 1, none⟩ = some (.int .i64 a0_1) := (blk_cell BK101.out 1).trans rfl
   have hcz5_2 : w3.cell? ⟨gb101, 2, none⟩ = some (.slice A0_2 l0_2.length c0_2) := (blk_cell BK101.out 2).trans rfl
   have hfz5_0 := blk_frozen BK101.out 0
   have hfz5_1 := blk_frozen BK101.out 1
   have hfz5_2 := blk_frozen BK101.out 2
   go_wp2
   go_meet
   case rel => exact ⟨_, (true), (by rfl), H', ⟨by (omega)⟩, ⟨BK101.out⟩, ⟨HB.out⟩⟩
  ·rw [if_neg c4] at H
   have c4b0 : decide (a0_0 < 2) = false := decide_eq_false c4
   clear c4
   ((skip))
   by_cases c6 : a0_1 < 1
   ·rw [if_pos c6] at H
    have c6b0 : decide (a0_1 < 1) = true := decide_eq_true c6
    clear c6
    have H' := Aside0.mk H
    clear H
    have hcz7_0 : w3.cell? ⟨gb101, 0, none⟩ = some (.int .i64 a0_0) := (blk_cell BK101.out 0).trans rfl
    have hcz7_1 : w3.cell? ⟨gb101, 1, none⟩ = some (.int .i64 a0_1) := (blk_cell BK101.out 1).trans rfl
    have hcz7_2 : w3.cell? ⟨gb101, 2, none⟩ = some (.slice A0_2 l0_2.length c0_2) := (blk_cell BK101.out 2).trans rfl
    have hfz7_0 := blk_frozen BK101.out 0
    have hfz7_1 := blk_frozen BK101.out 1
    have hfz7_2 := blk_frozen BK101.out 2
    go_wp2
    go_meet
    case rel => exact ⟨_, (true), (by rfl), H', ⟨by (omega)⟩, ⟨BK101.out⟩, ⟨HB.out⟩⟩
   ·rw [if_neg c6] at H
    have c6b0 : decide (a0_1 < 1) = false := decide_eq_false c6
    clear c6
    have H' := Aside0.mk H
    clear H
    have hcz8_0 : w3.cell? ⟨gb101, 0, none⟩ = some (.int .i64 a0_0) := (blk_cell BK101.out 0).trans rfl
    have hcz8_1 : w3.cell? ⟨gb101, 1, none⟩ = some (.int .i64 a0_1) := (blk_cell BK101.out 1).trans rfl
    have hcz8_2 : w3.cell? ⟨gb101, 2, none⟩ = some (.slice A0_2 l0_2.length c0_2) := (blk_cell BK101.out 2).trans rfl
    have hfz8_0 := blk_frozen BK101.out 0
    have hfz8_1 := blk_frozen BK101.out 1
    have hfz8_2 := blk_frozen BK101.out 2
    go_wp2
    go_meet
    case rel => exact ⟨_, (decide (a0_1 > 8)), (by rfl), H', ⟨by (omega)⟩, ⟨BK101.out⟩, ⟨HB.out⟩⟩
 case rest =>
  clear HC2
  obtain ⟨kq, x17_1, rfl, HA, HJ1, BK101, HB⟩ := hcut
  cases kq with
  | zero => exact absurd HA.out (by simp [codewrightref04_Order.j0])
  | succ kj1 =>
   have H := HA.out
   clear HA
   simp only [codewrightref04_Order.j0] at H
   by_cases c9 : x17_1 = true
   ·subst c9
    have H1 : (some 0) = some r := by rw [if_pos rfl] at H; exact H
    clear H
    have H := H1
    clear H1
    obtain rfl := Option.some.inj H
    go_wp2
    go_ret
    exact ⟨by rfl, by exact HB.out⟩
   ·replace c9 := Bool.eq_false_iff.mpr c9
    subst c9
    have H1 : (codewrightref04_Order.l0 kj1 1 0 a0_0 a0_1 l0_2) = some r := by rw [if_neg (show ¬ (false = true) by decide)] at H; exact H
    clear H
    have H := H1
    clear H1
    have H' := Aside0.mk H
    clear H
    go_wp2
    go_loopg [3, 4] kj1 (fun kq v3 v4 w' => ∃ (x3_2 : Int) (x4_2 : Int), v3 = .int .i64 x3_2 ∧ v4 = .int .i64 x4_2 ∧ Aside0 (codewrightref04_Order.l0 kq x3_2 x4_2 a0_0 a0_1 l0_2 = some r) ∧ Aside0 (kq ≤ kj1) ∧ Aside0 (w'.heap[gb101]? = some (.cells #[.int .i64 a0_0, .int .i64 a0_1, (.slice A0_2 l0_2.length c0_2)] 24 (0, 0))) ∧ Aside0 (Below w.heap.size w w'))
    case atStart => exact ⟨(1), (0), (by rfl), (by rfl), H', ⟨Nat.le_refl _⟩, ⟨BK101.out⟩, ⟨HB.out⟩⟩
    case round =>
     clear H'
     obtain ⟨x3_2, x4_2, rfl, rfl, HA, HK2, BK101, HB⟩ := hrel
     cases gk with
     | zero => exact absurd HA.out (by simp [codewrightref04_Order.l0])
     | succ k2 =>
      have H := HA.out
      clear HA
      simp only [codewrightref04_Order.l0] at H
      by_cases c10 : x4_2 < a0_1
      ·rw [if_pos c10] at H
       have c10b0 : decide (x4_2 < a0_1) = true := decide_eq_true c10
       clear c10
       by_cases c11 : a0_0 = 0
       ·rw [if_pos c11] at H
        exact absurd H (by simp)
       ·rw [if_neg c11] at H
        have c11b0 : (a0_0 == 0) = false := beq_eq_false_iff_ne.mpr c11
        have c11b1 : (a0_0 != 0) = true := bne_iff_ne.mpr c11
        by_cases c12 : x3_2 > (wrap64 (Int.tdiv (256 : Int) a0_0))
        ·rw [if_pos c12] at H
         have c12b0 : decide ((wrap64 (Int.tdiv (256 : Int) a0_0)) < x3_2) = true := decide_eq_true c12
         clear c12
         obtain rfl := Option.some.inj H
         have hcz13_0 : wr.cell? ⟨gb101, 0, none⟩ = some (.int .i64 a0_0) := (blk_cell BK101.out 0).trans rfl
         have hcz13_1 : wr.cell? ⟨gb101, 1, none⟩ = some (.int .i64 a0_1) := (blk_cell BK101.out 1).trans rfl
         have hcz13_2 : wr.cell? ⟨gb101, 2, none⟩ = some (.slice A0_2 l0_2.length c0_2) := (blk_cell BK101.out 2).trans rfl
         have hfz13_0 := blk_frozen BK101.out 0
         have hfz13_1 := blk_frozen BK101.out 1
         have hfz13_2 := blk_frozen BK101.out 2
         go_wp2
         go_ret
         exact ⟨by rfl, by exact HB.out⟩
        ·rw [if_neg c12] at H
         have c12b0 : decide ((wrap64 (Int.tdiv (256 : Int) a0_0)) < x3_2) = false := decide_eq_false c12
         clear c12
         have H' := Aside0.mk H
         clear H
         have hcz14_0 : wr.cell? ⟨gb101, 0, none⟩ = some (.int .i64 a0_0) := (blk_cell BK101.out 0).trans rfl
         have hcz14_1 : wr.cell? ⟨gb101, 1, none⟩ = some (.int .i64 a0_1) := (blk_cell BK101.out 1).trans rfl
         have hcz14_2 : wr.cell? ⟨gb101, 2, none⟩ = some (.slice A0_2 l0_2.length c0_2) := (blk_cell BK101.out 2).trans rfl
         have hfz14_0 := blk_frozen BK101.out 0
         have hfz14_1 := blk_frozen BK101.out 1
         have hfz14_2 := blk_frozen BK101.out 2
         go_wp2
         go_roundg k2
         case measure => have := HJ1.out; have := HK2.out; omega
         case rel => exact ⟨(wrap64 (x3_2 * a0_0)), (wrap64 (x4_2 + 1)), (by rfl), (by rfl), H', ⟨by have := HJ1.out; have := HK2.out; omega⟩, ⟨BK101.out⟩, ⟨HB.out⟩⟩
      ·rw [if_neg c10] at H
       have c10b0 : decide (x4_2 < a0_1) = false := decide_eq_false c10
       clear c10
       obtain rfl := Option.some.inj H
       have hcz15_0 : wr.cell? ⟨gb101, 0, none⟩ = some (.int .i64 a0_0) := (blk_cell BK101.out 0).trans rfl
       have hcz15_1 : wr.cell? ⟨gb101, 1, none⟩ = some (.int .i64 a0_1) := (blk_cell BK101.out 1).trans rfl
       have hcz15_2 : wr.cell? ⟨gb101, 2, none⟩ = some (.slice A0_2 l0_2.length c0_2) := (blk_cell BK101.out 2).trans rfl
       have hfz15_0 := blk_frozen BK101.out 0
       have hfz15_1 := blk_frozen BK101.out 1
       have hfz15_2 := blk_frozen BK101.out 2
       go_wp2
       go_ret
       exact ⟨by rfl, by exact HB.out⟩
def codewrightref04_prime.l0 : Nat → Int → Int → Option (Bool)
 | 0, _, _ => none
 | k + 1, x0, x3 => if x3 < x0 then (if x3 = 0 then (none) else (if (Int.tmod x0 x3) = 0 then (some false) else (codewrightref04_prime.l0 k x0 (wrap64 (x3 + 1))))) else (some true)
def codewrightref04_prime.f (k : Nat) (a0 : Int) : Option (Bool) := codewrightref04_prime.l0 k a0 2
set_option maxHeartbeats 8000000 in
set_option maxRecDepth 100000 in
theorem codewrightref04_prime.calls (k : Nat) (a0 : Int) (r : Bool) (w : World) (h : codewrightref04_prime.f k a0 = some r) :
  Calls Try.prog 72 #[.int .i64 a0] w fun e w' => e = .returned (.bool r) ∧ Drawn0 w w' := by
 have H : (codewrightref04_prime.l0 k a0 2) = some r := h
 clear h
 have H' := Aside0.mk H
 clear H
 go_enter Try.func72, Try.ntmps72
 go_wp2
 go_loopg [3] k (fun kq v3 w' => ∃ (x3_1 : Int), v3 = .int .i64 x3_1 ∧ Aside0 (codewrightref04_prime.l0 kq a0 x3_1 = some r) ∧ Aside0 (kq ≤ k) ∧ Drawn0 w w')
 case atStart => exact ⟨(2), (by rfl), H', ⟨Nat.le_refl _⟩, by repeat ((exact Drawn0.refl _))⟩
 case round =>
  clear H'
  obtain ⟨x3_1, rfl, HA, HK1, ⟨m1, rfl⟩⟩ := hrel
  cases gk with
  | zero => exact absurd HA.out (by simp [codewrightref04_prime.l0])
  | succ k1 =>
   have H := HA.out
   clear HA
   simp only [codewrightref04_prime.l0] at H
   by_cases c2 : x3_1 < a0
   ·rw [if_pos c2] at H
    have c2b0 : decide (x3_1 < a0) = true := decide_eq_true c2
    clear c2
    by_cases c3 : x3_1 = 0
    ·rw [if_pos c3] at H
     exact absurd H (by simp)
    ·rw [if_neg c3] at H
     have c3b0 : (x3_1 == 0) = false := beq_eq_false_iff_ne.mpr c3
     have c3b1 : (x3_1 != 0) = true := bne_iff_ne.mpr c3
     by_cases c4 : (Int.tmod a0 x3_1) = 0
     ·rw [if_pos c4] at H
      have c4b0 : ((Int.tmod a0 x3_1) == 0) = true := beq_iff_eq.mpr c4
      have c4b1 : ((Int.tmod a0 x3_1) != 0) = false := bne_eq_false_iff_eq.mpr c4
      clear c4
      obtain rfl := Option.some.inj H
      go_wp2
      go_ret
      exact ⟨by rfl, by repeat (first | (exact Drawn0.refl _) | (apply Drawn0.step))⟩
     ·rw [if_neg c4] at H
      have c4b0 : ((Int.tmod a0 x3_1) == 0) = false := beq_eq_false_iff_ne.mpr c4
      have c4b1 : ((Int.tmod a0 x3_1) != 0) = true := bne_iff_ne.mpr c4
      have H' := Aside0.mk H
      clear H
      go_wp2
      go_roundg k1
      case measure => have := HK1.out; omega
      case rel => exact ⟨(wrap64 (x3_1 + 1)), (by rfl), H', ⟨by have := HK1.out; omega⟩, by repeat (first | (exact Drawn0.refl _) | (apply Drawn0.step))⟩
   ·rw [if_neg c2] at H
    have c2b0 : decide (x3_1 < a0) = false := decide_eq_false c2
    clear c2
    obtain rfl := Option.some.inj H
    go_wp2
    go_ret
    exact ⟨by rfl, by repeat (first | (exact Drawn0.refl _) | (apply Drawn0.step))⟩
def codewrightref04_digits.l0 : Nat → Int → Int → Int → List Int → Int → Option (List Int)
 | 0, _, _, _, _, _ => none
 | k + 1, x0, x1, x2, x7, x8 => if x8 < x2 then (if x1 = 0 then (none) else (if 0 ≤ x8 then (if x8 < (x7.length : Int) then (codewrightref04_digits.l0 k (wrap64 (Int.tdiv x0 x1)) x1 x2 (x7.set (x8 : Int).toNat (Int.tmod x0 x1)) (wrap64 (x8 + 1))) else (none)) else (none))) else (some x7)
def codewrightref04_digits.f (k : Nat) (a0 : Int) (a1 : Int) (a2 : Int) : Option (List Int) := if 0 ≤ a2 then (if (a2 : Int).toNat ≤ 35184372088832 then (codewrightref04_digits.l0 k a0 a1 a2 (List.replicate (a2 : Int).toNat 0) 0) else (none)) else (none)
set_option maxHeartbeats 8000000 in
set_option maxRecDepth 100000 in
theorem codewrightref04_digits.calls (k : Nat) (a0 : Int) (a1 : Int) (a2 : Int) (r : List Int) (w : World) (h : codewrightref04_digits.f k a0 a1 a2 = some r) :
  Calls Try.prog 91 #[.int .i64 a0, .int .i64 a1, .int .i64 a2] w fun e w' => ∃ v0_ : Value, e = .returned (v0_) ∧ Kd.R (Kd.int .i64) 3 w' w.heap.size (fun _ => True) v0_ r ∧ Below w.heap.size w w' := by
 have HB := Aside0.mk (Below.refl w.heap.size w)
 have H : (if 0 ≤ a2 then (if (a2 : Int).toNat ≤ 35184372088832 then (codewrightref04_digits.l0 k a0 a1 a2 (List.replicate (a2 : Int).toNat 0) 0) else (none)) else (none)) = some r := h
 clear h
 by_cases c4 : 0 ≤ a2
 ·rw [if_pos c4] at H
  have c4b0 := eq_true c4
  have c4b1 : decide (0 ≤ a2) = true := decide_eq_true c4
  clear c4
  by_cases c5 : (a2 : Int).toNat ≤ 35184372088832
  ·rw [if_pos c5] at H
   have c5b0 := eq_true c5
   have c5b1 : decide ((a2 : Int).toNat ≤ 35184372088832) = true := decide_eq_true c5
   clear c5
   obtain ⟨y102, hy102⟩ : ∃ y_ : List Int, y_ = (List.replicate (a2 : Int).toNat 0) := ⟨_, rfl⟩
   replace H : (codewrightref04_digits.l0 k a0 a1 a2 y102 0) = some r := by (rw [hy102]; with_reducible exact H)
   have Ny102 := Aside0.mk hy102
   clear hy102
   have H' := Aside0.mk H
   clear H
   go_enter Try.func91, Try.ntmps91
   go_wp2_with (((with_reducible refine gate_dst (N := 10) rfl ?_); refine Kd.R_make (Kd.int .i64) _ 3 rfl (N := 10) rfl 22 _ _ rfl a2 rfl rfl Try.underlying22 (.int .i64 0) 8 info3 rfl (by decide) (by omega) 0 (ok := fun _ => True) (okp := fun _ => True) rfl (fun _ hk => hk) trivial (of_decide_eq_true (by (with_reducible assumption))) (Nat.le_trans (Nat.mul_le_mul_right _ (of_decide_eq_true (by (with_reducible assumption)) : a2.toNat ≤ 35184372088832)) (by omega)) (Below.refl _ _) (Nat.le_refl _) ?_; intro v103 w6 ho7 hb hg_ hnew_; clear hg_ hnew_; ((rw [← Ny102.out] at ho7)); have n0_ := Aside0.mk (Kd.R_lower ho7 (below_size HB.out)); have n1_ := Aside0.mk (below_step HB.out hb); clear HB; have HO104 := n0_; have HB := n1_; clear n0_ n1_; clear hb ho7))
   go_loopg [0, 8] k (fun kq v0 v8 w' => ∃ (x0_1 : Int) (x7_1 : List Int) (x8_1 : Int), v0 = .int .i64 x0_1 ∧ v8 = .int .i64 x8_1 ∧ Aside0 (codewrightref04_digits.l0 kq x0_1 a1 a2 x7_1 x8_1 = some r) ∧ Aside0 (kq ≤ k) ∧ Aside0 (Kd.R (Kd.int .i64) 3 w' w.heap.size (fun _ => True) v103 x7_1) ∧ Aside0 (Below w.heap.size w w'))
   case atStart => exact ⟨(a0), (y102), (0), (by rfl), (by rfl), H', ⟨Nat.le_refl _⟩, ⟨HO104.out⟩, ⟨HB.out⟩⟩
   case round =>
    clear H' c4b0 c4b1 c5b0 c5b1
    obtain ⟨x0_1, x7_1, x8_1, rfl, rfl, HA, HK1, HO_7, HB⟩ := hrel
    cases gk with
    | zero => exact absurd HA.out (by simp [codewrightref04_digits.l0])
    | succ k1 =>
     have H := HA.out
     clear HA
     simp only [codewrightref04_digits.l0] at H
     by_cases c8 : x8_1 < a2
     ·rw [if_pos c8] at H
      have c8b0 : decide (x8_1 < a2) = true := decide_eq_true c8
      clear c8
      by_cases c9 : a1 = 0
      ·rw [if_pos c9] at H
       exact absurd H (by simp)
      ·rw [if_neg c9] at H
       have c9b0 : (a1 == 0) = false := beq_eq_false_iff_ne.mpr c9
       have c9b1 : (a1 != 0) = true := bne_iff_ne.mpr c9
       by_cases c10 : 0 ≤ x8_1
       ·rw [if_pos c10] at H
        have c10b0 : decide (0 ≤ x8_1) = true := decide_eq_true c10
        clear c10
        by_cases c11 : x8_1 < (x7_1.length : Int)
        ·rw [if_pos c11] at H
         have c11b0 : decide (x8_1 < (x7_1.length : Int)) = true := decide_eq_true c11
         clear c11
         obtain ⟨y105, hy105⟩ : ∃ y_ : List Int, y_ = (x7_1.set (x8_1 : Int).toNat (Int.tmod x0_1 a1)) := ⟨_, rfl⟩
         replace H : (codewrightref04_digits.l0 k1 (wrap64 (Int.tdiv x0_1 a1)) a1 a2 y105 (wrap64 (x8_1 + 1))) = some r := by (rw [hy105]; with_reducible exact H)
         have Ny105 := Aside0.mk hy105
         clear hy105
         have H' := Aside0.mk H
         clear H
         have p12 : 0 ≤ (x8_1 : Int) := of_decide_eq_true (by (with_reducible assumption))
         have q12 : (x8_1 : Int) < ((x7_1.length : Int) : Int) := of_decide_eq_true (by (with_reducible assumption))
         obtain ⟨go12, co12, eo12, gb12, gl12, cl12, HG12⟩ := Kd.R_form HO_7.out (by omega)
         ((cases eo12))
         have GB12 := Aside0.mk gb12
         have GG12 := Aside0.mk HG12
         clear gb12 gl12 HG12
         obtain ⟨hx12_0, hf12_0⟩ := Kd.R_celln 0 HO_7.out (x8_1 : Int) p12 q12
         replace p12 := eq_true p12
         replace q12 := eq_true q12
         have HP13 := Kd.R_putg HO_7.out (x8_1 : Int) (Int.tmod x0_1 a1)
         go_wp2_with (((with_reducible refine gate_store (t := 3) (p := 21) rfl ?_); refine store_event (t := 3) (p := 21) (v := ?vo_w14) (w1 := (wr.setCell ⟨go12, (x8_1 : Int).toNat, none⟩ (.int .i64 (Int.tmod x0_1 a1)))) ?hg ?ho ?hn ?hr ?_; (case ho => rfl); (case hg => rfl); (case hn => rfl); (case hr => (go_simp; done)); intro w14 hw; have hg : wr.grownBy w14 (some go12) := (by rw [hw]; exact HP13.2); have hp_ : Kd.R (Kd.int .i64) 3 w14 w.heap.size (fun _ => True) (.slice (some ⟨go12, 0, none⟩) x7_1.length co12) y105 := (by rw [hw, Ny105.out]; exact HP13.1); clear HP13; have n0_ := Aside0.mk (hp_); have n1_ := Aside0.mk ((by rw [hw]; exact below_set (HB.out) GB12.out : Below w.heap.size w w14)); clear HO_7; clear HB; have HO_7 := n0_; have HB := n1_; clear n0_ n1_; clear hg hw hp_))
         go_roundg k1
         case measure => have := HK1.out; omega
         case rel => exact ⟨(wrap64 (Int.tdiv x0_1 a1)), (y105), (wrap64 (x8_1 + 1)), (by rfl), (by rfl), H', ⟨by have := HK1.out; omega⟩, ⟨HO_7.out⟩, ⟨HB.out⟩⟩
        ·rw [if_neg c11] at H
         exact absurd H (by simp)
       ·rw [if_neg c10] at H
        exact absurd H (by simp)
     ·rw [if_neg c8] at H
      have c8b0 : decide (x8_1 < a2) = false := decide_eq_false c8
      clear c8
      obtain rfl := Option.some.inj H
      go_wp2
      go_ret
      exact ⟨_, by rfl, by exact HO_7.out, by exact HB.out⟩
  ·rw [if_neg c5] at H
   exact absurd H (by simp)
 ·rw [if_neg c4] at H
  exact absurd H (by simp)
end Go.Proofs.Ytkdakjlopheefaa.PA
end
section
namespace Go.Proofs.Ytkdakjlopheefaa.PA
open Go.RowKit Go.Proofs.YtkdakjlopheefaaW.PrintWords Go.Proofs.YtkdakjlopheefaaW.PrintLast Go.Proofs.YtkdakjlopheefaaW.PrintMore
attribute [local go_sem] max2_int min2_int max_two min_two max_three min_three max_four min_four
set_option linter.unusedVariables false
set_option linter.unusedSimpArgs false
mutual
def codewrightref04_divides.l0 : Nat → List Int → Int → Int → List Int → Int → Option (Bool)
 | 0, _, _, _, _, _ => none
 | k + 1, x0, x2, x7, x8, x9 => if x9 ≥ x7 then (if 0 ≤ x9 then (if x9 < (x8.length : Int) then (codewrightref04_divides.l1 k x0 x2 x7 x8 x9 (rd x8 x9) 0) else (none)) else (none)) else (codewrightref04_divides.l2 k x8 0)
def codewrightref04_divides.l1 : Nat → List Int → Int → Int → List Int → Int → Int → Int → Option (Bool)
 | 0, _, _, _, _, _, _, _ => none
 | k + 1, x0, x2, x7, x8, x9, x10, x11 => if x11 < x7 then (if 0 ≤ (wrap64 ((wrap64 (x9 - x7)) + x11)) then (if (wrap64 ((wrap64 (x9 - x7)) + x11)) < (x8.length : Int) then (if 0 ≤ x11 then (if x11 < (x0.length : Int) then (if x2 = 0 then (none) else (codewrightref04_divides.l1 k x0 x2 x7 (x8.set ((wrap64 ((wrap64 (x9 - x7)) + x11)) : Int).toNat (Int.tmod (wrap64 ((rd x8 (wrap64 ((wrap64 (x9 - x7)) + x11))) + (wrap64 ((wrap64 (x2 - x10)) * (rd x0 x11))))) x2)) x9 x10 (wrap64 (x11 + 1)))) else (none)) else (none)) else (none)) else (none)) else (if 0 ≤ x9 then (if x9 < (x8.length : Int) then (codewrightref04_divides.l0 k x0 x2 x7 (x8.set (x9 : Int).toNat 0) (wrap64 (x9 - 1))) else (none)) else (none))
def codewrightref04_divides.l2 : Nat → List Int → Int → Option (Bool)
 | 0, _, _ => none
 | k + 1, x8, x12 => if x12 < (x8.length : Int) then (if 0 ≤ x12 then (if (rd x8 x12) = 0 then (codewrightref04_divides.l2 k x8 (wrap64 (x12 + 1))) else (some false)) else (none)) else (some true)
end
def codewrightref04_divides.f (k : Nat) (l0 : List Int) (l1 : List Int) (a2 : Int) : Option (Bool) := (some (([] : List Int) : List Int)).bind fun y106 => (if y106.length + l1.length < 17592186044416 then ((some (y106 ++ l1 : List Int)).bind fun y109 => (if y109.length < 17592186044416 then ((some (y109 ++ [1] : List Int)).bind fun y112 => (codewrightref04_divides.l0 k l0 a2 (l0.length : Int) y112 (wrap64 ((y112.length : Int) - 1)))) else (none))) else (none))
def codewrightref04_divides.T11 : Bool × List (List Nat × List Nat) := (true, [([], []), ([], []), ([], []), ([1, 2], [1, 2]), ([], []), ([3, 4], [3, 4]), ([], []), ([], []), ([], []), ([7, 8], [7, 8]), ([], []), ([9, 10], [9, 10]), ([6, 11], [6, 11]), ([12], [12]), ([], []), ([], []), ([14, 15], [14, 15]), ([], []), ([], []), ([17, 18], [17, 18]), ([19], [19]), ([16, 20], [16, 20]), ([13, 21], [13, 21]), ([], []), ([22, 23], [22, 23]), ([0, 5, 0, 1, 2, 3, 4, 5, 6, 7, 8, 9, 10, 11, 12, 13, 14, 15, 16, 17, 18, 19, 20, 21, 22, 23, 24], [0, 5]), ([25, 24, 0, 1, 2, 3, 4, 5, 6, 7, 8, 9, 10, 11, 12, 13, 14, 15, 16, 17, 18, 19, 20, 21, 22, 23, 24], [24, 25])])
def codewrightref04_divides.B11 : List Nat := [0, 0, 0, 6, 0, 30, 0, 0, 0, 384, 0, 1920, 4032, 8128, 0, 0, 49152, 0, 0, 393216, 917504, 2080768, 4194240, 0, 16777152, 33554431, 67108863]
theorem codewrightref04_divides.tab11 : rtab .any (opsOf Try.f92 11) = codewrightref04_divides.T11 := by kernel_rfl
theorem codewrightref04_divides.bits11 : waitsOk codewrightref04_divides.T11.2 codewrightref04_divides.B11 = true := by kernel_rfl
set_option maxHeartbeats 8000000 in
set_option maxRecDepth 100000 in
theorem codewrightref04_divides.calls (k : Nat) (A0 : Option Addr) (c0 : Nat) (l0 : List Int) (A1 : Option Addr) (c1 : Nat) (l1 : List Int) (a2 : Int) (r : Bool) (w : World) (hr0 : Kd.C (Kd.int .i64) w A0 l0.length l0) (hc0 : l0.length ≤ c0) (hr1 : Kd.C (Kd.int .i64) w A1 l1.length l1) (hc1 : l1.length ≤ c1) (h : codewrightref04_divides.f k l0 l1 a2 = some r) :
  Calls Try.prog 92 #[.slice A0 l0.length c0, .slice A1 l1.length c1, .int .i64 a2] w fun e w' => e = .returned (.bool r) ∧ Below w.heap.size w w' := by
 have HR0 := Aside0.mk hr0
 have HC0 := Aside0.mk hc0
 clear hr0 hc0
 have HR1 := Aside0.mk hr1
 have HC1 := Aside0.mk hc1
 clear hr1 hc1
 have HB := Aside0.mk (Below.refl w.heap.size w)
 have H : ((some (([] : List Int) : List Int)).bind fun y106 => (if y106.length + l1.length < 17592186044416 then ((some (y106 ++ l1 : List Int)).bind fun y109 => (if y109.length < 17592186044416 then ((some (y109 ++ [1] : List Int)).bind fun y112 => (codewrightref04_divides.l0 k l0 a2 (l0.length : Int) y112 (wrap64 ((y112.length : Int) - 1)))) else (none))) else (none))) = some r := h
 clear h
 obtain ⟨y106, hy106⟩ : ∃ y_ : List Int, y_ = (([] : List Int)) := ⟨_, rfl⟩
 replace H : (if y106.length + l1.length < 17592186044416 then ((some (y106 ++ l1 : List Int)).bind fun y109 => (if y109.length < 17592186044416 then ((some (y109 ++ [1] : List Int)).bind fun y112 => (codewrightref04_divides.l0 k l0 a2 (l0.length : Int) y112 (wrap64 ((y112.length : Int) - 1)))) else (none))) else (none)) = some r := by (have H2_ := (Option.bind_some _ _).symm.trans H; rw [hy106]; with_reducible exact H2_)
 have Ny106 := Aside0.mk hy106
 clear hy106
 by_cases c4 : y106.length + l1.length < 17592186044416
 ·rw [if_pos c4] at H
  have LMc4 := Aside0.mk c4
  clear c4
  obtain ⟨y109, hy109⟩ : ∃ y_ : List Int, y_ = (y106 ++ l1) := ⟨_, rfl⟩
  replace H : (if y109.length < 17592186044416 then ((some (y109 ++ [1] : List Int)).bind fun y112 => (codewrightref04_divides.l0 k l0 a2 (l0.length : Int) y112 (wrap64 ((y112.length : Int) - 1)))) else (none)) = some r := by (have H2_ := (Option.bind_some _ _).symm.trans H; rw [hy109]; with_reducible exact H2_)
  have Ny109 := Aside0.mk hy109
  clear hy109
  by_cases c5 : y109.length < 17592186044416
  ·rw [if_pos c5] at H
   have LMc5 := Aside0.mk c5
   clear c5
   obtain ⟨y112, hy112⟩ : ∃ y_ : List Int, y_ = (y109 ++ [1]) := ⟨_, rfl⟩
   replace H : (codewrightref04_divides.l0 k l0 a2 (l0.length : Int) y112 (wrap64 ((y112.length : Int) - 1))) = some r := by (have H2_ := (Option.bind_some _ _).symm.trans H; rw [hy112]; with_reducible exact H2_)
   have Ny112 := Aside0.mk hy112
   clear hy112
   have H' := Aside0.mk H
   clear H
   go_enter Try.func92, Try.ntmps92
   go_wp2_with (first | ((with_reducible refine gate_dst (N := 15) rfl ?_); refine Kd.R_lit (Kd.int .i64) _ 3 ?hg (N := 15) ?hd (xs := ([] : List Int)) (inner := []) (ok := fun _ => True) (okp := fun _ => True) ?hr ?hp (fun _ hk => hk) trivial (Below.refl _ _) (Nat.le_refl _) (by simp) ?_; (case hd => rfl); (case hg => rfl); (case hr => (go_simp; done)); (case hp => exact (Reps.none _ _)); intro v107 w6 ho7 hb hg_ hnew_; clear hg_ hnew_; ((rw [← Ny106.out] at ho7)); have n0_ := Aside0.mk (Kd.R_lower ho7 (below_size HB.out)); have n1_ := Aside0.mk (below_step HB.out hb); clear HB; have HO108 := n0_; have HB := n1_; clear n0_ n1_; clear hb ho7) | ((with_reducible refine gate_builtin (b := .append) (xs := #[.tmp 15, .tmp 16]) rfl ?_); at_builtin; refine Kd.R_append_rows (Kd.int .i64) (w0 := w) w.heap.size rfl (.tmp 15) (.tmp 16) 22 3 (.int .i64 0) 8 rfl Try.underlying22 info3 rfl (by decide) (by omega) v107 y106 l1 _ _ _ (fun _ => True) (fun _ => False) rfl rfl ?aO ?aR (fun _ _ h => h) (fun _ h => h.elim) ?aF ?aB ?aS ?aL ?_; (case aR => repeat ((exact (Kd.C_below HR1.out HB.out)))); (case aB => exact HB.out); (case aF => exact (fun _ _ => trivial)); (case aO => exact HO108.out); (case aS => exact (below_size HB.out)); (case aL => have := LMc4.out; omega); intro v110 w8 ho hb hg hat; rw [← Ny109.out] at ho; have n0_ := Aside0.mk (hb); have n1_ := Aside0.mk (ho); clear HB; clear HO108; have HB := n0_; have HO111 := n1_; clear n0_ n1_; clear ho hb hg hat) | ((with_reducible refine gate_builtin (b := .append) (xs := #[.tmp 18, .tmp 19]) rfl ?_); at_builtin; refine Kd.R_append (Kd.int .i64) (w0 := w) w.heap.size rfl (.tmp 18) (.tmp 19) 22 3 (.int .i64 0) 8 rfl Try.underlying22 info3 rfl (by decide) (by omega) v110 y109 1 [.int .i64 1] (fun _ => True) (fun _ => False) rfl rfl ?aP (fun _ hk => hk.elim) ?aF ?aO ?aB ?aS ?aL ?_; (case aP => exact rfl); (case aB => exact HB.out); (case aF => exact (fun _ _ => trivial)); (case aO => exact HO111.out); (case aS => exact (below_size HB.out)); (case aL => have := LMc5.out; omega); intro v113 w9 ho hb hg hat; rw [← Ny112.out] at ho; have n0_ := Aside0.mk (hb); have n1_ := Aside0.mk (ho); clear HB; clear HO111; have HB := n0_; have HO114 := n1_; clear n0_ n1_; clear ho hb hg hat; obtain ⟨Ao10, co10, eo10⟩ := Kd.R_slice HO114.out; subst eo10))
   go_loopg [9] k (fun kq v9 w' => ∃ (x8_1 : List Int) (x9_1 : Int), v9 = .int .i64 x9_1 ∧ Aside0 (codewrightref04_divides.l0 kq l0 a2 (l0.length : Int) x8_1 x9_1 = some r) ∧ Aside0 (kq ≤ k) ∧ Aside0 (Kd.R (Kd.int .i64) 3 w' w.heap.size (fun _ => True) (.slice Ao10 y112.length co10) x8_1) ∧ Aside0 (Below w.heap.size w w'))
   case atStart => exact ⟨(y112), (wrap64 ((y112.length : Int) - 1)), (by rfl), H', ⟨Nat.le_refl _⟩, ⟨HO114.out⟩, ⟨HB.out⟩⟩
   case round =>
    clear H'
    obtain ⟨x8_1, x9_1, rfl, HA, HK1, HO_8, HB⟩ := hrel
    have hl8_1 := (Kd.R_reads' HO_8.out).1
    rw [hl8_1] at HO_8
    ((simp only [hl8_1]))
    cases gk with
    | zero => exact absurd HA.out (by simp [codewrightref04_divides.l0])
    | succ k1 =>
     have H := HA.out
     clear HA
     simp only [codewrightref04_divides.l0] at H
     by_cases c11 : x9_1 ≥ (l0.length : Int)
     ·rw [if_pos c11] at H
      have c11b0 : decide ((l0.length : Int) ≤ x9_1) = true := decide_eq_true c11
      clear c11
      by_cases c12 : 0 ≤ x9_1
      ·rw [if_pos c12] at H
       have c12b0 : decide (0 ≤ x9_1) = true := decide_eq_true c12
       clear c12
       by_cases c13 : x9_1 < (x8_1.length : Int)
       ·rw [if_pos c13] at H
        have c13b0 : decide (x9_1 < (x8_1.length : Int)) = true := decide_eq_true c13
        clear c13
        have H' := Aside0.mk H
        clear H
        have p115 : 0 ≤ (x9_1 : Int) := of_decide_eq_true (by (with_reducible assumption))
        have q115 : x9_1 < (x8_1.length : Int) := of_decide_eq_true (by (with_reducible assumption))
        obtain ⟨ad115, e115, hx115_0⟩ := Kd.at_int (Kd.R_reads' HO_8.out).2.2 x9_1 p115 q115
        cases e115
        replace p115 := eq_true p115
        replace q115 := eq_true q115
        go_wp2
        go_loopg [11] k1 (fun kq v11 w' => ∃ (x8_2 : List Int) (x11_2 : Int), v11 = .int .i64 x11_2 ∧ Aside0 (codewrightref04_divides.l1 kq l0 a2 (l0.length : Int) x8_2 x9_1 (rd x8_1 x9_1) x11_2 = some r) ∧ Aside0 (kq ≤ k1) ∧ Aside0 (Kd.R (Kd.int .i64) 3 w' w.heap.size (fun _ => True) (.slice (some ad115) x8_1.length co10) x8_2) ∧ Aside0 (Below w.heap.size w w'))
        case atStart => exact ⟨(x8_1), (0), (by rfl), H', ⟨Nat.le_refl _⟩, ⟨by (skip); (with_reducible repeat (fail)); exact HO_8.out⟩, ⟨HB.out⟩⟩
        case round =>
         clear H' c11b0 c12b0 c13b0 hx115_0 p115 q115
         obtain ⟨x8_2, x11_2, rfl, HA, HK2, HO_8, HB⟩ := hrel
         have hl8_2 := (Kd.R_reads' HO_8.out).1
         rw [hl8_2] at HO_8
         ((simp only [hl8_2]))
         cases gk with
         | zero => exact absurd HA.out (by simp [codewrightref04_divides.l1])
         | succ k2 =>
          have H := HA.out
          clear HA
          simp only [codewrightref04_divides.l1] at H
          by_cases c14 : x11_2 < (l0.length : Int)
          ·rw [if_pos c14] at H
           have c14b0 : decide (x11_2 < (l0.length : Int)) = true := decide_eq_true c14
           clear c14
           obtain ⟨ji15, hji15⟩ : ∃ j_ : Int, (wrap64 ((wrap64 (x9_1 - (l0.length : Int))) + x11_2)) = j_ := ⟨_, rfl⟩
           replace H : (if 0 ≤ (ji15) then (if (ji15) < (x8_2.length : Int) then (if 0 ≤ x11_2 then (if x11_2 < (l0.length : Int) then (if a2 = 0 then (none) else (codewrightref04_divides.l1 k2 l0 a2 (l0.length : Int) (x8_2.set ((ji15) : Int).toNat (Int.tmod (wrap64 ((rd x8_2 (ji15)) + (wrap64 ((wrap64 (a2 - (rd x8_1 x9_1))) * (rd l0 x11_2))))) a2)) x9_1 (rd x8_1 x9_1) (wrap64 (x11_2 + 1)))) else (none)) else (none)) else (none)) else (none)) = some r := by (rw [hji15] at H; exact H)
           have hji15w : (IntKind.i64.wrap ((wrap64 (x9_1 - (l0.length : Int))) + x11_2)) = ji15 := (i64_w _).trans hji15
           by_cases c16 : 0 ≤ (ji15)
           ·rw [if_pos c16] at H
            have c16b0 : decide (0 ≤ (ji15)) = true := decide_eq_true c16
            clear c16
            by_cases c17 : (ji15) < (x8_2.length : Int)
            ·rw [if_pos c17] at H
             have c17b0 : decide ((ji15) < (x8_2.length : Int)) = true := decide_eq_true c17
             clear c17
             by_cases c18 : 0 ≤ x11_2
             ·rw [if_pos c18] at H
              have c18b0 : decide (0 ≤ x11_2) = true := decide_eq_true c18
              clear c18
              by_cases c19 : x11_2 < (l0.length : Int)
              ·rw [if_pos c19] at H
               have c19b0 : decide (x11_2 < (l0.length : Int)) = true := decide_eq_true c19
               clear c19
               by_cases c20 : a2 = 0
               ·rw [if_pos c20] at H
                exact absurd H (by simp)
               ·rw [if_neg c20] at H
                have c20b0 : (a2 == 0) = false := beq_eq_false_iff_ne.mpr c20
                have c20b1 : (a2 != 0) = true := bne_iff_ne.mpr c20
                obtain ⟨y118, hy118⟩ : ∃ y_ : List Int, y_ = (x8_2.set ((ji15) : Int).toNat (Int.tmod (wrap64 ((rd x8_2 (ji15)) + (wrap64 ((wrap64 (a2 - (rd x8_1 x9_1))) * (rd l0 x11_2))))) a2)) := ⟨_, rfl⟩
                replace H : (codewrightref04_divides.l1 k2 l0 a2 (l0.length : Int) y118 x9_1 (rd x8_1 x9_1) (wrap64 (x11_2 + 1))) = some r := by (rw [hy118]; with_reducible exact H)
                have Ny118 := Aside0.mk hy118
                clear hy118
                have H' := Aside0.mk H
                clear H
                (go_wp2)
                have n0_ := Aside0.mk (Kd.R_drew HO_8.out)
                have n1_ := Aside0.mk (below_drew1 HB.out)
                clear HO_8 HB
                have HO_8 := n0_
                have HB := n1_
                clear n0_ n1_
                have p116 : 0 ≤ ((ji15) : Int) := of_decide_eq_true (by (with_reducible assumption))
                have q116 : (ji15) < (x8_2.length : Int) := of_decide_eq_true (by (with_reducible assumption))
                obtain ⟨ad116, e116, hx116_0⟩ := Kd.at_int (Kd.R_reads' HO_8.out).2.2 (ji15) p116 q116
                obtain rfl : ad115 = ad116 := (by injection e116)
                replace p116 := eq_true p116
                replace q116 := eq_true q116
                have p117 : 0 ≤ (x11_2 : Int) := of_decide_eq_true (by (with_reducible assumption))
                have q117 : x11_2 < (l0.length : Int) := of_decide_eq_true (by (with_reducible assumption))
                obtain ⟨ad117, e117, hx117_0⟩ := Kd.at_int HR0.out x11_2 p117 q117
                have hw117_0 := hx117_0
                cases e117
                replace hx117_0 := (HB.out.cell (World.block_lt_of_cell? w _ hx117_0)).trans hx117_0
                replace p117 := eq_true p117
                replace q117 := eq_true q117
                have p21 : 0 ≤ ((ji15) : Int) := of_decide_eq_true (by (with_reducible assumption))
                have q21 : ((ji15) : Int) < ((x8_2.length : Int) : Int) := of_decide_eq_true (by (with_reducible assumption))
                obtain ⟨go21, co21, eo21, gb21, gl21, cl21, HG21⟩ := Kd.R_form HO_8.out (by omega)
                ((cases eo21))
                have GB21 := Aside0.mk gb21
                have GG21 := Aside0.mk HG21
                clear gb21 gl21 HG21
                ((skip))
                ((simp only [add_plain] at hx116_0))
                obtain ⟨hx21_0, hf21_0⟩ := Kd.R_celln 0 HO_8.out ((ji15) : Int) p21 q21
                replace p21 := eq_true p21
                replace q21 := eq_true q21
                have HP23 := Kd.R_putn HO_8.out ((ji15) : Int) (Int.tmod (wrap64 ((rd x8_2 (ji15)) + (wrap64 ((wrap64 (a2 - (rd x8_1 x9_1))) * (rd l0 x11_2))))) a2)
                rw [← Ny118.out] at HP23
                have HQ23 := Aside0.mk HP23
                clear HP23
                refine start_ (n := 27) (S := fun w' => w'.cell? ⟨go21, ((ji15)).toNat, none⟩ = some (.int .i64 (rd x8_2 (ji15))) ∧ w'.cell? (ad117.add (x11_2).toNat) = some (.int .i64 (rd l0 x11_2))) (ds := [26]) (bm 27 0) (by kernel_rfl) rfl rfl ⟨hx116_0, ((HB.out.cell (World.block_lt_of_cell? w _ hw117_0)).trans hw117_0)⟩ (fun hHeld => ?_); refine with_tabW codewrightref04_divides.tab11 codewrightref04_divides.bits11 (fun HT_ HW_ => ?_)
                generalize wr.drew = w22 at HO_8 HB GG21 HQ23 hf21_0 hx116_0 hx117_0 hx21_0 hHeld ⊢
                refine pure_ (i := 0) (N := some 38) (v := ?_) (a' := ?_) (bm 27 1) rfl rfl (any_of HT_.out (by kernel_rfl)) (fun _ _ _ h => h) (Or.inl ⟨by rfl, ?_⟩) ?_ ?_;rotate_left;(intro w';go_simp;with_reducible rfl);rotate_left;(simp only [ps_];rfl)
                refine pure_ (i := 1) (N := some 39) (v := ?_) (a' := ?_) (bm 27 3) rfl rfl (any_of HT_.out (by kernel_rfl)) (fun _ _ _ h => h) (Or.inl ⟨by rfl, ?_⟩) ?_ ?_;rotate_left;(intro w';go_simp;with_reducible rfl);rotate_left;(simp only [ps_];rfl)
                refine pure_ (i := 2) (N := some 40) (v := ?_) (a' := ?_) (bm 27 7) rfl rfl (any_of HT_.out (by kernel_rfl)) (fun _ _ _ h => h) (Or.inl ⟨by rfl, ?_⟩) ?_ ?_;rotate_left;(intro w';go_simp;with_reducible rfl);rotate_left;(simp only [ps_];rfl)
                refine pure_ (i := 3) (N := some 41) (v := ?_) (a' := ?_) (bm 27 15) rfl rfl (any_of HT_.out (by kernel_rfl)) (fun _ _ _ h => h) (Or.inl ⟨by rfl, ?_⟩) ?_ ?_;rotate_left;(intro w';go_simp;with_reducible rfl);rotate_left;(simp only [ps_];rfl)
                refine pure_ (i := 4) (N := some 42) (v := ?_) (a' := ?_) (bm 27 31) rfl rfl (any_of HT_.out (by kernel_rfl)) (fun _ _ _ h => h) (Or.inl ⟨by rfl, ?_⟩) ?_ ?_;rotate_left;(intro w';go_simp;with_reducible rfl);rotate_left;(simp only [ps_];rfl)
                refine pure_ (i := 5) (N := some 43) (v := ?_) (a' := ?_) (bm 27 63) rfl rfl (any_of HT_.out (by kernel_rfl)) (fun _ _ _ h => h) (Or.inl ⟨by rfl, ?_⟩) ?_ ?_;rotate_left;(intro w';go_simp;with_reducible rfl);rotate_left;(simp only [ps_];rfl)
                refine pure_ (i := 6) (N := some 44) (v := ?_) (a' := ?_) (bm 27 127) rfl rfl (any_of HT_.out (by kernel_rfl)) (fun _ _ _ h => h) (Or.inl ⟨by rfl, ?_⟩) ?_ ?_;rotate_left;(intro w';go_simp;with_reducible rfl);rotate_left;(simp only [ps_];rfl)
                refine pure_ (i := 7) (N := some 45) (v := ?_) (a' := ?_) (bm 27 255) rfl rfl (any_of HT_.out (by kernel_rfl)) (fun _ _ _ h => h) (Or.inl ⟨by rfl, ?_⟩) ?_ ?_;rotate_left;(intro w';go_simp;with_reducible rfl);rotate_left;(simp only [ps_];rfl)
                refine pure_ (i := 8) (N := some 46) (v := ?_) (a' := ?_) (bm 27 511) rfl rfl (any_of HT_.out (by kernel_rfl)) (fun _ _ _ h => h) (Or.inl ⟨by rfl, ?_⟩) ?_ ?_;rotate_left;(intro w';go_simp;with_reducible rfl);rotate_left;(simp only [ps_];rfl)
                refine pure_ (i := 9) (N := some 47) (v := ?_) (a' := ?_) (bm 27 1023) rfl rfl (any_of HT_.out (by kernel_rfl)) (fun _ _ _ h => h) (Or.inl ⟨by rfl, ?_⟩) ?_ ?_;rotate_left;(intro w';go_simp;with_reducible rfl);rotate_left;(simp only [ps_];rfl)
                refine pure_ (i := 10) (N := some 48) (v := ?_) (a' := ?_) (bm 27 2047) rfl rfl (any_of HT_.out (by kernel_rfl)) (fun _ _ _ h => h) (Or.inl ⟨by rfl, ?_⟩) ?_ ?_;rotate_left;(intro w';go_simp;with_reducible rfl);rotate_left;(simp only [ps_];rfl)
                refine pure_ (i := 11) (N := some 49) (v := ?_) (a' := ?_) (bm 27 4095) rfl rfl (any_of HT_.out (by kernel_rfl)) (fun _ _ _ h => h) (Or.inl ⟨by rfl, ?_⟩) ?_ ?_;rotate_left;(intro w';go_simp;with_reducible rfl);rotate_left;(simp only [ps_];rfl)
                refine pure_ (i := 12) (N := some 50) (v := ?_) (a' := ?_) (bm 27 8191) rfl rfl (any_of HT_.out (by kernel_rfl)) (fun _ _ _ h => h) (Or.inl ⟨by rfl, ?_⟩) ?_ ?_;rotate_left;(intro w';go_simp;with_reducible rfl);rotate_left;(simp only [ps_];rfl)
                refine pure_ (i := 14) (N := some 52) (v := ?_) (a' := ?_) (bm 27 24575) rfl rfl (any_of HT_.out (by kernel_rfl)) (fun _ _ _ h => h) (Or.inl ⟨by rfl, ?_⟩) ?_ ?_;rotate_left;(intro w';go_simp;with_reducible rfl);rotate_left;(simp only [ps_];rfl)
                refine pure_ (i := 15) (N := some 53) (v := ?_) (a' := ?_) (bm 27 57343) rfl rfl (any_of HT_.out (by kernel_rfl)) (fun _ _ _ h => h) (Or.inl ⟨by rfl, ?_⟩) ?_ ?_;rotate_left;(intro w';go_simp;with_reducible rfl);rotate_left;(simp only [ps_];rfl)
                refine pure_ (i := 16) (N := some 54) (v := ?_) (a' := ?_) (bm 27 122879) rfl rfl (any_of HT_.out (by kernel_rfl)) (fun _ _ _ h => h) (Or.inl ⟨by rfl, ?_⟩) ?_ ?_;rotate_left;(intro w';go_simp;with_reducible rfl);rotate_left;(simp only [ps_];rfl)
                refine pure_ (i := 17) (N := some 55) (v := ?_) (a' := ?_) (bm 27 253951) rfl rfl (any_of HT_.out (by kernel_rfl)) (fun _ _ _ h => h) (Or.inl ⟨by rfl, ?_⟩) ?_ ?_;rotate_left;(intro w';go_simp;with_reducible rfl);rotate_left;(simp only [ps_];rfl)
                refine pure_ (i := 18) (N := some 56) (v := ?_) (a' := ?_) (bm 27 516095) rfl rfl (any_of HT_.out (by kernel_rfl)) (fun _ _ _ h => h) (Or.inl ⟨by rfl, ?_⟩) ?_ ?_;rotate_left;(intro w';go_simp;with_reducible rfl);rotate_left;(simp only [ps_];rfl)
                refine pure_ (i := 19) (N := some 57) (v := ?_) (a' := ?_) (bm 27 1040383) rfl rfl (any_of HT_.out (by kernel_rfl)) (fun _ _ _ h => h) (Or.inl ⟨by rfl, ?_⟩) ?_ ?_;rotate_left;(intro w';go_simp;with_reducible rfl);rotate_left;(simp only [ps_];rfl)
                refine pure_ (i := 23) (N := some 61) (v := ?_) (a' := ?_) (bm 27 9428991) rfl rfl (any_of HT_.out (by kernel_rfl)) (fun _ _ _ h => h) (Or.inl ⟨by rfl, ?_⟩) ?_ ?_;rotate_left;(intro w';go_simp;with_reducible rfl);rotate_left;(simp only [ps_];rfl)
                refine take_ (i := 13) (N := some 51) (v := ?_) (a' := ?_) (bm 27 9437183) rfl rfl (take_ofW HT_.out HW_.out (by kernel_rfl)) (fun _ _ _ h => h) (Or.inl ⟨by rfl, ?_⟩) hHeld ?_ ?_;rotate_left;(rintro w' ⟨s0, s1⟩;go_simp;with_reducible rfl);rotate_left;(simp only [ps_];rfl)
                refine take_ (i := 20) (N := some 58) (v := ?_) (a' := ?_) (bm 27 10485759) rfl rfl (take_ofW HT_.out HW_.out (by kernel_rfl)) (fun _ _ _ h => h) (Or.inl ⟨by rfl, ?_⟩) hHeld ?_ ?_;rotate_left;(rintro w' ⟨s0, s1⟩;go_simp;with_reducible rfl);rotate_left;(simp only [ps_];rfl)
                refine pure_ (i := 21) (N := some 59) (v := ?_) (a' := ?_) (bm 27 12582911) rfl rfl (any_of HT_.out (by kernel_rfl)) (fun _ _ _ h => h) (Or.inl ⟨by rfl, ?_⟩) ?_ ?_;rotate_left;(intro w';go_simp;with_reducible rfl);rotate_left;(simp only [ps_];rfl)
                refine pure_ (i := 22) (N := some 60) (v := ?_) (a' := ?_) (bm 27 16777215) rfl rfl (any_of HT_.out (by kernel_rfl)) (fun _ _ _ h => h) (Or.inl ⟨by rfl, ?_⟩) ?_ ?_;rotate_left;(intro w';go_simp;with_reducible rfl);rotate_left;(simp only [ps_];rfl)
                refine pure_ (i := 24) (N := some 62) (v := ?_) (a' := ?_) (bm 27 33554431) rfl rfl (any_of HT_.out (by kernel_rfl)) (fun _ _ _ h => h) (Or.inl ⟨by rfl, ?_⟩) ?_ ?_;rotate_left;(intro w';go_simp;with_reducible rfl);rotate_left;(simp only [ps_];rfl)
                refine pure_ (i := 25) (N := some 63) (v := ?_) (a' := ?_) (bm 27 67108863) rfl rfl (any_of HT_.out (by kernel_rfl)) (fun _ _ _ h => h) (Or.inl ⟨by rfl, ?_⟩) ?_ ?_;rotate_left;(intro w';go_simp;with_reducible rfl);rotate_left;(simp only [ps_];rfl)
                refine last_ (i := 26) (N := none) (bm 27 134217727) rfl rfl (one_of HT_.out (by kernel_rfl)) (by decide) (fun K hK => ?_)
                refine skip_ (w1 := ?_) (by rfl) rfl ?_ ?_
                rotate_left
                ·go_simp
                 rfl
                refine hK.out _ _ ?_
                clear hK K
                refine done_ (done_of HT_.out (by kernel_rfl)) ?_
                (go_wp2)
                ((simp only [← hl8_2]))
                (simp only [add_plain] at *)
                go_roundg k2
                case measure => have := HK1.out; have := HK2.out; omega
                case rel => exact ⟨(y118), (wrap64 (x11_2 + 1)), (by rfl), H', ⟨by have := HK1.out; have := HK2.out; omega⟩, ⟨by (skip); ((simp only [hl8_2])); (with_reducible repeat (fail)); exact HQ23.out⟩, ⟨by repeat ((with_reducible first | (exact HB.out) | (refine below_set ?_ GB21.out)))⟩⟩
              ·rw [if_neg c19] at H
               exact absurd H (by simp)
             ·rw [if_neg c18] at H
              exact absurd H (by simp)
            ·rw [if_neg c17] at H
             exact absurd H (by simp)
           ·rw [if_neg c16] at H
            exact absurd H (by simp)
          ·rw [if_neg c14] at H
           have c14b0 : decide (x11_2 < (l0.length : Int)) = false := decide_eq_false c14
           clear c14
           by_cases c24 : 0 ≤ x9_1
           ·rw [if_pos c24] at H
            have c24b0 : decide (0 ≤ x9_1) = true := decide_eq_true c24
            clear c24
            by_cases c25 : x9_1 < (x8_2.length : Int)
            ·rw [if_pos c25] at H
             have c25b0 : decide (x9_1 < (x8_2.length : Int)) = true := decide_eq_true c25
             clear c25
             obtain ⟨y119, hy119⟩ : ∃ y_ : List Int, y_ = (x8_2.set (x9_1 : Int).toNat 0) := ⟨_, rfl⟩
             replace H : (codewrightref04_divides.l0 k2 l0 a2 (l0.length : Int) y119 (wrap64 (x9_1 - 1))) = some r := by (rw [hy119]; with_reducible exact H)
             have Ny119 := Aside0.mk hy119
             clear hy119
             have H' := Aside0.mk H
             clear H
             have p26 : 0 ≤ (x9_1 : Int) := of_decide_eq_true (by (with_reducible assumption))
             have q26 : (x9_1 : Int) < ((x8_2.length : Int) : Int) := of_decide_eq_true (by (with_reducible assumption))
             obtain ⟨go26, co26, eo26, gb26, gl26, cl26, HG26⟩ := Kd.R_form HO_8.out (by omega)
             ((cases eo26))
             have GB26 := Aside0.mk gb26
             have GG26 := Aside0.mk HG26
             clear gb26 gl26 HG26
             obtain ⟨hx26_0, hf26_0⟩ := Kd.R_celln 0 HO_8.out (x9_1 : Int) p26 q26
             replace p26 := eq_true p26
             replace q26 := eq_true q26
             have HP27 := Kd.R_putg HO_8.out (x9_1 : Int) 0
             go_wp2_with (((with_reducible refine gate_store (t := 3) (p := 66) rfl ?_); refine store_event (t := 3) (p := 66) (v := ?vo_w28) (w1 := (wr.setCell ⟨go26, (x9_1 : Int).toNat, none⟩ (.int .i64 0))) ?hg ?ho ?hn ?hr ?_; (case ho => rfl); (case hg => rfl); (case hn => rfl); (case hr => (go_simp; done)); intro w28 hw; have hg : wr.grownBy w28 (some go26) := (by rw [hw]; exact HP27.2); have hp_ : Kd.R (Kd.int .i64) 3 w28 w.heap.size (fun _ => True) (.slice (some ⟨go26, 0, none⟩) x8_2.length co10) y119 := (by rw [hw, Ny119.out]; exact HP27.1); clear HP27; have n0_ := Aside0.mk (hp_); have n1_ := Aside0.mk ((by rw [hw]; exact below_set (HB.out) GB26.out : Below w.heap.size w w28)); clear HO_8; clear HB; have HO_8 := n0_; have HB := n1_; clear n0_ n1_; clear hg hw hp_))
             ((simp only [← hl8_1, ← hl8_2]))
             (simp only [add_plain] at *)
             go_roundg k2
             case measure => have := HK1.out; have := HK2.out; omega
             case rel => exact ⟨(y119), (wrap64 (x9_1 - 1)), (by rfl), H', ⟨by have := HK1.out; have := HK2.out; omega⟩, ⟨by ((simp only [hl8_1])); ((simp only [hl8_2])); (with_reducible repeat (fail)); exact HO_8.out⟩, ⟨HB.out⟩⟩
            ·rw [if_neg c25] at H
             exact absurd H (by simp)
           ·rw [if_neg c24] at H
            exact absurd H (by simp)
       ·rw [if_neg c13] at H
        exact absurd H (by simp)
      ·rw [if_neg c12] at H
       exact absurd H (by simp)
     ·rw [if_neg c11] at H
      have c11b0 : decide ((l0.length : Int) ≤ x9_1) = false := decide_eq_false c11
      clear c11
      have H' := Aside0.mk H
      clear H
      go_wp2
      go_loopg [12] k1 (fun kq v12 w' => ∃ (x12_2 : Int), v12 = .int .i64 x12_2 ∧ Aside0 (codewrightref04_divides.l2 kq x8_1 x12_2 = some r) ∧ Aside0 (kq ≤ k1) ∧ Aside0 (Kd.R (Kd.int .i64) 3 w' w.heap.size (fun _ => True) (.slice Ao10 x8_1.length co10) x8_1) ∧ Aside0 (Below w.heap.size w w'))
      case atStart => exact ⟨(0), (by rfl), H', ⟨Nat.le_refl _⟩, ⟨by (skip); (with_reducible repeat (fail)); exact HO_8.out⟩, ⟨HB.out⟩⟩
      case round =>
       clear H' c11b0
       obtain ⟨x12_2, rfl, HA, HK2, HO_8, HB⟩ := hrel
       cases gk with
       | zero => exact absurd HA.out (by simp [codewrightref04_divides.l2])
       | succ k2 =>
        have H := HA.out
        clear HA
        simp only [codewrightref04_divides.l2] at H
        by_cases c29 : x12_2 < (x8_1.length : Int)
        ·rw [if_pos c29] at H
         have c29b0 : decide (x12_2 < (x8_1.length : Int)) = true := decide_eq_true c29
         clear c29
         by_cases c30 : 0 ≤ x12_2
         ·rw [if_pos c30] at H
          have c30b0 : decide (0 ≤ x12_2) = true := decide_eq_true c30
          clear c30
          by_cases c31 : (rd x8_1 x12_2) = 0
          ·rw [if_pos c31] at H
           have c31b0 : ((rd x8_1 x12_2) == 0) = true := beq_iff_eq.mpr c31
           have c31b1 : ((rd x8_1 x12_2) != 0) = false := bne_eq_false_iff_eq.mpr c31
           clear c31
           have H' := Aside0.mk H
           clear H
           have p120 : 0 ≤ (x12_2 : Int) := of_decide_eq_true (by (with_reducible assumption))
           have q120 : x12_2 < (x8_1.length : Int) := of_decide_eq_true (by (with_reducible assumption))
           obtain ⟨ad120, e120, hx120_0⟩ := Kd.at_int (Kd.R_reads' HO_8.out).2.2 x12_2 p120 q120
           cases e120
           replace p120 := eq_true p120
           replace q120 := eq_true q120
           go_wp2
           go_roundg k2
           case measure => have := HK1.out; have := HK2.out; omega
           case rel => exact ⟨(wrap64 (x12_2 + 1)), (by rfl), H', ⟨by have := HK1.out; have := HK2.out; omega⟩, ⟨by (skip); (with_reducible repeat (fail)); exact HO_8.out⟩, ⟨HB.out⟩⟩
          ·rw [if_neg c31] at H
           have c31b0 : ((rd x8_1 x12_2) == 0) = false := beq_eq_false_iff_ne.mpr c31
           have c31b1 : ((rd x8_1 x12_2) != 0) = true := bne_iff_ne.mpr c31
           obtain rfl := Option.some.inj H
           have p120 : 0 ≤ (x12_2 : Int) := of_decide_eq_true (by (with_reducible assumption))
           have q120 : x12_2 < (x8_1.length : Int) := of_decide_eq_true (by (with_reducible assumption))
           obtain ⟨ad120, e120, hx120_0⟩ := Kd.at_int (Kd.R_reads' HO_8.out).2.2 x12_2 p120 q120
           cases e120
           replace p120 := eq_true p120
           replace q120 := eq_true q120
           go_wp2
           go_ret
           exact ⟨by rfl, by exact HB.out⟩
         ·rw [if_neg c30] at H
          exact absurd H (by simp)
        ·rw [if_neg c29] at H
         have c29b0 : decide (x12_2 < (x8_1.length : Int)) = false := decide_eq_false c29
         clear c29
         obtain rfl := Option.some.inj H
         go_wp2
         go_ret
         exact ⟨by rfl, by exact HB.out⟩
  ·rw [if_neg c5] at H
   exact absurd H (by simp)
 ·rw [if_neg c4] at H
  exact absurd H (by simp)
mutual
def codewrightref04_irreducible.l0 : Nat → List Int → Int → Int → Int → Option (Bool)
 | 0, _, _, _, _ => none
 | k + 1, x0, x1, x5, x6 => if (wrap64 (2 * x6)) ≤ (x0.length : Int) then (codewrightref04_irreducible.l1 k x0 x1 (wrap64 (x5 * x1)) x6 0) else (some true)
def codewrightref04_irreducible.l1 : Nat → List Int → Int → Int → Int → Int → Option (Bool)
 | 0, _, _, _, _, _ => none
 | k + 1, x0, x1, x5, x6, x7 => if x7 < x5 then ((codewrightref04_digits.f k x7 x1 x6).bind fun t121 => ((codewrightref04_divides.f k t121 x0 x1).bind fun t124 => (if t124 = true then (some false) else (codewrightref04_irreducible.l1 k x0 x1 x5 x6 (wrap64 (x7 + 1)))))) else (codewrightref04_irreducible.l0 k x0 x1 x5 (wrap64 (x6 + 1)))
end
def codewrightref04_irreducible.f (k : Nat) (l0 : List Int) (a1 : Int) : Option (Bool) := codewrightref04_irreducible.l0 k l0 a1 1 1
set_option maxHeartbeats 8000000 in
set_option maxRecDepth 100000 in
theorem codewrightref04_irreducible.calls (k : Nat) (A0 : Option Addr) (c0 : Nat) (l0 : List Int) (a1 : Int) (r : Bool) (w : World) (hr0 : Kd.C (Kd.int .i64) w A0 l0.length l0) (hc0 : l0.length ≤ c0) (h : codewrightref04_irreducible.f k l0 a1 = some r) :
  Calls Try.prog 73 #[.slice A0 l0.length c0, .int .i64 a1] w fun e w' => e = .returned (.bool r) ∧ Below w.heap.size w w' := by
 have HR0 := Aside0.mk hr0
 have HC0 := Aside0.mk hc0
 clear hr0 hc0
 have HB := Aside0.mk (Below.refl w.heap.size w)
 have H : (codewrightref04_irreducible.l0 k l0 a1 1 1) = some r := h
 clear h
 have H' := Aside0.mk H
 clear H
 go_enter Try.func73, Try.ntmps73
 go_wp2
 go_loopg [5, 6] k (fun kq v5 v6 w' => ∃ (x5_1 : Int) (x6_1 : Int), v5 = .int .i64 x5_1 ∧ v6 = .int .i64 x6_1 ∧ Aside0 (codewrightref04_irreducible.l0 kq l0 a1 x5_1 x6_1 = some r) ∧ Aside0 (kq ≤ k) ∧ Aside0 (Below w.heap.size w w'))
 case atStart => exact ⟨(1), (1), (by rfl), (by rfl), H', ⟨Nat.le_refl _⟩, ⟨HB.out⟩⟩
 case round =>
  clear H'
  obtain ⟨x5_1, x6_1, rfl, rfl, HA, HK1, HB⟩ := hrel
  cases gk with
  | zero => exact absurd HA.out (by simp [codewrightref04_irreducible.l0])
  | succ k1 =>
   have H := HA.out
   clear HA
   simp only [codewrightref04_irreducible.l0] at H
   by_cases c3 : (wrap64 (2 * x6_1)) ≤ (l0.length : Int)
   ·rw [if_pos c3] at H
    have c3b0 : decide ((wrap64 (2 * x6_1)) ≤ (l0.length : Int)) = true := decide_eq_true c3
    clear c3
    have H' := Aside0.mk H
    clear H
    go_wp2
    go_loopg [7] k1 (fun kq v7 w' => ∃ (x7_2 : Int), v7 = .int .i64 x7_2 ∧ Aside0 (codewrightref04_irreducible.l1 kq l0 a1 (wrap64 (x5_1 * a1)) x6_1 x7_2 = some r) ∧ Aside0 (kq ≤ k1) ∧ Aside0 (Below w.heap.size w w'))
    case atStart => exact ⟨(0), (by rfl), H', ⟨Nat.le_refl _⟩, ⟨HB.out⟩⟩
    case round =>
     clear H' c3b0
     obtain ⟨x7_2, rfl, HA, HK2, HB⟩ := hrel
     cases gk with
     | zero => exact absurd HA.out (by simp [codewrightref04_irreducible.l1])
     | succ k2 =>
      have H := HA.out
      clear HA
      simp only [codewrightref04_irreducible.l1] at H
      by_cases c4 : x7_2 < (wrap64 (x5_1 * a1))
      ·rw [if_pos c4] at H
       have c4b0 : decide (x7_2 < (wrap64 (x5_1 * a1))) = true := decide_eq_true c4
       clear c4
       obtain ⟨t121, A50, H⟩ := Option.bind_eq_some_iff.mp H
       replace H : ((codewrightref04_divides.f k2 t121 l0 a1).bind fun t124 => (if t124 = true then (some false) else (codewrightref04_irreducible.l1 k2 l0 a1 (wrap64 (x5_1 * a1)) x6_1 (wrap64 (x7_2 + 1))))) = some r := H
       have A5 := Aside0.mk A50
       clear A50
       obtain ⟨t124, A60, H⟩ := Option.bind_eq_some_iff.mp H
       replace H : (if t124 = true then (some false) else (codewrightref04_irreducible.l1 k2 l0 a1 (wrap64 (x5_1 * a1)) x6_1 (wrap64 (x7_2 + 1)))) = some r := H
       have A6 := Aside0.mk A60
       clear A60
       by_cases c7 : t124 = true
       ·subst c7
        have H1 : (some false) = some r := by rw [if_pos rfl] at H; exact H
        clear H
        have H := H1
        clear H1
        obtain rfl := Option.some.inj H
        go_wp2_with (first | ((with_reducible refine gate_callee (f := 91) rfl ?_); refine goesL_ (some 26) rfl rfl Try.func91 (by kernel_rfl) rfl #[.int .i64 x7_2, .int .i64 a1, .int .i64 x6_1] rfl (by ((simp only [List.map_toArray, List.map_cons, List.map_nil])); (rfl)) ?_; (with_reducible refine (codewrightref04_digits.calls k2 x7_2 a1 x6_1 t121 _ A5.out).mono ?_); rintro e w8 ⟨v122, rfl, ho0, hb⟩; refine ⟨_, rfl, ?_⟩; have n0_ := Aside0.mk (Kd.R_lower ho0 (below_size HB.out)); have n1_ := Aside0.mk (below_step HB.out hb); clear HB; have HO123 := n0_; have HB := n1_; clear n0_ n1_; ((clear hb)); (skip); (skip); (skip); ((clear ho0)); obtain ⟨Ao9, co9, eo9⟩ := Kd.R_slice HO123.out; subst eo9) | ((with_reducible refine gate_callee (f := 92) rfl ?_); refine goesL_ (some 29) rfl rfl Try.func92 (by kernel_rfl) rfl #[.slice Ao9 t121.length co9, .slice A0 l0.length c0, .int .i64 a1] rfl (by ((simp only [List.map_toArray, List.map_cons, List.map_nil])); (rfl)) ?_; (with_reducible refine (codewrightref04_divides.calls k2 _ _ t121 _ _ l0 a1 true _ ?side1 ?side2 ?side3 ?side4 A6.out).mono ?_); (case side1 => repeat ((exact (Kd.R_reads' HO123.out).2.2))); (case side2 => exact (Kd.R_reads' HO123.out).2.1); (case side3 => repeat ((exact (Kd.C_below HR0.out HB.out)))); (case side4 => exact HC0.out); rintro e w10 ⟨rfl, hb⟩; refine ⟨_, rfl, ?_⟩; have n0_ := Aside0.mk (Kd.R_below HO123.out hb); have n1_ := Aside0.mk (below_step HB.out hb); clear HO123; clear HB; have HO123 := n0_; have HB := n1_; clear n0_ n1_; ((clear hb)); (skip); (skip); (skip)))
        go_ret
        exact ⟨by rfl, by exact HB.out⟩
       ·replace c7 := Bool.eq_false_iff.mpr c7
        subst c7
        have H1 : (codewrightref04_irreducible.l1 k2 l0 a1 (wrap64 (x5_1 * a1)) x6_1 (wrap64 (x7_2 + 1))) = some r := by rw [if_neg (show ¬ (false = true) by decide)] at H; exact H
        clear H
        have H := H1
        clear H1
        have H' := Aside0.mk H
        clear H
        go_wp2_with (first | ((with_reducible refine gate_callee (f := 91) rfl ?_); refine goesL_ (some 26) rfl rfl Try.func91 (by kernel_rfl) rfl #[.int .i64 x7_2, .int .i64 a1, .int .i64 x6_1] rfl (by ((simp only [List.map_toArray, List.map_cons, List.map_nil])); (rfl)) ?_; (with_reducible refine (codewrightref04_digits.calls k2 x7_2 a1 x6_1 t121 _ A5.out).mono ?_); rintro e w11 ⟨v122, rfl, ho0, hb⟩; refine ⟨_, rfl, ?_⟩; have n0_ := Aside0.mk (Kd.R_lower ho0 (below_size HB.out)); have n1_ := Aside0.mk (below_step HB.out hb); clear HB; have HO123 := n0_; have HB := n1_; clear n0_ n1_; ((clear hb)); (skip); (skip); (skip); ((clear ho0)); obtain ⟨Ao12, co12, eo12⟩ := Kd.R_slice HO123.out; subst eo12) | ((with_reducible refine gate_callee (f := 92) rfl ?_); refine goesL_ (some 29) rfl rfl Try.func92 (by kernel_rfl) rfl #[.slice Ao12 t121.length co12, .slice A0 l0.length c0, .int .i64 a1] rfl (by ((simp only [List.map_toArray, List.map_cons, List.map_nil])); (rfl)) ?_; (with_reducible refine (codewrightref04_divides.calls k2 _ _ t121 _ _ l0 a1 false _ ?side1 ?side2 ?side3 ?side4 A6.out).mono ?_); (case side1 => repeat ((exact (Kd.R_reads' HO123.out).2.2))); (case side2 => exact (Kd.R_reads' HO123.out).2.1); (case side3 => repeat ((exact (Kd.C_below HR0.out HB.out)))); (case side4 => exact HC0.out); rintro e w13 ⟨rfl, hb⟩; refine ⟨_, rfl, ?_⟩; have n0_ := Aside0.mk (Kd.R_below HO123.out hb); have n1_ := Aside0.mk (below_step HB.out hb); clear HO123; clear HB; have HO123 := n0_; have HB := n1_; clear n0_ n1_; ((clear hb)); (skip); (skip); (skip)))
        go_roundg k2
        case measure => have := HK1.out; have := HK2.out; omega
        case rel => exact ⟨(wrap64 (x7_2 + 1)), (by rfl), H', ⟨by have := HK1.out; have := HK2.out; omega⟩, ⟨HB.out⟩⟩
      ·rw [if_neg c4] at H
       have c4b0 : decide (x7_2 < (wrap64 (x5_1 * a1))) = false := decide_eq_false c4
       clear c4
       have H' := Aside0.mk H
       clear H
       go_wp2
       go_roundg k2
       case measure => have := HK1.out; have := HK2.out; omega
       case rel => exact ⟨((wrap64 (x5_1 * a1))), (wrap64 (x6_1 + 1)), (by rfl), (by rfl), H', ⟨by have := HK1.out; have := HK2.out; omega⟩, ⟨HB.out⟩⟩
   ·rw [if_neg c3] at H
    have c3b0 : decide ((wrap64 (2 * x6_1)) ≤ (l0.length : Int)) = false := decide_eq_false c3
    clear c3
    obtain rfl := Option.some.inj H
    go_wp2
    go_ret
    exact ⟨by rfl, by exact HB.out⟩
end Go.Proofs.Ytkdakjlopheefaa.PA
end
section
namespace Go.Proofs.Ytkdakjlopheefaa.PA
open Go.RowKit Go.Proofs.YtkdakjlopheefaaW.PrintWords Go.Proofs.YtkdakjlopheefaaW.PrintLast Go.Proofs.YtkdakjlopheefaaW.PrintMore
attribute [local go_sem] max2_int min2_int max_two min_two max_three min_three max_four min_four
set_option linter.unusedVariables false
set_option linter.unusedSimpArgs false
mutual
def codewrightref04_Check.j0 : Nat → Bool → Int → Int → List Int → Option (Int)
 | 0, _, _, _, _ => none
 | k + 1, x12, x126000, x126001, x126002 => if x12 = true then (some 1) else (if x126001 = 1 then (if (x126002.length : Int) = 0 then (some 0) else (some 1)) else (if (x126002.length : Int) = x126001 then (codewrightref04_Check.l0 k 0 x126000 x126001 x126002) else (some 1)))
def codewrightref04_Check.l0 : Nat → Int → Int → Int → List Int → Option (Int)
 | 0, _, _, _, _ => none
 | k + 1, x3, x126000, x126001, x126002 => if x3 < x126001 then (if 0 ≤ x3 then (if x3 < (x126002.length : Int) then (if (rd x126002 x3) < 0 then (some 1) else (if (rd x126002 x3) ≥ x126000 then (some 1) else (codewrightref04_Check.l0 k (wrap64 (x3 + 1)) x126000 x126001 x126002))) else (none)) else (none)) else ((codewrightref04_irreducible.f k x126002 x126000).bind fun t130 => (if t130 = true then (some 0) else (some 1)))
end
def codewrightref04_Check.f (k : Nat) (a0_0 : Int) (a0_1 : Int) (l0_2 : List Int) : Option (Int) := (codewrightref04_Order.f k a0_0 a0_1 l0_2).bind fun t126 => (if t126 = 0 then (codewrightref04_Check.j0 k true a0_0 a0_1 l0_2) else ((codewrightref04_prime.f k a0_0).bind fun t127 => (codewrightref04_Check.j0 k (!t127) a0_0 a0_1 l0_2)))
set_option maxHeartbeats 8000000 in
set_option maxRecDepth 100000 in
theorem codewrightref04_Check.calls (k : Nat) (a0_0 : Int) (a0_1 : Int) (A0_2 : Option Addr) (c0_2 : Nat) (l0_2 : List Int) (r : Int) (w : World) (hr0_2 : Kd.C (Kd.int .i64) w A0_2 l0_2.length l0_2) (hc0_2 : l0_2.length ≤ c0_2) (h : codewrightref04_Check.f k a0_0 a0_1 l0_2 = some r) :
  Calls Try.prog 40 #[.agg #[.int .i64 a0_0, .int .i64 a0_1, .slice A0_2 l0_2.length c0_2]] w fun e w' => e = .returned (.int .i64 r) ∧ Below w.heap.size w w' := by
 have hu24 := Try.underlying24
 have HR0_2 := Aside0.mk hr0_2
 have HC0_2 := Aside0.mk hc0_2
 clear hr0_2 hc0_2
 have HB := Aside0.mk (Below.refl w.heap.size w)
 have H : ((codewrightref04_Order.f k a0_0 a0_1 l0_2).bind fun t126 => (if t126 = 0 then (codewrightref04_Check.j0 k true a0_0 a0_1 l0_2) else ((codewrightref04_prime.f k a0_0).bind fun t127 => (codewrightref04_Check.j0 k (!t127) a0_0 a0_1 l0_2)))) = some r := h
 clear h
 have HC2 := Aside0.mk H
 clear H
 go_enter Try.func40, Try.ntmps40
 go_upto_region 1 with (((with_reducible refine gate_dst (N := 1) rfl ?_); refine box_event ?hg (N := 1) ?hd (cs := #[.int .i64 a0_0, .int .i64 a0_1, .slice A0_2 l0_2.length c0_2]) (t := 24) ?hr ?_; (case hd => rfl); (case hg => rfl); (case hr => (go_simp; done)); intro gb125 hg w3 hbox hb; have n0_ := Aside0.mk (below_step HB.out hb); have n1_ := Aside0.mk (hbox); have n2_ := Aside0.mk ((by rw [hg]; exact (below_size HB.out) : w.heap.size ≤ gb125)); have n3_ := Aside0.mk ((by rw [hg]; exact (below_size HB.out) : w.heap.size ≤ gb125)); clear HB; have HB := n0_; have BK125 := n1_; have GW125 := n2_; have GE125 := n3_; clear n0_ n1_ n2_ n3_; clear hb hbox hg))
 repeat (go_quiet (first | ((with_reducible refine gate_dst (N := 1) rfl ?_); refine box_event ?hg (N := 1) ?hd (cs := #[.int .i64 a0_0, .int .i64 a0_1, .slice A0_2 l0_2.length c0_2]) (t := 24) ?hr ?_; (case hd => rfl); (case hg => rfl); (case hr => first | (go_simp; done) | (go_simp; rfl)); intro gb125 hg w3 hbox hb; have n0_ := Aside0.mk (below_step (by repeat (first | (with_reducible first | exact HB.out | apply below_alloc | apply pw_below_drewN | apply below_drew1) | exact HB.out)) hb); have n1_ := Aside0.mk (hbox); have n2_ := Aside0.mk ((by rw [hg]; exact (below_size (by repeat (first | (with_reducible first | exact HB.out | apply below_alloc | apply pw_below_drewN | apply below_drew1) | exact HB.out))) : w.heap.size ≤ gb125)); have n3_ := Aside0.mk ((by rw [hg]; exact (below_size (by repeat (first | (with_reducible first | exact HB.out | apply below_alloc | apply pw_below_drewN | apply below_drew1) | exact HB.out))) : w.heap.size ≤ gb125)); clear HB; have HB := n0_; have BK125 := n1_; have GW125 := n2_; have GE125 := n3_; clear n0_ n1_ n2_ n3_; clear hb hbox hg)); go_upto_region 1 with (first | ((with_reducible refine gate_dst (N := 1) rfl ?_); refine box_event ?hg (N := 1) ?hd (cs := #[.int .i64 a0_0, .int .i64 a0_1, .slice A0_2 l0_2.length c0_2]) (t := 24) ?hr ?_; (case hd => rfl); (case hg => rfl); (case hr => first | (go_simp; done) | (go_simp; rfl)); intro gb125 hg w3 hbox hb; have n0_ := Aside0.mk (below_step (by repeat (first | (with_reducible first | exact HB.out | apply below_alloc | apply pw_below_drewN | apply below_drew1) | exact HB.out)) hb); have n1_ := Aside0.mk (hbox); have n2_ := Aside0.mk ((by rw [hg]; exact (below_size (by repeat (first | (with_reducible first | exact HB.out | apply below_alloc | apply pw_below_drewN | apply below_drew1) | exact HB.out))) : w.heap.size ≤ gb125)); have n3_ := Aside0.mk ((by rw [hg]; exact (below_size (by repeat (first | (with_reducible first | exact HB.out | apply below_alloc | apply pw_below_drewN | apply below_drew1) | exact HB.out))) : w.heap.size ≤ gb125)); clear HB; have HB := n0_; have BK125 := n1_; have GW125 := n2_; have GE125 := n3_; clear n0_ n1_ n2_ n3_; clear hb hbox hg)))
 go_cut [12] (fun v12 wc => ∃ (kq : Nat) (x12_1 : Bool), v12 = .bool x12_1 ∧ Aside0 (codewrightref04_Check.j0 kq x12_1 a0_0 a0_1 l0_2 = some r) ∧ Aside0 (kq ≤ k) ∧ Aside0 (wc.heap[gb125]? = some (.cells #[.int .i64 a0_0, .int .i64 a0_1, (.slice A0_2 l0_2.length c0_2)] 24 (0, 0))) ∧ Aside0 (Below w.heap.size w wc))
 case first =>
  have H := HC2.out
  clear HC2
  obtain ⟨t126, A40, H⟩ := Option.bind_eq_some_iff.mp H
  replace H : (if t126 = 0 then (codewrightref04_Check.j0 k true a0_0 a0_1 l0_2) else ((codewrightref04_prime.f k a0_0).bind fun t127 => (codewrightref04_Check.j0 k (!t127) a0_0 a0_1 l0_2))) = some r := H
  have A4 := Aside0.mk A40
  clear A40
  by_cases c5 : t126 = 0
  ·rw [if_pos c5] at H
   have c5b0 : (t126 == 0) = true := beq_iff_eq.mpr c5
   have c5b1 : (t126 != 0) = false := bne_eq_false_iff_eq.mpr c5
   clear c5
   ((skip))
   have H' := Aside0.mk H
   clear H
   have hcz6_0 : w3.cell? ⟨gb125, 0, none⟩ = some (.int .i64 a0_0) := (blk_cell BK125.out 0).trans rfl
   have hcz6_1 : w3.cell? ⟨gb125, 1, none⟩ = some (.int .i64 a0_1) := (blk_cell BK125.out 1).trans rfl
   have hcz6_2 : w3.cell? ⟨gb125, 2, none⟩ = some (.slice A0_2 l0_2.length c0_2) := (blk_cell BK125.out 2).trans rfl
   have hfz6_0 := blk_frozen BK125.out 0
   have hfz6_1 := blk_frozen BK125.out 1
   have hfz6_2 := blk_frozen BK125.out 2
   go_wp2_with ((go_at_call 71; (with_reducible refine (codewrightref04_Order.calls k a0_0 a0_1 _ _ l0_2 t126 _ ?side1 ?side2 A4.out).mono ?_); (case side1 => repeat ((exact (Kd.C_below HR0_2.out HB.out)))); (case side2 => exact HC0_2.out); rintro e w7 ⟨rfl, hb⟩; have n0_ := Aside0.mk (blk_below (g := gb125) (o := .cells #[.int .i64 a0_0, .int .i64 a0_1, .slice A0_2 l0_2.length c0_2] 24 (0, 0)) BK125.out hb); have n1_ := Aside0.mk (below_step HB.out hb); clear BK125; clear HB; have BK125 := n0_; have HB := n1_; clear n0_ n1_; ((clear hb)); (skip); (skip); (skip)))
   repeat (go_quiet (first | (go_at_call 71; (with_reducible refine (codewrightref04_Order.calls k a0_0 a0_1 _ _ l0_2 t126 _ ?side1 ?side2 A4.out).mono ?_); (case side1 => repeat (first | exact (Kd.C_below HR0_2.out HB.out) | (with_reducible refine Kd.C_alloc ?_ _) | (with_reducible refine Kd.C_drewN ?_ _) | (with_reducible refine Kd.C_drew ?_))); (case side2 => exact HC0_2.out); rintro e w7 ⟨rfl, hb⟩; have n0_ := Aside0.mk (blk_below (g := gb125) (o := .cells #[.int .i64 a0_0, .int .i64 a0_1, .slice A0_2 l0_2.length c0_2] 24 (0, 0)) (by (with_reducible repeat (first | refine blk_drewN ?_ _ | refine blk_drew ?_ | refine blk_alloc ?_ _)); exact BK125.out) hb); have n1_ := Aside0.mk (below_step (by repeat (first | (with_reducible first | exact HB.out | apply below_alloc | apply pw_below_drewN | apply below_drew1 | refine below_set ?_ GE125.out) | exact HB.out)) hb); clear BK125; clear HB; have BK125 := n0_; have HB := n1_; clear n0_ n1_; (try clear hb); (try clear hb2); (try clear hk); (try clear hi))); try go_wp2_with (first | (go_at_call 71; (with_reducible refine (codewrightref04_Order.calls k a0_0 a0_1 _ _ l0_2 t126 _ ?side1 ?side2 A4.out).mono ?_); (case side1 => repeat (first | exact (Kd.C_below HR0_2.out HB.out) | (with_reducible refine Kd.C_alloc ?_ _) | (with_reducible refine Kd.C_drewN ?_ _) | (with_reducible refine Kd.C_drew ?_))); (case side2 => exact HC0_2.out); rintro e w7 ⟨rfl, hb⟩; have n0_ := Aside0.mk (blk_below (g := gb125) (o := .cells #[.int .i64 a0_0, .int .i64 a0_1, .slice A0_2 l0_2.length c0_2] 24 (0, 0)) (by (with_reducible repeat (first | refine blk_drewN ?_ _ | refine blk_drew ?_ | refine blk_alloc ?_ _)); exact BK125.out) hb); have n1_ := Aside0.mk (below_step (by repeat (first | (with_reducible first | exact HB.out | apply below_alloc | apply pw_below_drewN | apply below_drew1 | refine below_set ?_ GE125.out) | exact HB.out)) hb); clear BK125; clear HB; have BK125 := n0_; have HB := n1_; clear n0_ n1_; (try clear hb); (try clear hb2); (try clear hk); (try clear hi))))
   go_meet
   case rel => exact ⟨_, (true), (by rfl), H', ⟨by (omega)⟩, ⟨BK125.out⟩, ⟨HB.out⟩⟩
  ·rw [if_neg c5] at H
   have c5b0 : (t126 == 0) = false := beq_eq_false_iff_ne.mpr c5
   have c5b1 : (t126 != 0) = true := bne_iff_ne.mpr c5
   ((skip))
   obtain ⟨t127, A80, H⟩ := Option.bind_eq_some_iff.mp H
   replace H : (codewrightref04_Check.j0 k (!t127) a0_0 a0_1 l0_2) = some r := H
   have A8 := Aside0.mk A80
   clear A80
   have H' := Aside0.mk H
   clear H
   have hcz9_0 : w3.cell? ⟨gb125, 0, none⟩ = some (.int .i64 a0_0) := (blk_cell BK125.out 0).trans rfl
   have hcz9_1 : w3.cell? ⟨gb125, 1, none⟩ = some (.int .i64 a0_1) := (blk_cell BK125.out 1).trans rfl
   have hcz9_2 : w3.cell? ⟨gb125, 2, none⟩ = some (.slice A0_2 l0_2.length c0_2) := (blk_cell BK125.out 2).trans rfl
   have hfz9_0 := blk_frozen BK125.out 0
   have hfz9_1 := blk_frozen BK125.out 1
   have hfz9_2 := blk_frozen BK125.out 2
   go_wp2_with (first | (go_at_call 71; (with_reducible refine (codewrightref04_Order.calls k a0_0 a0_1 _ _ l0_2 t126 _ ?side1 ?side2 A4.out).mono ?_); (case side1 => repeat ((exact (Kd.C_below HR0_2.out HB.out)))); (case side2 => exact HC0_2.out); rintro e w10 ⟨rfl, hb⟩; have n0_ := Aside0.mk (blk_below (g := gb125) (o := .cells #[.int .i64 a0_0, .int .i64 a0_1, .slice A0_2 l0_2.length c0_2] 24 (0, 0)) BK125.out hb); have n1_ := Aside0.mk (below_step HB.out hb); clear BK125; clear HB; have BK125 := n0_; have HB := n1_; clear n0_ n1_; ((clear hb)); (skip); (skip); (skip); have hcz11_0 : w10.cell? ⟨gb125, 0, none⟩ = some (.int .i64 a0_0) := (blk_cell BK125.out 0).trans rfl; have hcz11_1 : w10.cell? ⟨gb125, 1, none⟩ = some (.int .i64 a0_1) := (blk_cell BK125.out 1).trans rfl; have hcz11_2 : w10.cell? ⟨gb125, 2, none⟩ = some (.slice A0_2 l0_2.length c0_2) := (blk_cell BK125.out 2).trans rfl; have hfz11_0 := blk_frozen BK125.out 0; have hfz11_1 := blk_frozen BK125.out 1; have hfz11_2 := blk_frozen BK125.out 2) | (go_at_call 72; (with_reducible refine (codewrightref04_prime.calls k a0_0 t127 _ A8.out).mono ?_); rintro e w' ⟨rfl, ⟨nd, rfl⟩⟩; (skip)))
   repeat (go_quiet (first | (go_at_call 71; (with_reducible refine (codewrightref04_Order.calls k a0_0 a0_1 _ _ l0_2 t126 _ ?side1 ?side2 A4.out).mono ?_); (case side1 => repeat (first | exact (Kd.C_below HR0_2.out HB.out) | (with_reducible refine Kd.C_alloc ?_ _) | (with_reducible refine Kd.C_drewN ?_ _) | (with_reducible refine Kd.C_drew ?_))); (case side2 => exact HC0_2.out); rintro e w10 ⟨rfl, hb⟩; have n0_ := Aside0.mk (blk_below (g := gb125) (o := .cells #[.int .i64 a0_0, .int .i64 a0_1, .slice A0_2 l0_2.length c0_2] 24 (0, 0)) (by (with_reducible repeat (first | refine blk_drewN ?_ _ | refine blk_drew ?_ | refine blk_alloc ?_ _)); exact BK125.out) hb); have n1_ := Aside0.mk (below_step (by repeat (first | (with_reducible first | exact HB.out | apply below_alloc | apply pw_below_drewN | apply below_drew1 | refine below_set ?_ GE125.out) | exact HB.out)) hb); clear BK125; clear HB; have BK125 := n0_; have HB := n1_; clear n0_ n1_; (try clear hb); (try clear hb2); (try clear hk); (try clear hi); have hcz11_0 : w10.cell? ⟨gb125, 0, none⟩ = some (.int .i64 a0_0) := (blk_cell BK125.out 0).trans rfl; have hcz11_1 : w10.cell? ⟨gb125, 1, none⟩ = some (.int .i64 a0_1) := (blk_cell BK125.out 1).trans rfl; have hcz11_2 : w10.cell? ⟨gb125, 2, none⟩ = some (.slice A0_2 l0_2.length c0_2) := (blk_cell BK125.out 2).trans rfl; have hfz11_0 := blk_frozen BK125.out 0; have hfz11_1 := blk_frozen BK125.out 1; have hfz11_2 := blk_frozen BK125.out 2) | (go_at_call 72; (with_reducible refine (codewrightref04_prime.calls k a0_0 t127 _ A8.out).mono ?_); rintro e w' ⟨rfl, ⟨nd, rfl⟩⟩; (try first | exact ⟨rfl, _, World.drewN_drewN _ _ _⟩ | exact ⟨rfl, _, Eq.trans (World.drewN_drewN _ _ _) (congrArg (World.drewN _) (Nat.add_assoc _ _ _))⟩))); try go_wp2_with (first | (go_at_call 71; (with_reducible refine (codewrightref04_Order.calls k a0_0 a0_1 _ _ l0_2 t126 _ ?side1 ?side2 A4.out).mono ?_); (case side1 => repeat (first | exact (Kd.C_below HR0_2.out HB.out) | (with_reducible refine Kd.C_alloc ?_ _) | (with_reducible refine Kd.C_drewN ?_ _) | (with_reducible refine Kd.C_drew ?_))); (case side2 => exact HC0_2.out); rintro e w10 ⟨rfl, hb⟩; have n0_ := Aside0.mk (blk_below (g := gb125) (o := .cells #[.int .i64 a0_0, .int .i64 a0_1, .slice A0_2 l0_2.length c0_2] 24 (0, 0)) (by (with_reducible repeat (first | refine blk_drewN ?_ _ | refine blk_drew ?_ | refine blk_alloc ?_ _)); exact BK125.out) hb); have n1_ := Aside0.mk (below_step (by repeat (first | (with_reducible first | exact HB.out | apply below_alloc | apply pw_below_drewN | apply below_drew1 | refine below_set ?_ GE125.out) | exact HB.out)) hb); clear BK125; clear HB; have BK125 := n0_; have HB := n1_; clear n0_ n1_; (try clear hb); (try clear hb2); (try clear hk); (try clear hi); have hcz11_0 : w10.cell? ⟨gb125, 0, none⟩ = some (.int .i64 a0_0) := (blk_cell BK125.out 0).trans rfl; have hcz11_1 : w10.cell? ⟨gb125, 1, none⟩ = some (.int .i64 a0_1) := (blk_cell BK125.out 1).trans rfl; have hcz11_2 : w10.cell? ⟨gb125, 2, none⟩ = some (.slice A0_2 l0_2.length c0_2) := (blk_cell BK125.out 2).trans rfl; have hfz11_0 := blk_frozen BK125.out 0; have hfz11_1 := blk_frozen BK125.out 1; have hfz11_2 := blk_frozen BK125.out 2) | (go_at_call 72; (with_reducible refine (codewrightref04_prime.calls k a0_0 t127 _ A8.out).mono ?_); rintro e w' ⟨rfl, ⟨nd, rfl⟩⟩; (try first | exact ⟨rfl, _, World.drewN_drewN _ _ _⟩ | exact ⟨rfl, _, Eq.trans (World.drewN_drewN _ _ _) (congrArg (World.drewN _) (Nat.add_assoc _ _ _))⟩))))
   go_meet
   case rel => exact ⟨_, (!t127), (by rfl), H', ⟨by (omega)⟩, ⟨by (with_reducible repeat ((refine blk_drewN ?_ _))); exact BK125.out⟩, ⟨by repeat ((with_reducible first | (exact HB.out) | (apply pw_below_drewN)))⟩⟩
 case rest =>
  clear HC2
  obtain ⟨kq, x12_1, rfl, HA, HJ1, BK125, HB⟩ := hcut
  cases kq with
  | zero => exact absurd HA.out (by simp [codewrightref04_Check.j0])
  | succ kj1 =>
   have H := HA.out
   clear HA
   simp only [codewrightref04_Check.j0] at H
   by_cases c12 : x12_1 = true
   ·subst c12
    have H1 : (some 1) = some r := by rw [if_pos rfl] at H; exact H
    clear H
    have H := H1
    clear H1
    obtain rfl := Option.some.inj H
    go_wp2
    repeat (go_quiet (fail); try go_wp2)
    go_ret
    exact ⟨by rfl, by exact HB.out⟩
   ·replace c12 := Bool.eq_false_iff.mpr c12
    subst c12
    have H1 : (if a0_1 = 1 then (if (l0_2.length : Int) = 0 then (some 0) else (some 1)) else (if (l0_2.length : Int) = a0_1 then (codewrightref04_Check.l0 kj1 0 a0_0 a0_1 l0_2) else (some 1))) = some r := by rw [if_neg (show ¬ (false = true) by decide)] at H; exact H
    clear H
    have H := H1
    clear H1
    by_cases c13 : a0_1 = 1
    ·rw [if_pos c13] at H
     have c13b0 : (a0_1 == 1) = true := beq_iff_eq.mpr c13
     have c13b1 : (a0_1 != 1) = false := bne_eq_false_iff_eq.mpr c13
     clear c13
     by_cases c14 : (l0_2.length : Int) = 0
     ·rw [if_pos c14] at H
      have c14b0 : ((l0_2.length : Int) == 0) = true := beq_iff_eq.mpr c14
      have c14b1 : ((l0_2.length : Int) != 0) = false := bne_eq_false_iff_eq.mpr c14
      clear c14
      obtain rfl := Option.some.inj H
      have hcz15_0 : wc.cell? ⟨gb125, 0, none⟩ = some (.int .i64 a0_0) := (blk_cell BK125.out 0).trans rfl
      have hcz15_1 : wc.cell? ⟨gb125, 1, none⟩ = some (.int .i64 a0_1) := (blk_cell BK125.out 1).trans rfl
      have hcz15_2 : wc.cell? ⟨gb125, 2, none⟩ = some (.slice A0_2 l0_2.length c0_2) := (blk_cell BK125.out 2).trans rfl
      have hfz15_0 := blk_frozen BK125.out 0
      have hfz15_1 := blk_frozen BK125.out 1
      have hfz15_2 := blk_frozen BK125.out 2
      go_wp2
      repeat (go_quiet (fail); try go_wp2)
      go_ret
      exact ⟨by rfl, by exact HB.out⟩
     ·rw [if_neg c14] at H
      have c14b0 : ((l0_2.length : Int) == 0) = false := beq_eq_false_iff_ne.mpr c14
      have c14b1 : ((l0_2.length : Int) != 0) = true := bne_iff_ne.mpr c14
      have c14b2 : ¬ (l0_2 = []) := fun h_ => c14 (by rw [h_]; rfl)
      obtain rfl := Option.some.inj H
      have hcz16_0 : wc.cell? ⟨gb125, 0, none⟩ = some (.int .i64 a0_0) := (blk_cell BK125.out 0).trans rfl
      have hcz16_1 : wc.cell? ⟨gb125, 1, none⟩ = some (.int .i64 a0_1) := (blk_cell BK125.out 1).trans rfl
      have hcz16_2 : wc.cell? ⟨gb125, 2, none⟩ = some (.slice A0_2 l0_2.length c0_2) := (blk_cell BK125.out 2).trans rfl
      have hfz16_0 := blk_frozen BK125.out 0
      have hfz16_1 := blk_frozen BK125.out 1
      have hfz16_2 := blk_frozen BK125.out 2
      go_wp2
      repeat (go_quiet (fail); try go_wp2)
      go_ret
      exact ⟨by rfl, by exact HB.out⟩
    ·rw [if_neg c13] at H
     have c13b0 : (a0_1 == 1) = false := beq_eq_false_iff_ne.mpr c13
     have c13b1 : (a0_1 != 1) = true := bne_iff_ne.mpr c13
     by_cases c17 : (l0_2.length : Int) = a0_1
     ·rw [if_pos c17] at H
      have c17b0 : ((l0_2.length : Int) == a0_1) = true := beq_iff_eq.mpr c17
      have c17b1 : ((l0_2.length : Int) != a0_1) = false := bne_eq_false_iff_eq.mpr c17
      clear c17
      have H' := Aside0.mk H
      clear H
      have hcz18_0 : wc.cell? ⟨gb125, 0, none⟩ = some (.int .i64 a0_0) := (blk_cell BK125.out 0).trans rfl
      have hcz18_1 : wc.cell? ⟨gb125, 1, none⟩ = some (.int .i64 a0_1) := (blk_cell BK125.out 1).trans rfl
      have hcz18_2 : wc.cell? ⟨gb125, 2, none⟩ = some (.slice A0_2 l0_2.length c0_2) := (blk_cell BK125.out 2).trans rfl
      have hfz18_0 := blk_frozen BK125.out 0
      have hfz18_1 := blk_frozen BK125.out 1
      have hfz18_2 := blk_frozen BK125.out 2
      go_wp2
      repeat (go_quiet (fail); try go_wp2)
      go_loopg [3] kj1 (fun kq v3 w' => ∃ (x3_2 : Int), v3 = .int .i64 x3_2 ∧ Aside0 (codewrightref04_Check.l0 kq x3_2 a0_0 a0_1 l0_2 = some r) ∧ Aside0 (kq ≤ kj1) ∧ Aside0 (w'.heap[gb125]? = some (.cells #[.int .i64 a0_0, .int .i64 a0_1, (.slice A0_2 l0_2.length c0_2)] 24 (0, 0))) ∧ Aside0 (Below w.heap.size w w'))
      case atStart => exact ⟨(0), (by rfl), H', ⟨Nat.le_refl _⟩, ⟨BK125.out⟩, ⟨HB.out⟩⟩
      case round =>
       clear H' c13 c13b0 c13b1 c17b0 c17b1 hcz18_0 hcz18_1 hcz18_2 hfz18_0 hfz18_1 hfz18_2
       obtain ⟨x3_2, rfl, HA, HK2, BK125, HB⟩ := hrel
       cases gk with
       | zero => exact absurd HA.out (by simp [codewrightref04_Check.l0])
       | succ k2 =>
        have H := HA.out
        clear HA
        simp only [codewrightref04_Check.l0] at H
        by_cases c19 : x3_2 < a0_1
        ·rw [if_pos c19] at H
         have c19b0 : decide (x3_2 < a0_1) = true := decide_eq_true c19
         clear c19
         by_cases c20 : 0 ≤ x3_2
         ·rw [if_pos c20] at H
          have c20b0 : decide (0 ≤ x3_2) = true := decide_eq_true c20
          clear c20
          by_cases c21 : x3_2 < (l0_2.length : Int)
          ·rw [if_pos c21] at H
           have c21b0 : decide (x3_2 < (l0_2.length : Int)) = true := decide_eq_true c21
           clear c21
           by_cases c22 : (rd l0_2 x3_2) < 0
           ·rw [if_pos c22] at H
            have c22b0 : decide ((rd l0_2 x3_2) < 0) = true := decide_eq_true c22
            clear c22
            obtain rfl := Option.some.inj H
            have hcz23_0 : wr.cell? ⟨gb125, 0, none⟩ = some (.int .i64 a0_0) := (blk_cell BK125.out 0).trans rfl
            have hcz23_1 : wr.cell? ⟨gb125, 1, none⟩ = some (.int .i64 a0_1) := (blk_cell BK125.out 1).trans rfl
            have hcz23_2 : wr.cell? ⟨gb125, 2, none⟩ = some (.slice A0_2 l0_2.length c0_2) := (blk_cell BK125.out 2).trans rfl
            have hfz23_0 := blk_frozen BK125.out 0
            have hfz23_1 := blk_frozen BK125.out 1
            have hfz23_2 := blk_frozen BK125.out 2
            have p128 : 0 ≤ (x3_2 : Int) := of_decide_eq_true (by (with_reducible assumption))
            have q128 : x3_2 < (l0_2.length : Int) := of_decide_eq_true (by (with_reducible assumption))
            obtain ⟨ad128, e128, hx128_0⟩ := Kd.at_int HR0_2.out x3_2 p128 q128
            cases e128
            replace hx128_0 := (HB.out.cell (World.block_lt_of_cell? w _ hx128_0)).trans hx128_0
            replace p128 := eq_true p128
            replace q128 := eq_true q128
            go_wp2
            repeat (go_quiet (fail); (go_wp2))
            go_ret
            exact ⟨by rfl, by repeat ((with_reducible first | (exact HB.out) | (apply pw_below_drewN)))⟩
           ·rw [if_neg c22] at H
            have c22b0 : decide ((rd l0_2 x3_2) < 0) = false := decide_eq_false c22
            clear c22
            by_cases c24 : (rd l0_2 x3_2) ≥ a0_0
            ·rw [if_pos c24] at H
             have c24b0 : decide (a0_0 ≤ (rd l0_2 x3_2)) = true := decide_eq_true c24
             clear c24
             obtain rfl := Option.some.inj H
             have hcz25_0 : wr.cell? ⟨gb125, 0, none⟩ = some (.int .i64 a0_0) := (blk_cell BK125.out 0).trans rfl
             have hcz25_1 : wr.cell? ⟨gb125, 1, none⟩ = some (.int .i64 a0_1) := (blk_cell BK125.out 1).trans rfl
             have hcz25_2 : wr.cell? ⟨gb125, 2, none⟩ = some (.slice A0_2 l0_2.length c0_2) := (blk_cell BK125.out 2).trans rfl
             have hfz25_0 := blk_frozen BK125.out 0
             have hfz25_1 := blk_frozen BK125.out 1
             have hfz25_2 := blk_frozen BK125.out 2
             have p128 : 0 ≤ (x3_2 : Int) := of_decide_eq_true (by (with_reducible assumption))
             have q128 : x3_2 < (l0_2.length : Int) := of_decide_eq_true (by (with_reducible assumption))
             obtain ⟨ad128, e128, hx128_0⟩ := Kd.at_int HR0_2.out x3_2 p128 q128
             cases e128
             replace hx128_0 := (HB.out.cell (World.block_lt_of_cell? w _ hx128_0)).trans hx128_0
             replace p128 := eq_true p128
             replace q128 := eq_true q128
             have p129 : 0 ≤ (x3_2 : Int) := of_decide_eq_true (by (with_reducible assumption))
             have q129 : x3_2 < (l0_2.length : Int) := of_decide_eq_true (by (with_reducible assumption))
             obtain ⟨ad129, e129, hx129_0⟩ := Kd.at_int HR0_2.out x3_2 p129 q129
             obtain rfl : ad128 = ad129 := (by injection e129)
             replace hx129_0 := (HB.out.cell (World.block_lt_of_cell? w _ hx129_0)).trans hx129_0
             replace p129 := eq_true p129
             replace q129 := eq_true q129
             go_wp2
             repeat (go_quiet (fail); (go_wp2))
             go_ret
             exact ⟨by rfl, by repeat ((with_reducible first | (exact HB.out) | (apply pw_below_drewN)))⟩
            ·rw [if_neg c24] at H
             have c24b0 : decide (a0_0 ≤ (rd l0_2 x3_2)) = false := decide_eq_false c24
             clear c24
             have H' := Aside0.mk H
             clear H
             have hcz26_0 : wr.cell? ⟨gb125, 0, none⟩ = some (.int .i64 a0_0) := (blk_cell BK125.out 0).trans rfl
             have hcz26_1 : wr.cell? ⟨gb125, 1, none⟩ = some (.int .i64 a0_1) := (blk_cell BK125.out 1).trans rfl
             have hcz26_2 : wr.cell? ⟨gb125, 2, none⟩ = some (.slice A0_2 l0_2.length c0_2) := (blk_cell BK125.out 2).trans rfl
             have hfz26_0 := blk_frozen BK125.out 0
             have hfz26_1 := blk_frozen BK125.out 1
             have hfz26_2 := blk_frozen BK125.out 2
             have p128 : 0 ≤ (x3_2 : Int) := of_decide_eq_true (by (with_reducible assumption))
             have q128 : x3_2 < (l0_2.length : Int) := of_decide_eq_true (by (with_reducible assumption))
             obtain ⟨ad128, e128, hx128_0⟩ := Kd.at_int HR0_2.out x3_2 p128 q128
             cases e128
             replace hx128_0 := (HB.out.cell (World.block_lt_of_cell? w _ hx128_0)).trans hx128_0
             replace p128 := eq_true p128
             replace q128 := eq_true q128
             have p129 : 0 ≤ (x3_2 : Int) := of_decide_eq_true (by (with_reducible assumption))
             have q129 : x3_2 < (l0_2.length : Int) := of_decide_eq_true (by (with_reducible assumption))
             obtain ⟨ad129, e129, hx129_0⟩ := Kd.at_int HR0_2.out x3_2 p129 q129
             obtain rfl : ad128 = ad129 := (by injection e129)
             replace hx129_0 := (HB.out.cell (World.block_lt_of_cell? w _ hx129_0)).trans hx129_0
             replace p129 := eq_true p129
             replace q129 := eq_true q129
             go_wp2
             repeat (go_quiet (fail); (go_wp2))
             go_roundg k2
             case measure => have := HJ1.out; have := HK2.out; omega
             case rel => exact ⟨(wrap64 (x3_2 + 1)), (by rfl), H', ⟨by have := HJ1.out; have := HK2.out; omega⟩, ⟨by (with_reducible repeat ((refine blk_drewN ?_ _))); exact BK125.out⟩, ⟨by repeat ((with_reducible first | (exact HB.out) | (apply pw_below_drewN)))⟩⟩
          ·rw [if_neg c21] at H
           exact absurd H (by simp)
         ·rw [if_neg c20] at H
          exact absurd H (by simp)
        ·rw [if_neg c19] at H
         have c19b0 : decide (x3_2 < a0_1) = false := decide_eq_false c19
         clear c19
         obtain ⟨t130, A270, H⟩ := Option.bind_eq_some_iff.mp H
         replace H : (if t130 = true then (some 0) else (some 1)) = some r := H
         have A27 := Aside0.mk A270
         clear A270
         by_cases c28 : t130 = true
         ·subst c28
          have H1 : (some 0) = some r := by rw [if_pos rfl] at H; exact H
          clear H
          have H := H1
          clear H1
          obtain rfl := Option.some.inj H
          have hcz29_0 : wr.cell? ⟨gb125, 0, none⟩ = some (.int .i64 a0_0) := (blk_cell BK125.out 0).trans rfl
          have hcz29_1 : wr.cell? ⟨gb125, 1, none⟩ = some (.int .i64 a0_1) := (blk_cell BK125.out 1).trans rfl
          have hcz29_2 : wr.cell? ⟨gb125, 2, none⟩ = some (.slice A0_2 l0_2.length c0_2) := (blk_cell BK125.out 2).trans rfl
          have hfz29_0 := blk_frozen BK125.out 0
          have hfz29_1 := blk_frozen BK125.out 1
          have hfz29_2 := blk_frozen BK125.out 2
          go_wp2_with ((go_at_call 73; (with_reducible refine (codewrightref04_irreducible.calls k2 _ _ l0_2 a0_0 true _ ?side1 ?side2 A27.out).mono ?_); (case side1 => repeat ((exact (Kd.C_below HR0_2.out HB.out)))); (case side2 => exact HC0_2.out); rintro e w30 ⟨rfl, hb⟩; have n0_ := Aside0.mk (blk_below (g := gb125) (o := .cells #[.int .i64 a0_0, .int .i64 a0_1, .slice A0_2 l0_2.length c0_2] 24 (0, 0)) BK125.out hb); have n1_ := Aside0.mk (below_step HB.out hb); clear BK125; clear HB; have BK125 := n0_; have HB := n1_; clear n0_ n1_; ((clear hb)); (skip); (skip); (skip)))
          repeat (go_quiet (first | (go_at_call 73; (with_reducible refine (codewrightref04_irreducible.calls k2 _ _ l0_2 a0_0 true _ ?side1 ?side2 A27.out).mono ?_); (case side1 => repeat (first | exact (Kd.C_below HR0_2.out HB.out) | (with_reducible refine Kd.C_alloc ?_ _) | (with_reducible refine Kd.C_drewN ?_ _) | (with_reducible refine Kd.C_drew ?_))); (case side2 => exact HC0_2.out); rintro e w30 ⟨rfl, hb⟩; have n0_ := Aside0.mk (blk_below (g := gb125) (o := .cells #[.int .i64 a0_0, .int .i64 a0_1, .slice A0_2 l0_2.length c0_2] 24 (0, 0)) (by (with_reducible repeat (first | refine blk_drewN ?_ _ | refine blk_drew ?_ | refine blk_alloc ?_ _)); exact BK125.out) hb); have n1_ := Aside0.mk (below_step (by repeat (first | (with_reducible first | exact HB.out | apply below_alloc | apply pw_below_drewN | apply below_drew1 | refine below_set ?_ GE125.out) | exact HB.out)) hb); clear BK125; clear HB; have BK125 := n0_; have HB := n1_; clear n0_ n1_; (try clear hb); (try clear hb2); (try clear hk); (try clear hi))); try go_wp2_with (first | (go_at_call 73; (with_reducible refine (codewrightref04_irreducible.calls k2 _ _ l0_2 a0_0 true _ ?side1 ?side2 A27.out).mono ?_); (case side1 => repeat (first | exact (Kd.C_below HR0_2.out HB.out) | (with_reducible refine Kd.C_alloc ?_ _) | (with_reducible refine Kd.C_drewN ?_ _) | (with_reducible refine Kd.C_drew ?_))); (case side2 => exact HC0_2.out); rintro e w30 ⟨rfl, hb⟩; have n0_ := Aside0.mk (blk_below (g := gb125) (o := .cells #[.int .i64 a0_0, .int .i64 a0_1, .slice A0_2 l0_2.length c0_2] 24 (0, 0)) (by (with_reducible repeat (first | refine blk_drewN ?_ _ | refine blk_drew ?_ | refine blk_alloc ?_ _)); exact BK125.out) hb); have n1_ := Aside0.mk (below_step (by repeat (first | (with_reducible first | exact HB.out | apply below_alloc | apply pw_below_drewN | apply below_drew1 | refine below_set ?_ GE125.out) | exact HB.out)) hb); clear BK125; clear HB; have BK125 := n0_; have HB := n1_; clear n0_ n1_; (try clear hb); (try clear hb2); (try clear hk); (try clear hi))))
          go_ret
          exact ⟨by rfl, by exact HB.out⟩
         ·replace c28 := Bool.eq_false_iff.mpr c28
          subst c28
          have H1 : (some 1) = some r := by rw [if_neg (show ¬ (false = true) by decide)] at H; exact H
          clear H
          have H := H1
          clear H1
          obtain rfl := Option.some.inj H
          have hcz31_0 : wr.cell? ⟨gb125, 0, none⟩ = some (.int .i64 a0_0) := (blk_cell BK125.out 0).trans rfl
          have hcz31_1 : wr.cell? ⟨gb125, 1, none⟩ = some (.int .i64 a0_1) := (blk_cell BK125.out 1).trans rfl
          have hcz31_2 : wr.cell? ⟨gb125, 2, none⟩ = some (.slice A0_2 l0_2.length c0_2) := (blk_cell BK125.out 2).trans rfl
          have hfz31_0 := blk_frozen BK125.out 0
          have hfz31_1 := blk_frozen BK125.out 1
          have hfz31_2 := blk_frozen BK125.out 2
          go_wp2_with ((go_at_call 73; (with_reducible refine (codewrightref04_irreducible.calls k2 _ _ l0_2 a0_0 false _ ?side1 ?side2 A27.out).mono ?_); (case side1 => repeat ((exact (Kd.C_below HR0_2.out HB.out)))); (case side2 => exact HC0_2.out); rintro e w32 ⟨rfl, hb⟩; have n0_ := Aside0.mk (blk_below (g := gb125) (o := .cells #[.int .i64 a0_0, .int .i64 a0_1, .slice A0_2 l0_2.length c0_2] 24 (0, 0)) BK125.out hb); have n1_ := Aside0.mk (below_step HB.out hb); clear BK125; clear HB; have BK125 := n0_; have HB := n1_; clear n0_ n1_; ((clear hb)); (skip); (skip); (skip)))
          repeat (go_quiet (first | (go_at_call 73; (with_reducible refine (codewrightref04_irreducible.calls k2 _ _ l0_2 a0_0 false _ ?side1 ?side2 A27.out).mono ?_); (case side1 => repeat (first | exact (Kd.C_below HR0_2.out HB.out) | (with_reducible refine Kd.C_alloc ?_ _) | (with_reducible refine Kd.C_drewN ?_ _) | (with_reducible refine Kd.C_drew ?_))); (case side2 => exact HC0_2.out); rintro e w32 ⟨rfl, hb⟩; have n0_ := Aside0.mk (blk_below (g := gb125) (o := .cells #[.int .i64 a0_0, .int .i64 a0_1, .slice A0_2 l0_2.length c0_2] 24 (0, 0)) (by (with_reducible repeat (first | refine blk_drewN ?_ _ | refine blk_drew ?_ | refine blk_alloc ?_ _)); exact BK125.out) hb); have n1_ := Aside0.mk (below_step (by repeat (first | (with_reducible first | exact HB.out | apply below_alloc | apply pw_below_drewN | apply below_drew1 | refine below_set ?_ GE125.out) | exact HB.out)) hb); clear BK125; clear HB; have BK125 := n0_; have HB := n1_; clear n0_ n1_; (try clear hb); (try clear hb2); (try clear hk); (try clear hi))); try go_wp2_with (first | (go_at_call 73; (with_reducible refine (codewrightref04_irreducible.calls k2 _ _ l0_2 a0_0 false _ ?side1 ?side2 A27.out).mono ?_); (case side1 => repeat (first | exact (Kd.C_below HR0_2.out HB.out) | (with_reducible refine Kd.C_alloc ?_ _) | (with_reducible refine Kd.C_drewN ?_ _) | (with_reducible refine Kd.C_drew ?_))); (case side2 => exact HC0_2.out); rintro e w32 ⟨rfl, hb⟩; have n0_ := Aside0.mk (blk_below (g := gb125) (o := .cells #[.int .i64 a0_0, .int .i64 a0_1, .slice A0_2 l0_2.length c0_2] 24 (0, 0)) (by (with_reducible repeat (first | refine blk_drewN ?_ _ | refine blk_drew ?_ | refine blk_alloc ?_ _)); exact BK125.out) hb); have n1_ := Aside0.mk (below_step (by repeat (first | (with_reducible first | exact HB.out | apply below_alloc | apply pw_below_drewN | apply below_drew1 | refine below_set ?_ GE125.out) | exact HB.out)) hb); clear BK125; clear HB; have BK125 := n0_; have HB := n1_; clear n0_ n1_; (try clear hb); (try clear hb2); (try clear hk); (try clear hi))))
          go_ret
          exact ⟨by rfl, by exact HB.out⟩
     ·rw [if_neg c17] at H
      have c17b0 : ((l0_2.length : Int) == a0_1) = false := beq_eq_false_iff_ne.mpr c17
      have c17b1 : ((l0_2.length : Int) != a0_1) = true := bne_iff_ne.mpr c17
      obtain rfl := Option.some.inj H
      have hcz33_0 : wc.cell? ⟨gb125, 0, none⟩ = some (.int .i64 a0_0) := (blk_cell BK125.out 0).trans rfl
      have hcz33_1 : wc.cell? ⟨gb125, 1, none⟩ = some (.int .i64 a0_1) := (blk_cell BK125.out 1).trans rfl
      have hcz33_2 : wc.cell? ⟨gb125, 2, none⟩ = some (.slice A0_2 l0_2.length c0_2) := (blk_cell BK125.out 2).trans rfl
      have hfz33_0 := blk_frozen BK125.out 0
      have hfz33_1 := blk_frozen BK125.out 1
      have hfz33_2 := blk_frozen BK125.out 2
      go_wp2
      repeat (go_quiet (fail); try go_wp2)
      go_ret
      exact ⟨by rfl, by exact HB.out⟩
mutual
def field_order.j0 : Nat → Int → Int → Bool → Option (Int)
 | 0, _, _, _ => none
 | k + 1, x0, x1, x19 => if x19 = true then (some 0) else (field_order.l0 k x0 1 x1 0)
def field_order.l0 : Nat → Int → Int → Int → Int → Option (Int)
 | 0, _, _, _, _ => none
 | k + 1, x0, x5, x20, x21 => if x21 < x20 then (if (wrap64 (x5 * x0)) > 256 then (some 0) else (field_order.l0 k x0 (wrap64 (x5 * x0)) x20 (wrap64 (x21 + 1)))) else (some x5)
end
def field_order.f (k : Nat) (a0 : Int) (a1 : Int) : Option (Int) := if a0 < 2 then (field_order.j0 k a0 a1 true) else (if a0 > 256 then (field_order.j0 k a0 a1 true) else (if a1 < 1 then (field_order.j0 k a0 a1 true) else (field_order.j0 k a0 a1 (decide (a1 > 8)))))
set_option maxHeartbeats 8000000 in
set_option maxRecDepth 100000 in
theorem field_order.calls (k : Nat) (a0 : Int) (a1 : Int) (r : Int) (w : World) (h : field_order.f k a0 a1 = some r) :
  Calls Try.prog 75 #[.int .i64 a0, .int .i64 a1] w fun e w' => e = .returned (.int .i64 r) ∧ Drawn0 w w' := by
 have H : (if a0 < 2 then (field_order.j0 k a0 a1 true) else (if a0 > 256 then (field_order.j0 k a0 a1 true) else (if a1 < 1 then (field_order.j0 k a0 a1 true) else (field_order.j0 k a0 a1 (decide (a1 > 8)))))) = some r := h
 clear h
 have HC3 := Aside0.mk H
 clear H
 go_enter Try.func75, Try.ntmps75
 go_upto_region 1 with (fail)
 go_cut [19] (fun v19 wc => ∃ (kq : Nat) (x19_2 : Bool), v19 = .bool x19_2 ∧ Aside0 (field_order.j0 kq a0 a1 x19_2 = some r) ∧ Aside0 (kq ≤ k) ∧ Drawn0 w wc)
 case first =>
  have H := HC3.out
  clear HC3
  by_cases c4 : a0 < 2
  ·rw [if_pos c4] at H
   have c4b0 : decide (a0 < 2) = true := decide_eq_true c4
   clear c4
   ((skip))
   have H' := Aside0.mk H
   clear H
   go_wp2
   go_meet
   case rel => exact ⟨_, (true), (by rfl), H', ⟨by (omega)⟩, by repeat ((exact Drawn0.refl _))⟩
  ·rw [if_neg c4] at H
   have c4b0 : decide (a0 < 2) = false := decide_eq_false c4
   clear c4
   ((skip))
   by_cases c5 : a0 > 256
   ·rw [if_pos c5] at H
    have c5b0 : decide (256 < a0) = true := decide_eq_true c5
    clear c5
    have H' := Aside0.mk H
    clear H
    go_wp2
    go_meet
    case rel => exact ⟨_, (true), (by rfl), H', ⟨by (omega)⟩, by repeat ((exact Drawn0.refl _))⟩
   ·rw [if_neg c5] at H
    have c5b0 : decide (256 < a0) = false := decide_eq_false c5
    clear c5
    by_cases c6 : a1 < 1
    ·rw [if_pos c6] at H
     have c6b0 : decide (a1 < 1) = true := decide_eq_true c6
     clear c6
     have H' := Aside0.mk H
     clear H
     go_wp2
     go_meet
     case rel => exact ⟨_, (true), (by rfl), H', ⟨by (omega)⟩, by repeat ((exact Drawn0.refl _))⟩
    ·rw [if_neg c6] at H
     have c6b0 : decide (a1 < 1) = false := decide_eq_false c6
     clear c6
     have H' := Aside0.mk H
     clear H
     go_wp2
     go_meet
     case rel => exact ⟨_, (decide (a1 > 8)), (by rfl), H', ⟨by (omega)⟩, by repeat ((exact Drawn0.refl _))⟩
 case rest =>
  clear HC3
  obtain ⟨kq, x19_2, rfl, HA, HJ2, ⟨mc2, rfl⟩⟩ := hcut
  cases kq with
  | zero => exact absurd HA.out (by simp [field_order.j0])
  | succ kj2 =>
   have H := HA.out
   clear HA
   simp only [field_order.j0] at H
   by_cases c7 : x19_2 = true
   ·subst c7
    have H1 : (some 0) = some r := by rw [if_pos rfl] at H; exact H
    clear H
    have H := H1
    clear H1
    obtain rfl := Option.some.inj H
    go_wp2
    go_ret
    exact ⟨by rfl, by repeat (first | (exact Drawn0.refl _) | (apply Drawn0.step))⟩
   ·replace c7 := Bool.eq_false_iff.mpr c7
    subst c7
    have H1 : (field_order.l0 kj2 a0 1 a1 0) = some r := by rw [if_neg (show ¬ (false = true) by decide)] at H; exact H
    clear H
    have H := H1
    clear H1
    have H' := Aside0.mk H
    clear H
    go_wp2
    go_loopg [5, 21] kj2 (fun kq v5 v21 w' => ∃ (x5_2 : Int) (x21_2 : Int), v5 = .int .i64 x5_2 ∧ v21 = .int .i64 x21_2 ∧ Aside0 (field_order.l0 kq a0 x5_2 a1 x21_2 = some r) ∧ Aside0 (kq ≤ kj2) ∧ Drawn0 w w')
    case atStart => exact ⟨(1), (0), (by rfl), (by rfl), H', ⟨Nat.le_refl _⟩, by repeat (first | (exact Drawn0.refl _) | (apply Drawn0.step))⟩
    case round =>
     clear H'
     obtain ⟨x5_2, x21_2, rfl, rfl, HA, HK2, ⟨m2, rfl⟩⟩ := hrel
     cases gk with
     | zero => exact absurd HA.out (by simp [field_order.l0])
     | succ k2 =>
      have H := HA.out
      clear HA
      simp only [field_order.l0] at H
      by_cases c8 : x21_2 < a1
      ·rw [if_pos c8] at H
       have c8b0 : decide (x21_2 < a1) = true := decide_eq_true c8
       clear c8
       by_cases c9 : (wrap64 (x5_2 * a0)) > 256
       ·rw [if_pos c9] at H
        have c9b0 : decide (256 < (wrap64 (x5_2 * a0))) = true := decide_eq_true c9
        clear c9
        obtain rfl := Option.some.inj H
        go_wp2
        go_ret
        exact ⟨by rfl, by repeat (first | (exact Drawn0.refl _) | (apply Drawn0.step))⟩
       ·rw [if_neg c9] at H
        have c9b0 : decide (256 < (wrap64 (x5_2 * a0))) = false := decide_eq_false c9
        clear c9
        have H' := Aside0.mk H
        clear H
        go_wp2
        go_roundg k2
        case measure => have := HJ2.out; have := HK2.out; omega
        case rel => exact ⟨(wrap64 (x5_2 * a0)), (wrap64 (x21_2 + 1)), (by rfl), (by rfl), H', ⟨by have := HJ2.out; have := HK2.out; omega⟩, by repeat (first | (exact Drawn0.refl _) | (apply Drawn0.step))⟩
      ·rw [if_neg c8] at H
       have c8b0 : decide (x21_2 < a1) = false := decide_eq_false c8
       clear c8
       obtain rfl := Option.some.inj H
       go_wp2
       go_ret
       exact ⟨by rfl, by repeat (first | (exact Drawn0.refl _) | (apply Drawn0.step))⟩
def field_isPrime.l0 : Nat → Int → Int → Option (Bool)
 | 0, _, _ => none
 | k + 1, x0, x3 => if (wrap64 (x3 * x3)) ≤ x0 then (if x3 = 0 then (none) else (if (Int.tmod x0 x3) = 0 then (some false) else (field_isPrime.l0 k x0 (wrap64 (x3 + 1))))) else (some (decide (x0 ≥ 2)))
def field_isPrime.f (k : Nat) (a0 : Int) : Option (Bool) := field_isPrime.l0 k a0 2
set_option maxHeartbeats 8000000 in
set_option maxRecDepth 100000 in
theorem field_isPrime.calls (k : Nat) (a0 : Int) (r : Bool) (w : World) (h : field_isPrime.f k a0 = some r) :
  Calls Try.prog 93 #[.int .i64 a0] w fun e w' => e = .returned (.bool r) ∧ Drawn0 w w' := by
 have H : (field_isPrime.l0 k a0 2) = some r := h
 clear h
 have H' := Aside0.mk H
 clear H
 go_enter Try.func93, Try.ntmps93
 go_wp2
 go_loopg [3] k (fun kq v3 w' => ∃ (x3_1 : Int), v3 = .int .i64 x3_1 ∧ Aside0 (field_isPrime.l0 kq a0 x3_1 = some r) ∧ Aside0 (kq ≤ k) ∧ Drawn0 w w')
 case atStart => exact ⟨(2), (by rfl), H', ⟨Nat.le_refl _⟩, by repeat ((exact Drawn0.refl _))⟩
 case round =>
  clear H'
  obtain ⟨x3_1, rfl, HA, HK1, ⟨m1, rfl⟩⟩ := hrel
  cases gk with
  | zero => exact absurd HA.out (by simp [field_isPrime.l0])
  | succ k1 =>
   have H := HA.out
   clear HA
   simp only [field_isPrime.l0] at H
   by_cases c2 : (wrap64 (x3_1 * x3_1)) ≤ a0
   ·rw [if_pos c2] at H
    have c2b0 : decide ((wrap64 (x3_1 * x3_1)) ≤ a0) = true := decide_eq_true c2
    clear c2
    by_cases c3 : x3_1 = 0
    ·rw [if_pos c3] at H
     exact absurd H (by simp)
    ·rw [if_neg c3] at H
     have c3b0 : (x3_1 == 0) = false := beq_eq_false_iff_ne.mpr c3
     have c3b1 : (x3_1 != 0) = true := bne_iff_ne.mpr c3
     by_cases c4 : (Int.tmod a0 x3_1) = 0
     ·rw [if_pos c4] at H
      have c4b0 : ((Int.tmod a0 x3_1) == 0) = true := beq_iff_eq.mpr c4
      have c4b1 : ((Int.tmod a0 x3_1) != 0) = false := bne_eq_false_iff_eq.mpr c4
      clear c4
      obtain rfl := Option.some.inj H
      go_wp2
      go_ret
      exact ⟨by rfl, by repeat (first | (exact Drawn0.refl _) | (apply Drawn0.step))⟩
     ·rw [if_neg c4] at H
      have c4b0 : ((Int.tmod a0 x3_1) == 0) = false := beq_eq_false_iff_ne.mpr c4
      have c4b1 : ((Int.tmod a0 x3_1) != 0) = true := bne_iff_ne.mpr c4
      have H' := Aside0.mk H
      clear H
      go_wp2
      go_roundg k1
      case measure => have := HK1.out; omega
      case rel => exact ⟨(wrap64 (x3_1 + 1)), (by rfl), H', ⟨by have := HK1.out; omega⟩, by repeat (first | (exact Drawn0.refl _) | (apply Drawn0.step))⟩
   ·rw [if_neg c2] at H
    have c2b0 : decide ((wrap64 (x3_1 * x3_1)) ≤ a0) = false := decide_eq_false c2
    clear c2
    obtain rfl := Option.some.inj H
    go_wp2
    go_ret
    exact ⟨by rfl, by repeat (first | (exact Drawn0.refl _) | (apply Drawn0.step))⟩
end Go.Proofs.Ytkdakjlopheefaa.PA
end
section
namespace Go.Proofs.Ytkdakjlopheefaa.PA
open Go.RowKit Go.Proofs.YtkdakjlopheefaaW.PrintWords Go.Proofs.YtkdakjlopheefaaW.PrintLast Go.Proofs.YtkdakjlopheefaaW.PrintMore
attribute [local go_sem] max2_int min2_int max_two min_two max_three min_three max_four min_four
set_option linter.unusedVariables false
set_option linter.unusedSimpArgs false
mutual
def field_shape.j0 : Nat → Bool → Int → Int → List Int → Option (Bool)
 | 0, _, _, _, _ => none
 | k + 1, x16, x132000, x132001, x132002 => if x16 = true then (some false) else (if x132001 = 1 then (some ((x132002.length : Int) == 0)) else (if (x132002.length : Int) = x132001 then (field_shape.l0 k x132002 (x132002.length : Int) 0 x132000 x132001 x132002) else (some false)))
def field_shape.l0 : Nat → List Int → Int → Int → Int → Int → List Int → Option (Bool)
 | 0, _, _, _, _, _, _ => none
 | k + 1, x31, x32, x33, x132000, x132001, x132002 => if x33 < x32 then (if 0 ≤ x33 then (if x33 < (x31.length : Int) then (if (rd x31 x33) < 0 then (some false) else (if (rd x31 x33) ≥ x132000 then (some false) else (field_shape.l0 k x31 x32 (wrap64 (x33 + 1)) x132000 x132001 x132002))) else (none)) else (none)) else (some true)
end
def field_shape.f (k : Nat) (a0_0 : Int) (a0_1 : Int) (l0_2 : List Int) : Option (Bool) := (field_order.f k a0_0 a0_1).bind fun t132 => (if t132 = 0 then (field_shape.j0 k true a0_0 a0_1 l0_2) else ((field_isPrime.f k a0_0).bind fun t133 => (field_shape.j0 k (!t133) a0_0 a0_1 l0_2)))
set_option maxHeartbeats 8000000 in
set_option maxRecDepth 100000 in
theorem field_shape.calls (k : Nat) (a0_0 : Int) (a0_1 : Int) (A0_2 : Option Addr) (c0_2 : Nat) (l0_2 : List Int) (r : Bool) (w : World) (hr0_2 : Kd.C (Kd.int .i64) w A0_2 l0_2.length l0_2) (hc0_2 : l0_2.length ≤ c0_2) (h : field_shape.f k a0_0 a0_1 l0_2 = some r) :
  Calls Try.prog 74 #[.agg #[.int .i64 a0_0, .int .i64 a0_1, .slice A0_2 l0_2.length c0_2]] w fun e w' => e = .returned (.bool r) ∧ Below w.heap.size w w' := by
 have hu24 := Try.underlying24
 have HR0_2 := Aside0.mk hr0_2
 have HC0_2 := Aside0.mk hc0_2
 clear hr0_2 hc0_2
 have HB := Aside0.mk (Below.refl w.heap.size w)
 have H : ((field_order.f k a0_0 a0_1).bind fun t132 => (if t132 = 0 then (field_shape.j0 k true a0_0 a0_1 l0_2) else ((field_isPrime.f k a0_0).bind fun t133 => (field_shape.j0 k (!t133) a0_0 a0_1 l0_2)))) = some r := h
 clear h
 have HC2 := Aside0.mk H
 clear H
 go_enter Try.func74, Try.ntmps74
 go_upto_region 1 with (((with_reducible refine gate_dst (N := 1) rfl ?_); refine box_event ?hg (N := 1) ?hd (cs := #[.int .i64 a0_0, .int .i64 a0_1, .slice A0_2 l0_2.length c0_2]) (t := 24) ?hr ?_; (case hd => rfl); (case hg => rfl); (case hr => (go_simp; done)); intro gb131 hg w3 hbox hb; have n0_ := Aside0.mk (below_step HB.out hb); have n1_ := Aside0.mk (hbox); have n2_ := Aside0.mk ((by rw [hg]; exact (below_size HB.out) : w.heap.size ≤ gb131)); have n3_ := Aside0.mk ((by rw [hg]; exact (below_size HB.out) : w.heap.size ≤ gb131)); clear HB; have HB := n0_; have BK131 := n1_; have GW131 := n2_; have GE131 := n3_; clear n0_ n1_ n2_ n3_; clear hb hbox hg))
 go_cut [16] (fun v16 wc => ∃ (kq : Nat) (x16_1 : Bool), v16 = .bool x16_1 ∧ Aside0 (field_shape.j0 kq x16_1 a0_0 a0_1 l0_2 = some r) ∧ Aside0 (kq ≤ k) ∧ Aside0 (wc.heap[gb131]? = some (.cells #[.int .i64 a0_0, .int .i64 a0_1, (.slice A0_2 l0_2.length c0_2)] 24 (0, 0))) ∧ Aside0 (Below w.heap.size w wc))
 case first =>
  have H := HC2.out
  clear HC2
  obtain ⟨t132, A40, H⟩ := Option.bind_eq_some_iff.mp H
  replace H : (if t132 = 0 then (field_shape.j0 k true a0_0 a0_1 l0_2) else ((field_isPrime.f k a0_0).bind fun t133 => (field_shape.j0 k (!t133) a0_0 a0_1 l0_2))) = some r := H
  have A4 := Aside0.mk A40
  clear A40
  by_cases c5 : t132 = 0
  ·rw [if_pos c5] at H
   have c5b0 : (t132 == 0) = true := beq_iff_eq.mpr c5
   have c5b1 : (t132 != 0) = false := bne_eq_false_iff_eq.mpr c5
   clear c5
   ((skip))
   have H' := Aside0.mk H
   clear H
   have hcz6_0 : w3.cell? ⟨gb131, 0, none⟩ = some (.int .i64 a0_0) := (blk_cell BK131.out 0).trans rfl
   have hcz6_1 : w3.cell? ⟨gb131, 1, none⟩ = some (.int .i64 a0_1) := (blk_cell BK131.out 1).trans rfl
   have hcz6_2 : w3.cell? ⟨gb131, 2, none⟩ = some (.slice A0_2 l0_2.length c0_2) := (blk_cell BK131.out 2).trans rfl
   have hfz6_0 := blk_frozen BK131.out 0
   have hfz6_1 := blk_frozen BK131.out 1
   have hfz6_2 := blk_frozen BK131.out 2
   go_wp2_with (((with_reducible refine gate_callee (f := 75) rfl ?_); refine goesL_ (some 9) rfl rfl Try.func75 (by kernel_rfl) rfl #[.int .i64 a0_0, .int .i64 a0_1] rfl (by ((simp only [List.map_toArray, List.map_cons, List.map_nil])); (rfl)) ?_; (with_reducible refine (field_order.calls k a0_0 a0_1 t132 _ A4.out).mono ?_); rintro e w' ⟨rfl, ⟨nd, rfl⟩⟩; refine ⟨_, rfl, ?_⟩))
   go_meet
   case rel => exact ⟨_, (true), (by rfl), H', ⟨by (omega)⟩, ⟨by (with_reducible repeat ((refine blk_drewN ?_ _))); exact BK131.out⟩, ⟨by repeat ((with_reducible first | (exact HB.out) | (apply pw_below_drewN)))⟩⟩
  ·rw [if_neg c5] at H
   have c5b0 : (t132 == 0) = false := beq_eq_false_iff_ne.mpr c5
   have c5b1 : (t132 != 0) = true := bne_iff_ne.mpr c5
   ((skip))
   obtain ⟨t133, A70, H⟩ := Option.bind_eq_some_iff.mp H
   replace H : (field_shape.j0 k (!t133) a0_0 a0_1 l0_2) = some r := H
   have A7 := Aside0.mk A70
   clear A70
   have H' := Aside0.mk H
   clear H
   have hcz8_0 : w3.cell? ⟨gb131, 0, none⟩ = some (.int .i64 a0_0) := (blk_cell BK131.out 0).trans rfl
   have hcz8_1 : w3.cell? ⟨gb131, 1, none⟩ = some (.int .i64 a0_1) := (blk_cell BK131.out 1).trans rfl
   have hcz8_2 : w3.cell? ⟨gb131, 2, none⟩ = some (.slice A0_2 l0_2.length c0_2) := (blk_cell BK131.out 2).trans rfl
   have hfz8_0 := blk_frozen BK131.out 0
   have hfz8_1 := blk_frozen BK131.out 1
   have hfz8_2 := blk_frozen BK131.out 2
   go_wp2_with (first | ((with_reducible refine gate_callee (f := 75) rfl ?_); refine goesL_ (some 9) rfl rfl Try.func75 (by kernel_rfl) rfl #[.int .i64 a0_0, .int .i64 a0_1] rfl (by ((simp only [List.map_toArray, List.map_cons, List.map_nil])); (rfl)) ?_; (with_reducible refine (field_order.calls k a0_0 a0_1 t132 _ A4.out).mono ?_); rintro e w' ⟨rfl, ⟨nd, rfl⟩⟩; refine ⟨_, rfl, ?_⟩) | (go_at_call 93; (with_reducible refine (field_isPrime.calls k a0_0 t133 _ A7.out).mono ?_); rintro e w' ⟨rfl, ⟨nd, rfl⟩⟩))
   go_meet
   case rel => exact ⟨_, (!t133), (by rfl), H', ⟨by (omega)⟩, ⟨by (with_reducible repeat ((refine blk_drewN ?_ _))); exact BK131.out⟩, ⟨by repeat ((with_reducible first | (exact HB.out) | (apply pw_below_drewN)))⟩⟩
 case rest =>
  clear HC2
  obtain ⟨kq, x16_1, rfl, HA, HJ1, BK131, HB⟩ := hcut
  cases kq with
  | zero => exact absurd HA.out (by simp [field_shape.j0])
  | succ kj1 =>
   have H := HA.out
   clear HA
   simp only [field_shape.j0] at H
   by_cases c9 : x16_1 = true
   ·subst c9
    have H1 : (some false) = some r := by rw [if_pos rfl] at H; exact H
    clear H
    have H := H1
    clear H1
    obtain rfl := Option.some.inj H
    go_wp2
    go_ret
    exact ⟨by rfl, by exact HB.out⟩
   ·replace c9 := Bool.eq_false_iff.mpr c9
    subst c9
    have H1 : (if a0_1 = 1 then (some ((l0_2.length : Int) == 0)) else (if (l0_2.length : Int) = a0_1 then (field_shape.l0 kj1 l0_2 (l0_2.length : Int) 0 a0_0 a0_1 l0_2) else (some false))) = some r := by rw [if_neg (show ¬ (false = true) by decide)] at H; exact H
    clear H
    have H := H1
    clear H1
    by_cases c10 : a0_1 = 1
    ·rw [if_pos c10] at H
     have c10b0 : (a0_1 == 1) = true := beq_iff_eq.mpr c10
     have c10b1 : (a0_1 != 1) = false := bne_eq_false_iff_eq.mpr c10
     clear c10
     obtain rfl := Option.some.inj H
     have hcz11_0 : wc.cell? ⟨gb131, 0, none⟩ = some (.int .i64 a0_0) := (blk_cell BK131.out 0).trans rfl
     have hcz11_1 : wc.cell? ⟨gb131, 1, none⟩ = some (.int .i64 a0_1) := (blk_cell BK131.out 1).trans rfl
     have hcz11_2 : wc.cell? ⟨gb131, 2, none⟩ = some (.slice A0_2 l0_2.length c0_2) := (blk_cell BK131.out 2).trans rfl
     have hfz11_0 := blk_frozen BK131.out 0
     have hfz11_1 := blk_frozen BK131.out 1
     have hfz11_2 := blk_frozen BK131.out 2
     go_wp2
     go_ret
     exact ⟨by rfl, by exact HB.out⟩
    ·rw [if_neg c10] at H
     have c10b0 : (a0_1 == 1) = false := beq_eq_false_iff_ne.mpr c10
     have c10b1 : (a0_1 != 1) = true := bne_iff_ne.mpr c10
     by_cases c12 : (l0_2.length : Int) = a0_1
     ·rw [if_pos c12] at H
      have c12b0 : ((l0_2.length : Int) == a0_1) = true := beq_iff_eq.mpr c12
      have c12b1 : ((l0_2.length : Int) != a0_1) = false := bne_eq_false_iff_eq.mpr c12
      clear c12
      have H' := Aside0.mk H
      clear H
      have hcz13_0 : wc.cell? ⟨gb131, 0, none⟩ = some (.int .i64 a0_0) := (blk_cell BK131.out 0).trans rfl
      have hcz13_1 : wc.cell? ⟨gb131, 1, none⟩ = some (.int .i64 a0_1) := (blk_cell BK131.out 1).trans rfl
      have hcz13_2 : wc.cell? ⟨gb131, 2, none⟩ = some (.slice A0_2 l0_2.length c0_2) := (blk_cell BK131.out 2).trans rfl
      have hfz13_0 := blk_frozen BK131.out 0
      have hfz13_1 := blk_frozen BK131.out 1
      have hfz13_2 := blk_frozen BK131.out 2
      go_wp2
      go_loopg [33] kj1 (fun kq v33 w' => ∃ (x33_2 : Int), v33 = .int .i64 x33_2 ∧ Aside0 (field_shape.l0 kq l0_2 (l0_2.length : Int) x33_2 a0_0 a0_1 l0_2 = some r) ∧ Aside0 (kq ≤ kj1) ∧ Aside0 (w'.heap[gb131]? = some (.cells #[.int .i64 a0_0, .int .i64 a0_1, (.slice A0_2 l0_2.length c0_2)] 24 (0, 0))) ∧ Aside0 (Below w.heap.size w w'))
      case atStart => exact ⟨(0), (by rfl), H', ⟨Nat.le_refl _⟩, ⟨BK131.out⟩, ⟨HB.out⟩⟩
      case round =>
       clear H' c10 c10b0 c10b1 c12b0 c12b1 hcz13_0 hcz13_1 hcz13_2 hfz13_0 hfz13_1 hfz13_2
       obtain ⟨x33_2, rfl, HA, HK2, BK131, HB⟩ := hrel
       cases gk with
       | zero => exact absurd HA.out (by simp [field_shape.l0])
       | succ k2 =>
        have H := HA.out
        clear HA
        simp only [field_shape.l0] at H
        by_cases c14 : x33_2 < (l0_2.length : Int)
        ·rw [if_pos c14] at H
         have c14b0 : decide (x33_2 < (l0_2.length : Int)) = true := decide_eq_true c14
         clear c14
         by_cases c15 : 0 ≤ x33_2
         ·rw [if_pos c15] at H
          have c15b0 : decide (0 ≤ x33_2) = true := decide_eq_true c15
          clear c15
          by_cases c16 : x33_2 < (l0_2.length : Int)
          ·rw [if_pos c16] at H
           have c16b0 : decide (x33_2 < (l0_2.length : Int)) = true := decide_eq_true c16
           clear c16
           by_cases c17 : (rd l0_2 x33_2) < 0
           ·rw [if_pos c17] at H
            have c17b0 : decide ((rd l0_2 x33_2) < 0) = true := decide_eq_true c17
            clear c17
            obtain rfl := Option.some.inj H
            have p134 : 0 ≤ (x33_2 : Int) := of_decide_eq_true (by (with_reducible assumption))
            have q134 : x33_2 < (l0_2.length : Int) := of_decide_eq_true (by (with_reducible assumption))
            obtain ⟨ad134, e134, hx134_0⟩ := Kd.at_int HR0_2.out x33_2 p134 q134
            cases e134
            replace hx134_0 := (HB.out.cell (World.block_lt_of_cell? w _ hx134_0)).trans hx134_0
            replace p134 := eq_true p134
            replace q134 := eq_true q134
            go_wp2
            go_ret
            exact ⟨by rfl, by exact HB.out⟩
           ·rw [if_neg c17] at H
            have c17b0 : decide ((rd l0_2 x33_2) < 0) = false := decide_eq_false c17
            clear c17
            by_cases c18 : (rd l0_2 x33_2) ≥ a0_0
            ·rw [if_pos c18] at H
             have c18b0 : decide (a0_0 ≤ (rd l0_2 x33_2)) = true := decide_eq_true c18
             clear c18
             obtain rfl := Option.some.inj H
             have p134 : 0 ≤ (x33_2 : Int) := of_decide_eq_true (by (with_reducible assumption))
             have q134 : x33_2 < (l0_2.length : Int) := of_decide_eq_true (by (with_reducible assumption))
             obtain ⟨ad134, e134, hx134_0⟩ := Kd.at_int HR0_2.out x33_2 p134 q134
             cases e134
             replace hx134_0 := (HB.out.cell (World.block_lt_of_cell? w _ hx134_0)).trans hx134_0
             replace p134 := eq_true p134
             replace q134 := eq_true q134
             have hcz19_0 : wr.cell? ⟨gb131, 0, none⟩ = some (.int .i64 a0_0) := (blk_cell BK131.out 0).trans rfl
             have hcz19_1 : wr.cell? ⟨gb131, 1, none⟩ = some (.int .i64 a0_1) := (blk_cell BK131.out 1).trans rfl
             have hcz19_2 : wr.cell? ⟨gb131, 2, none⟩ = some (.slice (some ad134) l0_2.length c0_2) := (blk_cell BK131.out 2).trans rfl
             have hfz19_0 := blk_frozen BK131.out 0
             have hfz19_1 := blk_frozen BK131.out 1
             have hfz19_2 := blk_frozen BK131.out 2
             go_wp2
             go_ret
             exact ⟨by rfl, by exact HB.out⟩
            ·rw [if_neg c18] at H
             have c18b0 : decide (a0_0 ≤ (rd l0_2 x33_2)) = false := decide_eq_false c18
             clear c18
             have H' := Aside0.mk H
             clear H
             have p134 : 0 ≤ (x33_2 : Int) := of_decide_eq_true (by (with_reducible assumption))
             have q134 : x33_2 < (l0_2.length : Int) := of_decide_eq_true (by (with_reducible assumption))
             obtain ⟨ad134, e134, hx134_0⟩ := Kd.at_int HR0_2.out x33_2 p134 q134
             cases e134
             replace hx134_0 := (HB.out.cell (World.block_lt_of_cell? w _ hx134_0)).trans hx134_0
             replace p134 := eq_true p134
             replace q134 := eq_true q134
             have hcz20_0 : wr.cell? ⟨gb131, 0, none⟩ = some (.int .i64 a0_0) := (blk_cell BK131.out 0).trans rfl
             have hcz20_1 : wr.cell? ⟨gb131, 1, none⟩ = some (.int .i64 a0_1) := (blk_cell BK131.out 1).trans rfl
             have hcz20_2 : wr.cell? ⟨gb131, 2, none⟩ = some (.slice (some ad134) l0_2.length c0_2) := (blk_cell BK131.out 2).trans rfl
             have hfz20_0 := blk_frozen BK131.out 0
             have hfz20_1 := blk_frozen BK131.out 1
             have hfz20_2 := blk_frozen BK131.out 2
             go_wp2
             go_roundg k2
             case measure => have := HJ1.out; have := HK2.out; omega
             case rel => exact ⟨(wrap64 (x33_2 + 1)), (by rfl), H', ⟨by have := HJ1.out; have := HK2.out; omega⟩, ⟨BK131.out⟩, ⟨HB.out⟩⟩
          ·rw [if_neg c16] at H
           exact absurd H (by simp)
         ·rw [if_neg c15] at H
          exact absurd H (by simp)
        ·rw [if_neg c14] at H
         have c14b0 : decide (x33_2 < (l0_2.length : Int)) = false := decide_eq_false c14
         clear c14
         obtain rfl := Option.some.inj H
         go_wp2
         go_ret
         exact ⟨by rfl, by exact HB.out⟩
     ·rw [if_neg c12] at H
      have c12b0 : ((l0_2.length : Int) == a0_1) = false := beq_eq_false_iff_ne.mpr c12
      have c12b1 : ((l0_2.length : Int) != a0_1) = true := bne_iff_ne.mpr c12
      obtain rfl := Option.some.inj H
      have hcz21_0 : wc.cell? ⟨gb131, 0, none⟩ = some (.int .i64 a0_0) := (blk_cell BK131.out 0).trans rfl
      have hcz21_1 : wc.cell? ⟨gb131, 1, none⟩ = some (.int .i64 a0_1) := (blk_cell BK131.out 1).trans rfl
      have hcz21_2 : wc.cell? ⟨gb131, 2, none⟩ = some (.slice A0_2 l0_2.length c0_2) := (blk_cell BK131.out 2).trans rfl
      have hfz21_0 := blk_frozen BK131.out 0
      have hfz21_1 := blk_frozen BK131.out 1
      have hfz21_2 := blk_frozen BK131.out 2
      go_wp2
      go_ret
      exact ⟨by rfl, by exact HB.out⟩
def field_digitsOf.l0 : Nat → Int → Int → List Int → Int → Int → Option (List Int)
 | 0, _, _, _, _, _ => none
 | k + 1, x0, x1, x7, x12, x13 => if x13 < x12 then (if x1 = 0 then (none) else (if 0 ≤ x13 then (if x13 < (x7.length : Int) then (field_digitsOf.l0 k (wrap64 (Int.tdiv x0 x1)) x1 (x7.set (x13 : Int).toNat (Int.tmod x0 x1)) x12 (wrap64 (x13 + 1))) else (none)) else (none))) else (some x7)
def field_digitsOf.f (k : Nat) (a0 : Int) (a1 : Int) (a2 : Int) : Option (List Int) := if 0 ≤ a2 then (if (a2 : Int).toNat ≤ 35184372088832 then ((some (List.replicate (a2 : Int).toNat 0 : List Int)).bind fun y135 => (field_digitsOf.l0 k a0 a1 y135 (y135.length : Int) 0)) else (none)) else (none)
set_option maxHeartbeats 8000000 in
set_option maxRecDepth 100000 in
theorem field_digitsOf.calls (k : Nat) (a0 : Int) (a1 : Int) (a2 : Int) (r : List Int) (w : World) (h : field_digitsOf.f k a0 a1 a2 = some r) :
  Calls Try.prog 97 #[.int .i64 a0, .int .i64 a1, .int .i64 a2] w fun e w' => ∃ v0_ : Value, e = .returned (v0_) ∧ Kd.R (Kd.int .i64) 3 w' w.heap.size (fun _ => True) v0_ r ∧ Below w.heap.size w w' := by
 have HB := Aside0.mk (Below.refl w.heap.size w)
 have H : (if 0 ≤ a2 then (if (a2 : Int).toNat ≤ 35184372088832 then ((some (List.replicate (a2 : Int).toNat 0 : List Int)).bind fun y135 => (field_digitsOf.l0 k a0 a1 y135 (y135.length : Int) 0)) else (none)) else (none)) = some r := h
 clear h
 by_cases c4 : 0 ≤ a2
 ·rw [if_pos c4] at H
  have c4b0 := eq_true c4
  have c4b1 : decide (0 ≤ a2) = true := decide_eq_true c4
  clear c4
  by_cases c5 : (a2 : Int).toNat ≤ 35184372088832
  ·rw [if_pos c5] at H
   have c5b0 := eq_true c5
   have c5b1 : decide ((a2 : Int).toNat ≤ 35184372088832) = true := decide_eq_true c5
   clear c5
   obtain ⟨y135, hy135⟩ : ∃ y_ : List Int, y_ = (List.replicate (a2 : Int).toNat 0) := ⟨_, rfl⟩
   replace H : (field_digitsOf.l0 k a0 a1 y135 (y135.length : Int) 0) = some r := by (have H2_ := (Option.bind_some _ _).symm.trans H; rw [hy135]; with_reducible exact H2_)
   have Ny135 := Aside0.mk hy135
   clear hy135
   have H' := Aside0.mk H
   clear H
   go_enter Try.func97, Try.ntmps97
   go_wp2_with (((with_reducible refine gate_dst (N := 10) rfl ?_); refine Kd.R_make (Kd.int .i64) _ 3 rfl (N := 10) rfl 22 _ _ rfl a2 rfl rfl Try.underlying22 (.int .i64 0) 8 info3 rfl (by decide) (by omega) 0 (ok := fun _ => True) (okp := fun _ => True) rfl (fun _ hk => hk) trivial (of_decide_eq_true (by (with_reducible assumption))) (Nat.le_trans (Nat.mul_le_mul_right _ (of_decide_eq_true (by (with_reducible assumption)) : a2.toNat ≤ 35184372088832)) (by omega)) (Below.refl _ _) (Nat.le_refl _) ?_; intro v136 w6 ho7 hb hg_ hnew_; clear hg_ hnew_; ((rw [← Ny135.out] at ho7)); have n0_ := Aside0.mk (Kd.R_lower ho7 (below_size HB.out)); have n1_ := Aside0.mk (below_step HB.out hb); clear HB; have HO137 := n0_; have HB := n1_; clear n0_ n1_; clear hb ho7; obtain ⟨Ao8, co8, eo8⟩ := Kd.R_slice HO137.out; subst eo8))
   go_loopg [0, 13] k (fun kq v0 v13 w' => ∃ (x0_1 : Int) (x7_1 : List Int) (x13_1 : Int), v0 = .int .i64 x0_1 ∧ v13 = .int .i64 x13_1 ∧ Aside0 (field_digitsOf.l0 kq x0_1 a1 x7_1 (y135.length : Int) x13_1 = some r) ∧ Aside0 (kq ≤ k) ∧ Aside0 (Kd.R (Kd.int .i64) 3 w' w.heap.size (fun _ => True) (.slice Ao8 y135.length co8) x7_1) ∧ Aside0 (Below w.heap.size w w'))
   case atStart => exact ⟨(a0), (y135), (0), (by rfl), (by rfl), H', ⟨Nat.le_refl _⟩, ⟨HO137.out⟩, ⟨HB.out⟩⟩
   case round =>
    clear H' c4b0 c4b1 c5b0 c5b1
    obtain ⟨x0_1, x7_1, x13_1, rfl, rfl, HA, HK1, HO_7, HB⟩ := hrel
    have hl7_1 := (Kd.R_reads' HO_7.out).1
    rw [hl7_1] at HO_7
    ((simp only [hl7_1]))
    cases gk with
    | zero => exact absurd HA.out (by simp [field_digitsOf.l0])
    | succ k1 =>
     have H := HA.out
     clear HA
     simp only [field_digitsOf.l0] at H
     by_cases c9 : x13_1 < (y135.length : Int)
     ·rw [if_pos c9] at H
      have c9b0 : decide (x13_1 < (y135.length : Int)) = true := decide_eq_true c9
      ((rw [hl7_1] at c9b0))
      clear c9
      by_cases c10 : a1 = 0
      ·rw [if_pos c10] at H
       exact absurd H (by simp)
      ·rw [if_neg c10] at H
       have c10b0 : (a1 == 0) = false := beq_eq_false_iff_ne.mpr c10
       have c10b1 : (a1 != 0) = true := bne_iff_ne.mpr c10
       by_cases c11 : 0 ≤ x13_1
       ·rw [if_pos c11] at H
        have c11b0 : decide (0 ≤ x13_1) = true := decide_eq_true c11
        clear c11
        by_cases c12 : x13_1 < (x7_1.length : Int)
        ·rw [if_pos c12] at H
         have c12b0 : decide (x13_1 < (x7_1.length : Int)) = true := decide_eq_true c12
         clear c12
         obtain ⟨y138, hy138⟩ : ∃ y_ : List Int, y_ = (x7_1.set (x13_1 : Int).toNat (Int.tmod x0_1 a1)) := ⟨_, rfl⟩
         replace H : (field_digitsOf.l0 k1 (wrap64 (Int.tdiv x0_1 a1)) a1 y138 (y135.length : Int) (wrap64 (x13_1 + 1))) = some r := by (rw [hy138]; with_reducible exact H)
         have Ny138 := Aside0.mk hy138
         clear hy138
         have H' := Aside0.mk H
         clear H
         have p13 : 0 ≤ (x13_1 : Int) := of_decide_eq_true (by (with_reducible assumption))
         have q13 : (x13_1 : Int) < ((x7_1.length : Int) : Int) := of_decide_eq_true (by (with_reducible assumption))
         obtain ⟨go13, co13, eo13, gb13, gl13, cl13, HG13⟩ := Kd.R_form HO_7.out (by omega)
         ((cases eo13))
         have GB13 := Aside0.mk gb13
         have GG13 := Aside0.mk HG13
         clear gb13 gl13 HG13
         obtain ⟨hx13_0, hf13_0⟩ := Kd.R_celln 0 HO_7.out (x13_1 : Int) p13 q13
         replace p13 := eq_true p13
         replace q13 := eq_true q13
         have HP14 := Kd.R_putg HO_7.out (x13_1 : Int) (Int.tmod x0_1 a1)
         go_wp2_with (((with_reducible refine gate_store (t := 3) (p := 21) rfl ?_); refine store_event (t := 3) (p := 21) (v := ?vo_w15) (w1 := (wr.setCell ⟨go13, (x13_1 : Int).toNat, none⟩ (.int .i64 (Int.tmod x0_1 a1)))) ?hg ?ho ?hn ?hr ?_; (case ho => rfl); (case hg => rfl); (case hn => rfl); (case hr => (go_simp; done)); intro w15 hw; have hg : wr.grownBy w15 (some go13) := (by rw [hw]; exact HP14.2); have hp_ : Kd.R (Kd.int .i64) 3 w15 w.heap.size (fun _ => True) (.slice (some ⟨go13, 0, none⟩) x7_1.length co8) y138 := (by rw [hw, Ny138.out]; exact HP14.1); clear HP14; have n0_ := Aside0.mk (hp_); have n1_ := Aside0.mk ((by rw [hw]; exact below_set (HB.out) GB13.out : Below w.heap.size w w15)); clear HO_7; clear HB; have HO_7 := n0_; have HB := n1_; clear n0_ n1_; clear hg hw hp_))
         ((simp only [← hl7_1]))
         go_roundg k1
         case measure => have := HK1.out; omega
         case rel => exact ⟨(wrap64 (Int.tdiv x0_1 a1)), (y138), (wrap64 (x13_1 + 1)), (by rfl), (by rfl), H', ⟨by have := HK1.out; omega⟩, ⟨by ((simp only [hl7_1])); (with_reducible repeat (fail)); exact HO_7.out⟩, ⟨HB.out⟩⟩
        ·rw [if_neg c12] at H
         exact absurd H (by simp)
       ·rw [if_neg c11] at H
        exact absurd H (by simp)
     ·rw [if_neg c9] at H
      have c9b0 : decide (x13_1 < (y135.length : Int)) = false := decide_eq_false c9
      ((rw [hl7_1] at c9b0))
      clear c9
      obtain rfl := Option.some.inj H
      go_wp2
      go_ret
      exact ⟨_, by rfl, by exact HO_7.out, by exact HB.out⟩
  ·rw [if_neg c5] at H
   exact absurd H (by simp)
 ·rw [if_neg c4] at H
  exact absurd H (by simp)
def field_valueOf.l0 : Nat → List Int → Int → Int → Int → Option (Int)
 | 0, _, _, _, _ => none
 | k + 1, x0, x1, x5, x6 => if x6 ≥ 0 then (if 0 ≤ x6 then (if x6 < (x0.length : Int) then (field_valueOf.l0 k x0 x1 (wrap64 ((wrap64 (x5 * x1)) + (rd x0 x6))) (wrap64 (x6 - 1))) else (none)) else (none)) else (some x5)
def field_valueOf.f (k : Nat) (l0 : List Int) (a1 : Int) : Option (Int) := field_valueOf.l0 k l0 a1 0 (wrap64 ((l0.length : Int) - 1))
set_option maxHeartbeats 8000000 in
set_option maxRecDepth 100000 in
theorem field_valueOf.calls (k : Nat) (A0 : Option Addr) (c0 : Nat) (l0 : List Int) (a1 : Int) (r : Int) (w : World) (hr0 : Kd.C (Kd.int .i64) w A0 l0.length l0) (hc0 : l0.length ≤ c0) (h : field_valueOf.f k l0 a1 = some r) :
  Calls Try.prog 98 #[.slice A0 l0.length c0, .int .i64 a1] w fun e w' => e = .returned (.int .i64 r) ∧ Drawn0 w w' := by
 have HR0 := Aside0.mk hr0
 have HC0 := Aside0.mk hc0
 clear hr0 hc0
 have H : (field_valueOf.l0 k l0 a1 0 (wrap64 ((l0.length : Int) - 1))) = some r := h
 clear h
 have H' := Aside0.mk H
 clear H
 go_enter Try.func98, Try.ntmps98
 go_wp2
 go_loopg [5, 6] k (fun kq v5 v6 w' => ∃ (x5_1 : Int) (x6_1 : Int), v5 = .int .i64 x5_1 ∧ v6 = .int .i64 x6_1 ∧ Aside0 (field_valueOf.l0 kq l0 a1 x5_1 x6_1 = some r) ∧ Aside0 (kq ≤ k) ∧ Drawn0 w w')
 case atStart => exact ⟨(0), (wrap64 ((l0.length : Int) - 1)), (by rfl), (by rfl), H', ⟨Nat.le_refl _⟩, by repeat ((exact Drawn0.refl _))⟩
 case round =>
  clear H'
  obtain ⟨x5_1, x6_1, rfl, rfl, HA, HK1, ⟨m1, rfl⟩⟩ := hrel
  cases gk with
  | zero => exact absurd HA.out (by simp [field_valueOf.l0])
  | succ k1 =>
   have H := HA.out
   clear HA
   simp only [field_valueOf.l0] at H
   by_cases c3 : x6_1 ≥ 0
   ·rw [if_pos c3] at H
    have c3b0 : decide (0 ≤ x6_1) = true := decide_eq_true c3
    clear c3
    by_cases c4 : 0 ≤ x6_1
    ·rw [if_pos c4] at H
     have c4b0 : decide (0 ≤ x6_1) = true := decide_eq_true c4
     clear c4
     by_cases c5 : x6_1 < (l0.length : Int)
     ·rw [if_pos c5] at H
      have c5b0 : decide (x6_1 < (l0.length : Int)) = true := decide_eq_true c5
      clear c5
      have H' := Aside0.mk H
      clear H
      have p139 : 0 ≤ (x6_1 : Int) := of_decide_eq_true (by (with_reducible assumption))
      have q139 : x6_1 < (l0.length : Int) := of_decide_eq_true (by (with_reducible assumption))
      obtain ⟨ad139, e139, hx139_0⟩ := Kd.at_int HR0.out x6_1 p139 q139
      cases e139
      replace p139 := eq_true p139
      replace q139 := eq_true q139
      go_wp2
      go_roundg k1
      case measure => have := HK1.out; omega
      case rel => exact ⟨(wrap64 ((wrap64 (x5_1 * a1)) + (rd l0 x6_1))), (wrap64 (x6_1 - 1)), (by rfl), (by rfl), H', ⟨by have := HK1.out; omega⟩, by repeat (first | (exact Drawn0.refl _) | (apply Drawn0.step))⟩
     ·rw [if_neg c5] at H
      exact absurd H (by simp)
    ·rw [if_neg c4] at H
     exact absurd H (by simp)
   ·rw [if_neg c3] at H
    have c3b0 : decide (0 ≤ x6_1) = false := decide_eq_false c3
    clear c3
    obtain rfl := Option.some.inj H
    go_wp2
    go_ret
    exact ⟨by rfl, by repeat (first | (exact Drawn0.refl _) | (apply Drawn0.step))⟩
end Go.Proofs.Ytkdakjlopheefaa.PA
end
section
namespace Go.Proofs.Ytkdakjlopheefaa.PA
open Go.RowKit Go.Proofs.YtkdakjlopheefaaW.PrintWords Go.Proofs.YtkdakjlopheefaaW.PrintLast Go.Proofs.YtkdakjlopheefaaW.PrintMore
theorem splice_map {α β : Type} (f : α → β) (L : List α) (i : Nat) (c : List α) : (splice L i c).map f = splice (L.map f) i (c.map f) := by
  simp [splice]
theorem splice_get {α : Type} (L : List α) (i : Nat) (c : List α) (hi : i ≤ L.length) (k : Nat) : (splice L i c)[k]? = if k < i then L[k]? else if k < i + c.length then c[k - i]? else L[k]? := by
  unfold splice
  have hl : (L.take i).length = i := by rw [List.length_take]; omega
  by_cases h1 : k < i
  · rw [if_pos h1, List.getElem?_append_left (by omega), List.getElem?_take, if_pos h1]
  · rw [if_neg h1, List.getElem?_append_right (by omega), hl]
    by_cases h2 : k < i + c.length
    · rw [if_pos h2, List.getElem?_append_left (by omega)]
    · rw [if_neg h2, List.getElem?_append_right (by omega), List.getElem?_drop]; congr 1; omega
theorem take_splice {α : Type} (L : List α) (n : Nat) (c : List α) (h : 1 + c.length ≤ n) (hn : n ≤ L.length) : (splice L 1 c).take n = splice (L.take n) 1 c := by
  apply List.ext_getElem?
  intro k
  rw [List.getElem?_take, splice_get _ _ _ (by omega), splice_get _ _ _ (by rw [List.length_take]; omega), List.getElem?_take]
  by_cases h1 : k < n
  · rw [if_pos h1, if_pos h1]
  · rw [if_neg h1, if_neg h1, if_neg (by omega), if_neg (by omega)]
theorem step_copy_row {P : Program} {ops : Array Oper} {o : Oper} {a : Act} {w : World} {K : Act → World → Prop} {Q : Exit → Act → World → Prop} {E : Prop} (hgd : o.guard = none) (d s : Operand) (dT sT : TypeId)
    (ho : o.op = .call { callee := .builtin .copy, args := #[d, s], argTypes := #[dT, sT] }) (e : TypeId) (hu : P.underlying dT = some (.slice e)) (hsz : (P.info? e).map (·.size) = some 1)
    (g n cap j : Nat) (dp : Option Addr) (dCap sCap : Nat) (hd : a.eval d = .slice dp (n - 1) dCap) (hs : a.eval s = .slice (some ⟨g, 0, none⟩) j sCap)
    (xs : List Int) (base : Nat) (ok : Nat → Prop) (HO : Aside0 (Kd.R (Kd.int .i64) e w base ok (.slice (some ⟨g, 0, none⟩) n cap) xs)) (hj : j < n) (hdp : 0 < j → dp = some ⟨g, 1, none⟩)
    (h : ∀ w', Aside0 (Kd.R (Kd.int .i64) e w' base ok (.slice (some ⟨g, 0, none⟩) n cap) (splice xs 1 (xs.take j))) → Aside0 (w.grownBy w' (some g)) → K (a.put o.dst (goInt j)) w') :
    if Region.wanted o (yielded ops a.tmps) = true then Oper.wp P o a w K Q else E := by
  have hw : Region.wanted o (yielded ops a.tmps) = true := by simp [Region.wanted, hgd]
  rw [if_pos hw]
  have hR := HO.out
  have hown := Kd.own_of_R hR
  obtain ⟨hl, hrow⟩ := hown
  rcases hrow with ⟨hv, _⟩ | ⟨g', cap', cur, hv, hb, hheap, hnc, hcm, hcs, htk⟩
  · simp at hv
  · simp only [Value.slice.injEq, Option.some.injEq, Addr.mk.injEq] at hv
    obtain ⟨⟨rfl, _⟩, hn, rfl⟩ := hv
    subst hn
    rw [Nat.mul_one] at hcs htk
    have hxl : (encs (Value.int .i64) xs).length = xs.length := by simp [encs]
    have htk' : cur.toList.take xs.length = xs.map (Value.int .i64) := by rw [htk]; rfl
    have hcl : (xs.take j).length = j := by rw [List.length_take]; omega
    have hcl' : ((xs.take j).map (Value.int .i64)).length = j := by rw [List.length_map, hcl]
    have hcur : cur.toList.length = cap := by rw [Array.length_toList]; exact hcs
    have hnew : ∀ W : World, W.heap[g]? = some (.cells (splice cur.toList 1 ((xs.take j).map (Value.int .i64))).toArray e (0, 0)) → Kd.R (Kd.int .i64) e W base ok (.slice (some ⟨g, 0, none⟩) xs.length cap) (splice xs 1 (xs.take j)) := by
      intro W hW
      have hsl : (splice xs 1 (xs.take j)).length = xs.length := length_splice _ _ _ (by omega)
      have : W.ownsRow base e 1 (.slice (some ⟨g, 0, none⟩) xs.length cap) (splice xs 1 (xs.take j)).length (encs (Value.int .i64) (splice xs 1 (xs.take j))) := by
        refine ⟨by simp [encs], .inr ⟨g, cap, _, by rw [hsl], hb, hW, by rw [hsl]; exact hnc, hcm, ?_, ?_⟩⟩
        · rw [List.size_toArray, length_splice _ _ _ (by rw [hcl']; omega), hcur, Nat.mul_one]
        · rw [hsl, Nat.mul_one]
          show List.take xs.length (splice cur.toList 1 ((xs.take j).map (Value.int .i64))) = (splice xs 1 (xs.take j)).map (Value.int .i64)
          rw [splice_map, ← htk']
          exact take_splice _ _ _ (by rw [hcl']; omega) (by omega)
      exact Kd.R_of_own this hR.1
    have hgr : ∀ cs : Array Value, w.grownBy (w.setRow g cs) (some g) := fun cs => ⟨rfl, rfl, rfl, by simp [World.setRow], fun k hk hne => setRow_other w g k cs (fun e => hne (by rw [e]))⟩
    by_cases h0 : j = 0
    · subst h0
      have hrun := run_copy_none (P := P) w dT sT o.type e dp (some ⟨g, 0, none⟩) (xs.length - 1) dCap 0 sCap hu hsz (Nat.zero_min _)
      unfold Oper.wp
      simp [execOp, ho, resolve, invoke, builtin, hd, hs, hrun, Result.andThen]
      have e0 : splice cur.toList 1 ((xs.take 0).map (Value.int .i64)) = cur.toList := by
        show cur.toList.take 1 ++ ([] ++ cur.toList.drop (1 + 0)) = _
        rw [List.nil_append, Nat.add_zero, List.take_append_drop]
      refine h w ⟨hnew w (by rw [e0, Array.toArray_toList]; exact hheap)⟩ ⟨⟨rfl, rfl, rfl, Nat.le_refl _, fun _ _ _ => rfl⟩⟩
    · obtain rfl := hdp (by omega)
      have hsrc : ∀ k v, ((xs.take j).map (Value.int .i64))[k]? = some v → w.cell? ((⟨g, 0, none⟩ : Addr).add k) = some v := by
        intro k v hk
        have hkj : k < j := by
          have := (List.getElem?_eq_some_iff.1 hk).1
          rwa [hcl'] at this
        have hc := Kd.R_celln 0 (n := xs.length) hR (k : Int) (by omega) (by omega)
        rw [add_plain, Int.toNat_natCast] at *
        rw [hc.1]
        rw [List.getElem?_map, List.getElem?_take, if_pos hkj] at hk
        obtain ⟨x, hx, rfl⟩ := Option.map_eq_some_iff.1 hk
        show some (Value.int .i64 (xs.getD (k : Int).toNat 0)) = _
        rw [Int.toNat_natCast, List.getD_eq_getElem?_getD, hx]; rfl
      have hrun := run_copy_row (P := P) w dT sT o.type e g 1 (xs.length - 1) dCap ⟨g, 0, none⟩ j sCap cur e ((xs.take j).map (Value.int .i64)) hu hsz hheap (by rw [hcl']; show j = min j (xs.length - 1); omega) hsrc (by rw [hcl', hcs]; omega)
        (fun v hv => by obtain ⟨x, _, rfl⟩ := List.mem_map.1 hv; rfl)
      unfold Oper.wp
      simp [execOp, ho, resolve, invoke, builtin, hd, hs, hrun, Result.andThen]
      have h2 := h _ ⟨hnew _ (setRow_heap w g cur _ e _ hheap)⟩ ⟨hgr _⟩
      simpa [splice, hcl, Nat.min_eq_left (show j ≤ xs.length by omega), Oper.upon] using h2
end Go.Proofs.Ytkdakjlopheefaa.PA
end
section
namespace Go.Proofs.Ytkdakjlopheefaa.PA
open Go.RowKit Go.Proofs.YtkdakjlopheefaaW.PrintWords Go.Proofs.YtkdakjlopheefaaW.PrintLast Go.Proofs.YtkdakjlopheefaaW.PrintMore
attribute [local go_sem] max2_int min2_int max_two min_two max_three min_three max_four min_four
set_option linter.unusedVariables false
set_option linter.unusedSimpArgs false
mutual
def field_multiply.l0 : Nat → List Int → List Int → List Int → Int → Int → Int → List Int → Option (Int)
 | 0, _, _, _, _, _, _, _ => none
 | k + 1, x7, x8, x9, x10, x141000, x141001, x141002 => if x10 ≥ 0 then (if 0 ≤ (wrap64 (x141001 - 1)) then (if (wrap64 (x141001 - 1)) < (x9.length : Int) then (if 0 < (x9.length : Int) then (field_multiply.l1 k x7 x8 ((splice x9 1 (x9.take (wrap64 (x141001 - 1)).toNat)).set (0 : Int).toNat 0) x10 (rd x9 (wrap64 (x141001 - 1))) (x9.length : Int) 0 x141000 x141001 x141002) else (none)) else (none)) else (none)) else ((field_valueOf.f k x9 x141000).bind fun t150 => (some t150))
def field_multiply.l1 : Nat → List Int → List Int → List Int → Int → Int → Int → Int → Int → Int → List Int → Option (Int)
 | 0, _, _, _, _, _, _, _, _, _, _ => none
 | k + 1, x7, x8, x9, x10, x11, x53, x54, x141000, x141001, x141002 => if x54 < x53 then (if x141001 > 1 then (if 0 ≤ x54 then (if x54 < (x141002.length : Int) then (if x54 < (x9.length : Int) then (if 0 ≤ x10 then (if x10 < (x8.length : Int) then (if x54 < (x7.length : Int) then (if x141000 = 0 then (none) else (field_multiply.l1 k x7 x8 (x9.set (x54 : Int).toNat (Int.tmod (wrap64 ((wrap64 ((rd x9 x54) + (wrap64 ((wrap64 (x141000 - x11)) * (rd x141002 x54))))) + (wrap64 ((rd x8 x10) * (rd x7 x54))))) x141000)) x10 x11 x53 (wrap64 (x54 + 1)) x141000 x141001 x141002)) else (none)) else (none)) else (none)) else (none)) else (none)) else (none)) else (if 0 ≤ x54 then (if x54 < (x9.length : Int) then (if 0 ≤ x10 then (if x10 < (x8.length : Int) then (if x54 < (x7.length : Int) then (if x141000 = 0 then (none) else (field_multiply.l1 k x7 x8 (x9.set (x54 : Int).toNat (Int.tmod (wrap64 ((wrap64 ((rd x9 x54) + (wrap64 0))) + (wrap64 ((rd x8 x10) * (rd x7 x54))))) x141000)) x10 x11 x53 (wrap64 (x54 + 1)) x141000 x141001 x141002)) else (none)) else (none)) else (none)) else (none)) else (none))) else (field_multiply.l0 k x7 x8 x9 (wrap64 (x10 - 1)) x141000 x141001 x141002)
end
def field_multiply.f (k : Nat) (a0_0 : Int) (a0_1 : Int) (l0_2 : List Int) (a1 : Int) (a2 : Int) : Option (Int) := (field_digitsOf.f k a1 a0_0 a0_1).bind fun t141 => ((field_digitsOf.f k a2 a0_0 a0_1).bind fun t144 => (if 0 ≤ a0_1 then (if (a0_1 : Int).toNat ≤ 35184372088832 then (field_multiply.l0 k t141 t144 (List.replicate (a0_1 : Int).toNat 0) (wrap64 (a0_1 - 1)) a0_0 a0_1 l0_2) else (none)) else (none)))
def field_multiply.T1 : Bool × List (List Nat × List Nat) := (true, [([], []), ([], []), ([1], [1]), ([], []), ([3], [3]), ([0, 2, 4], [0, 2, 4]), ([], []), ([], []), ([7], [7]), ([], []), ([9], [9]), ([6, 8, 10, 5], [6, 8, 10]), ([5, 11, 0, 1, 2, 3, 4, 5], [5]), ([11, 12, 0, 1, 2, 3, 4, 5, 6, 7, 8, 9, 10, 11, 12], [11])])
def field_multiply.B1 : List Nat := [0, 0, 2, 0, 8, 31, 0, 0, 128, 0, 512, 2047, 4095, 8191]
theorem field_multiply.tab1 : rtab .any (opsOf Try.f95 1) = field_multiply.T1 := by kernel_rfl
theorem field_multiply.bits1 : waitsOk field_multiply.T1.2 field_multiply.B1 = true := by kernel_rfl
def field_multiply.T15 : Bool × List (List Nat × List Nat) := (true, [([], []), ([], []), ([], []), ([], []), ([2, 3], [2, 3]), ([4], [4]), ([], []), ([6], [6]), ([], []), ([7, 8], [7, 8]), ([], []), ([9, 10], [9, 10]), ([5, 11], [5, 11]), ([], []), ([], []), ([13, 14], [13, 14]), ([15], [15]), ([], []), ([], []), ([17, 18], [17, 18]), ([19], [19]), ([16, 20], [16, 20]), ([12, 21], [12, 21]), ([], []), ([23], [23]), ([22, 24], [22, 24]), ([0, 1, 0, 1, 2, 3, 4, 5, 6, 7, 8, 9, 10, 11, 12, 13, 14, 15, 16, 17, 18, 19, 20, 21, 22, 23, 24, 25], [0, 1]), ([26, 25, 0, 1, 2, 3, 4, 5, 6, 7, 8, 9, 10, 11, 12, 13, 14, 15, 16, 17, 18, 19, 20, 21, 22, 23, 24, 25], [25, 26])])
def field_multiply.B15 : List Nat := [0, 0, 0, 0, 12, 28, 0, 64, 0, 448, 0, 1984, 4092, 0, 0, 24576, 57344, 0, 0, 393216, 917504, 2088960, 4194300, 0, 8388608, 33554428, 67108863, 134217727]
theorem field_multiply.tab15 : rtab .any (opsOf Try.f95 15) = field_multiply.T15 := by kernel_rfl
theorem field_multiply.bits15 : waitsOk field_multiply.T15.2 field_multiply.B15 = true := by kernel_rfl
set_option maxHeartbeats 8000000 in
set_option maxRecDepth 100000 in
theorem field_multiply.calls (k : Nat) (a0_0 : Int) (a0_1 : Int) (A0_2 : Option Addr) (c0_2 : Nat) (l0_2 : List Int) (a1 : Int) (a2 : Int) (r : Int) (w : World) (hr0_2 : Kd.C (Kd.int .i64) w A0_2 l0_2.length l0_2) (hc0_2 : l0_2.length ≤ c0_2) (h : field_multiply.f k a0_0 a0_1 l0_2 a1 a2 = some r) :
  Calls Try.prog 95 #[.agg #[.int .i64 a0_0, .int .i64 a0_1, .slice A0_2 l0_2.length c0_2], .int .i64 a1, .int .i64 a2] w fun e w' => e = .returned (.int .i64 r) ∧ Below w.heap.size w w' := by
 have hu24 := Try.underlying24
 have HR0_2 := Aside0.mk hr0_2
 have HC0_2 := Aside0.mk hc0_2
 clear hr0_2 hc0_2
 have HB := Aside0.mk (Below.refl w.heap.size w)
 have H : ((field_digitsOf.f k a1 a0_0 a0_1).bind fun t141 => ((field_digitsOf.f k a2 a0_0 a0_1).bind fun t144 => (if 0 ≤ a0_1 then (if (a0_1 : Int).toNat ≤ 35184372088832 then (field_multiply.l0 k t141 t144 (List.replicate (a0_1 : Int).toNat 0) (wrap64 (a0_1 - 1)) a0_0 a0_1 l0_2) else (none)) else (none)))) = some r := h
 clear h
 obtain ⟨t141, A40, H⟩ := Option.bind_eq_some_iff.mp H
 replace H : ((field_digitsOf.f k a2 a0_0 a0_1).bind fun t144 => (if 0 ≤ a0_1 then (if (a0_1 : Int).toNat ≤ 35184372088832 then (field_multiply.l0 k t141 t144 (List.replicate (a0_1 : Int).toNat 0) (wrap64 (a0_1 - 1)) a0_0 a0_1 l0_2) else (none)) else (none))) = some r := H
 have A4 := Aside0.mk A40
 clear A40
 obtain ⟨t144, A50, H⟩ := Option.bind_eq_some_iff.mp H
 replace H : (if 0 ≤ a0_1 then (if (a0_1 : Int).toNat ≤ 35184372088832 then (field_multiply.l0 k t141 t144 (List.replicate (a0_1 : Int).toNat 0) (wrap64 (a0_1 - 1)) a0_0 a0_1 l0_2) else (none)) else (none)) = some r := H
 have A5 := Aside0.mk A50
 clear A50
 by_cases c6 : 0 ≤ a0_1
 ·rw [if_pos c6] at H
  have c6b0 := eq_true c6
  have c6b1 : decide (0 ≤ a0_1) = true := decide_eq_true c6
  clear c6
  by_cases c7 : (a0_1 : Int).toNat ≤ 35184372088832
  ·rw [if_pos c7] at H
   have c7b0 := eq_true c7
   have c7b1 : decide ((a0_1 : Int).toNat ≤ 35184372088832) = true := decide_eq_true c7
   clear c7
   obtain ⟨y147, hy147⟩ : ∃ y_ : List Int, y_ = (List.replicate (a0_1 : Int).toNat 0) := ⟨_, rfl⟩
   replace H : (field_multiply.l0 k t141 t144 y147 (wrap64 (a0_1 - 1)) a0_0 a0_1 l0_2) = some r := by (rw [hy147]; with_reducible exact H)
   have Ny147 := Aside0.mk hy147
   clear hy147
   have H' := Aside0.mk H
   clear H
   go_enter Try.func95, Try.ntmps95
   (go_wp2_with (((with_reducible refine gate_dst (N := 3) rfl ?_); refine box_event ?hg (N := 3) ?hd (cs := #[.int .i64 a0_0, .int .i64 a0_1, .slice A0_2 l0_2.length c0_2]) (t := 24) ?hr ?_; (case hd => rfl); (case hg => rfl); (case hr => (go_simp; done)); intro gb140 hg w8 hbox hb; have n0_ := Aside0.mk (below_step HB.out hb); have n1_ := Aside0.mk (hbox); have n2_ := Aside0.mk ((by rw [hg]; exact (below_size HB.out) : w.heap.size ≤ gb140)); have n3_ := Aside0.mk ((by rw [hg]; exact (below_size HB.out) : w.heap.size ≤ gb140)); clear HB; have HB := n0_; have BK140 := n1_; have GW140 := n2_; have GE140 := n3_; clear n0_ n1_ n2_ n3_; clear hb hbox hg)))
   have n0_ := Aside0.mk (blk_drew BK140.out)
   have n1_ := Aside0.mk (below_drew1 HB.out)
   clear BK140 HB
   have BK140 := n0_
   have HB := n1_
   clear n0_ n1_
   refine start_ (n := 14) (S := fun w' => w'.cell? ⟨gb140, 0, none⟩ = some (.int .i64 a0_0) ∧ w'.cell? ⟨gb140, 1, none⟩ = some (.int .i64 a0_1) ∧ w'.cell? ⟨gb140, 2, none⟩ = some (.slice A0_2 l0_2.length c0_2)) (ds := []) (bm 14 0) (by kernel_rfl) rfl rfl ⟨(blk_cell BK140.out 0).trans rfl, (blk_cell BK140.out 1).trans rfl, (blk_cell BK140.out 2).trans rfl⟩ (fun hHeld => ?_); refine with_tabW field_multiply.tab1 field_multiply.bits1 (fun HT_ HW_ => ?_)
   generalize w8.drew = w9 at BK140 HB hHeld ⊢
   refine pure_ (i := 0) (N := some 14) (v := ?_) (a' := ?_) (bm 14 1) rfl rfl (any_of HT_.out (by kernel_rfl)) (fun _ _ _ h => h) (Or.inl ⟨by rfl, ?_⟩) ?_ ?_;rotate_left;(intro w';go_simp;with_reducible rfl);rotate_left;(simp only [ps_];rfl)
   refine pure_ (i := 1) (N := some 15) (v := ?_) (a' := ?_) (bm 14 3) rfl rfl (any_of HT_.out (by kernel_rfl)) (fun _ _ _ h => h) (Or.inl ⟨by rfl, ?_⟩) ?_ ?_;rotate_left;(intro w';go_simp;with_reducible rfl);rotate_left;(simp only [ps_];rfl)
   refine pure_ (i := 3) (N := some 17) (v := ?_) (a' := ?_) (bm 14 11) rfl rfl (any_of HT_.out (by kernel_rfl)) (fun _ _ _ h => h) (Or.inl ⟨by rfl, ?_⟩) ?_ ?_;rotate_left;(intro w';go_simp;with_reducible rfl);rotate_left;(simp only [ps_];rfl)
   refine pure_ (i := 6) (N := some 20) (v := ?_) (a' := ?_) (bm 14 75) rfl rfl (any_of HT_.out (by kernel_rfl)) (fun _ _ _ h => h) (Or.inl ⟨by rfl, ?_⟩) ?_ ?_;rotate_left;(intro w';go_simp;with_reducible rfl);rotate_left;(simp only [ps_];rfl)
   refine pure_ (i := 7) (N := some 21) (v := ?_) (a' := ?_) (bm 14 203) rfl rfl (any_of HT_.out (by kernel_rfl)) (fun _ _ _ h => h) (Or.inl ⟨by rfl, ?_⟩) ?_ ?_;rotate_left;(intro w';go_simp;with_reducible rfl);rotate_left;(simp only [ps_];rfl)
   refine pure_ (i := 9) (N := some 23) (v := ?_) (a' := ?_) (bm 14 715) rfl rfl (any_of HT_.out (by kernel_rfl)) (fun _ _ _ h => h) (Or.inl ⟨by rfl, ?_⟩) ?_ ?_;rotate_left;(intro w';go_simp;with_reducible rfl);rotate_left;(simp only [ps_];rfl)
   refine take_ (i := 2) (N := some 16) (v := ?_) (a' := ?_) (bm 14 719) rfl rfl (take_ofW HT_.out HW_.out (by kernel_rfl)) (fun _ _ _ h => h) (Or.inl ⟨by rfl, ?_⟩) hHeld ?_ ?_;rotate_left;(rintro w' ⟨s0, s1, s2⟩;go_simp;with_reducible rfl);rotate_left;(simp only [ps_];rfl)
   refine take_ (i := 4) (N := some 18) (v := ?_) (a' := ?_) (bm 14 735) rfl rfl (take_ofW HT_.out HW_.out (by kernel_rfl)) (fun _ _ _ h => h) (Or.inl ⟨by rfl, ?_⟩) hHeld ?_ ?_;rotate_left;(rintro w' ⟨s0, s1, s2⟩;go_simp;with_reducible rfl);rotate_left;(simp only [ps_];rfl)
   refine take_ (i := 8) (N := some 22) (v := ?_) (a' := ?_) (bm 14 991) rfl rfl (take_ofW HT_.out HW_.out (by kernel_rfl)) (fun _ _ _ h => h) (Or.inl ⟨by rfl, ?_⟩) hHeld ?_ ?_;rotate_left;(rintro w' ⟨s0, s1, s2⟩;go_simp;with_reducible rfl);rotate_left;(simp only [ps_];rfl)
   refine take_ (i := 10) (N := some 24) (v := ?_) (a' := ?_) (bm 14 2015) rfl rfl (take_ofW HT_.out HW_.out (by kernel_rfl)) (fun _ _ _ h => h) (Or.inl ⟨by rfl, ?_⟩) hHeld ?_ ?_;rotate_left;(rintro w' ⟨s0, s1, s2⟩;go_simp;with_reducible rfl);rotate_left;(simp only [ps_];rfl)
   refine one_ (i := 5) (N := some 19) (bm 14 2047) rfl rfl (one_of HT_.out (by kernel_rfl)) (by decide) (fun K hK => ?_)
   refine goes_ Try.func97 (by kernel_rfl) rfl #[.int .i64 a1, .int .i64 a0_0, .int .i64 a0_1] (by rfl) rfl rfl (by ((simp only [List.map_toArray, List.map_cons, List.map_nil])); (rfl)) ?_
   with_reducible refine (field_digitsOf.calls k a1 a0_0 a0_1 t141 _ A4.out).mono ?_
   rintro e w10 ⟨v142, rfl, ho0, hb⟩
   refine ⟨_, rfl, ?_⟩
   have n0_ := Aside0.mk (Kd.R_lower ho0 (below_size HB.out))
   have n1_ := Aside0.mk (blk_below (g := gb140) (o := .cells #[.int .i64 a0_0, .int .i64 a0_1, .slice A0_2 l0_2.length c0_2] 24 (0, 0)) BK140.out hb)
   have n2_ := Aside0.mk (below_step HB.out hb)
   clear BK140 HB
   have HO143 := n0_
   have BK140 := n1_
   have HB := n2_
   clear n0_ n1_ n2_
   ((clear hb))
   ((clear ho0))
   refine hK.out _ _ ⟨(blk_cell BK140.out 0).trans rfl, (blk_cell BK140.out 1).trans rfl, (blk_cell BK140.out 2).trans rfl⟩ (fun hHeld => ?_)
   clear hK K
   refine norm_ (a' := ?_) ?_ ?_
   rotate_left
   ·show Act.put _ (some 19) _ = _
    simp only [Act.put, List.setIfInBounds_toArray, List.set_cons_zero, List.set_cons_succ, i64_w, i32_w]
    rfl
   refine one_ (i := 11) (N := some 25) (bm 14 4095) rfl rfl (one_of HT_.out (by kernel_rfl)) (by decide) (fun K hK => ?_)
   refine goes_ Try.func97 (by kernel_rfl) rfl #[.int .i64 a2, .int .i64 a0_0, .int .i64 a0_1] (by rfl) rfl rfl (by ((simp only [List.map_toArray, List.map_cons, List.map_nil])); (rfl)) ?_
   with_reducible refine (field_digitsOf.calls k a2 a0_0 a0_1 t144 _ A5.out).mono ?_
   rintro e w11 ⟨v145, rfl, ho0, hb⟩
   refine ⟨_, rfl, ?_⟩
   have n0_ := Aside0.mk (Kd.R_elder' HO143.out (Kd.R_base ho0) hb)
   have n1_ := Aside0.mk (Kd.R_lower (Kd.R_new' ho0 (Kd.R_lt HO143.out)) (below_size HB.out))
   have n2_ := Aside0.mk (blk_below (g := gb140) (o := .cells #[.int .i64 a0_0, .int .i64 a0_1, .slice A0_2 l0_2.length c0_2] 24 (0, 0)) BK140.out hb)
   have n3_ := Aside0.mk (below_step HB.out hb)
   clear HO143 BK140 HB
   have HO143 := n0_
   have HO146 := n1_
   have BK140 := n2_
   have HB := n3_
   clear n0_ n1_ n2_ n3_
   ((clear hb))
   ((clear ho0))
   refine hK.out _ _ ⟨(blk_cell BK140.out 0).trans rfl, (blk_cell BK140.out 1).trans rfl, (blk_cell BK140.out 2).trans rfl⟩ (fun hHeld => ?_)
   clear hK K
   refine norm_ (a' := ?_) ?_ ?_
   rotate_left
   ·show Act.put _ (some 25) _ = _
    simp only [Act.put, List.setIfInBounds_toArray, List.set_cons_zero, List.set_cons_succ, i64_w, i32_w]
    rfl
   refine pure_ (i := 12) (N := some 7) (v := ?_) (a' := ?_) (bm 14 8191) rfl rfl (any_of HT_.out (by kernel_rfl)) (fun _ _ _ h => h) (Or.inl ⟨by rfl, ?_⟩) ?_ ?_;rotate_left;(intro w';go_simp;with_reducible rfl);rotate_left;(simp only [ps_];rfl)
   refine pure_ (i := 13) (N := some 8) (v := ?_) (a' := ?_) (bm 14 16383) rfl rfl (any_of HT_.out (by kernel_rfl)) (fun _ _ _ h => h) (Or.inl ⟨by rfl, ?_⟩) ?_ ?_;rotate_left;(intro w';go_simp;with_reducible rfl);rotate_left;(simp only [ps_];rfl)
   refine done_ (done_of HT_.out (by kernel_rfl)) ?_
   have hcz12_0 : w11.cell? ⟨gb140, 0, none⟩ = some (.int .i64 a0_0) := (blk_cell BK140.out 0).trans rfl
   have hcz12_1 : w11.cell? ⟨gb140, 1, none⟩ = some (.int .i64 a0_1) := (blk_cell BK140.out 1).trans rfl
   have hcz12_2 : w11.cell? ⟨gb140, 2, none⟩ = some (.slice A0_2 l0_2.length c0_2) := (blk_cell BK140.out 2).trans rfl
   have hfz12_0 := blk_frozen BK140.out 0
   have hfz12_1 := blk_frozen BK140.out 1
   have hfz12_2 := blk_frozen BK140.out 2
   (go_wp2_with (((with_reducible refine gate_dst (N := 28) rfl ?_); refine Kd.R_make (Kd.int .i64) _ 3 rfl (N := 28) rfl 22 _ _ rfl a0_1 rfl rfl Try.underlying22 (.int .i64 0) 8 info3 rfl (by decide) (by omega) 0 (ok := fun _ => True) (okp := fun _ => True) rfl (fun _ hk => hk) trivial (of_decide_eq_true (by (with_reducible assumption))) (Nat.le_trans (Nat.mul_le_mul_right _ (of_decide_eq_true (by (with_reducible assumption)) : a0_1.toNat ≤ 35184372088832)) (by omega)) (Below.refl _ _) (Nat.le_refl _) ?_; intro v148 w13 ho14 hb hg_ hnew_; clear hg_ hnew_; ((rw [← Ny147.out] at ho14)); have n0_ := Aside0.mk (Kd.R_elder' HO143.out (Kd.R_base ho14) hb); have n1_ := Aside0.mk (Kd.R_elder' HO146.out (Kd.R_base ho14) hb); have n2_ := Aside0.mk (Kd.R_lower (Kd.R_new' (Kd.R_new' ho14 (Kd.R_lt HO143.out)) (Kd.R_lt HO146.out)) (below_size HB.out)); have n3_ := Aside0.mk (blk_below (g := gb140) (o := .cells #[.int .i64 a0_0, .int .i64 a0_1, .slice A0_2 l0_2.length c0_2] 24 (0, 0)) BK140.out hb); have n4_ := Aside0.mk (below_step HB.out hb); clear HO143; clear HO146; clear BK140; clear HB; have HO143 := n0_; have HO146 := n1_; have HO149 := n2_; have BK140 := n3_; have HB := n4_; clear n0_ n1_ n2_ n3_ n4_; clear hb ho14; have hcz15_0 : w13.cell? ⟨gb140, 0, none⟩ = some (.int .i64 a0_0) := (blk_cell BK140.out 0).trans rfl; have hcz15_1 : w13.cell? ⟨gb140, 1, none⟩ = some (.int .i64 a0_1) := (blk_cell BK140.out 1).trans rfl; have hcz15_2 : w13.cell? ⟨gb140, 2, none⟩ = some (.slice A0_2 l0_2.length c0_2) := (blk_cell BK140.out 2).trans rfl; have hfz15_0 := blk_frozen BK140.out 0; have hfz15_1 := blk_frozen BK140.out 1; have hfz15_2 := blk_frozen BK140.out 2)))
   go_loopg [10] k (fun kq v10 w' => ∃ (x9_1 : List Int) (x10_1 : Int), v10 = .int .i64 x10_1 ∧ Aside0 (field_multiply.l0 kq t141 t144 x9_1 x10_1 a0_0 a0_1 l0_2 = some r) ∧ Aside0 (kq ≤ k) ∧ Aside0 (Kd.R (Kd.int .i64) 3 w' w.heap.size (fun k_ => some k_ ≠ (v145 : Value).ownBlock ∧ some k_ ≠ (v148 : Value).ownBlock) v142 t141) ∧ Aside0 (Kd.R (Kd.int .i64) 3 w' w.heap.size (fun k_ => some k_ ≠ (v142 : Value).ownBlock ∧ some k_ ≠ (v148 : Value).ownBlock) v145 t144) ∧ Aside0 (Kd.R (Kd.int .i64) 3 w' w.heap.size (fun k_ => some k_ ≠ (v142 : Value).ownBlock ∧ some k_ ≠ (v145 : Value).ownBlock) v148 x9_1) ∧ Aside0 (w'.heap[gb140]? = some (.cells #[.int .i64 a0_0, .int .i64 a0_1, (.slice A0_2 l0_2.length c0_2)] 24 (0, 0))) ∧ Aside0 (Below w.heap.size w w'))
   case atStart => exact ⟨(y147), (wrap64 (a0_1 - 1)), (by rfl), H', ⟨Nat.le_refl _⟩, ⟨by exact Kd.R_mono HO143.out (fun _ hk => ⟨hk.1.2, hk.2⟩)⟩, ⟨by exact Kd.R_mono HO146.out (fun _ hk => ⟨hk.1.2, hk.2⟩)⟩, ⟨by exact Kd.R_mono HO149.out (fun _ hk => ⟨hk.1.2, hk.2⟩)⟩, ⟨BK140.out⟩, ⟨HB.out⟩⟩
   case round =>
    clear H' c6b0 c6b1 c7b0 c7b1 hcz12_0 hcz12_1 hcz12_2 hcz15_0 hcz15_1 hcz15_2 hfz12_0 hfz12_1 hfz12_2 hfz15_0 hfz15_1 hfz15_2
    obtain ⟨x9_1, x10_1, rfl, HA, HK1, HO_7, HO_8, HO_9, BK140, HB⟩ := hrel
    cases gk with
    | zero => exact absurd HA.out (by simp [field_multiply.l0])
    | succ k1 =>
     have H := HA.out
     clear HA
     simp only [field_multiply.l0] at H
     by_cases c16 : x10_1 ≥ 0
     ·rw [if_pos c16] at H
      have c16b0 : decide (0 ≤ x10_1) = true := decide_eq_true c16
      clear c16
      obtain ⟨ji17, hji17⟩ : ∃ j_ : Int, (wrap64 (a0_1 - 1)) = j_ := ⟨_, rfl⟩
      replace H : (if 0 ≤ (ji17) then (if (ji17) < (x9_1.length : Int) then (if 0 < (x9_1.length : Int) then (field_multiply.l1 k1 t141 t144 ((splice x9_1 1 (x9_1.take (ji17).toNat)).set (0 : Int).toNat 0) x10_1 (rd x9_1 (ji17)) (x9_1.length : Int) 0 a0_0 a0_1 l0_2) else (none)) else (none)) else (none)) = some r := by (rw [hji17] at H; exact H)
      have hji17w : (IntKind.i64.wrap (a0_1 - 1)) = ji17 := (i64_w _).trans hji17
      by_cases c18 : 0 ≤ (ji17)
      ·rw [if_pos c18] at H
       have c18b0 : decide (0 ≤ (ji17)) = true := decide_eq_true c18
       clear c18
       by_cases c19 : (ji17) < (x9_1.length : Int)
       ·rw [if_pos c19] at H
        have c19b0 : decide ((ji17) < (x9_1.length : Int)) = true := decide_eq_true c19
        clear c19
        by_cases c20 : 0 < (x9_1.length : Int)
        ·rw [if_pos c20] at H
         have c20b0 : decide (0 < (x9_1.length : Int)) = true := decide_eq_true c20
         have c20b1 : decide (0 < x9_1.length) = true := decide_eq_true (by omega)
         clear c20
         obtain ⟨y152, hy152⟩ : ∃ y_ : List Int, y_ = ((splice x9_1 1 (x9_1.take (ji17).toNat)).set (0 : Int).toNat 0) := ⟨_, rfl⟩
         replace H : (field_multiply.l1 k1 t141 t144 y152 x10_1 (rd x9_1 (ji17)) (x9_1.length : Int) 0 a0_0 a0_1 l0_2) = some r := by (rw [hy152]; with_reducible exact H)
         have Ny152 := Aside0.mk hy152
         clear hy152
         have H' := Aside0.mk H
         clear H
         have hcz22_0 : wr.cell? ⟨gb140, 0, none⟩ = some (.int .i64 a0_0) := (blk_cell BK140.out 0).trans rfl
         have hcz22_1 : wr.cell? ⟨gb140, 1, none⟩ = some (.int .i64 a0_1) := (blk_cell BK140.out 1).trans rfl
         have hcz22_2 : wr.cell? ⟨gb140, 2, none⟩ = some (.slice A0_2 l0_2.length c0_2) := (blk_cell BK140.out 2).trans rfl
         have hfz22_0 := blk_frozen BK140.out 0
         have hfz22_1 := blk_frozen BK140.out 1
         have hfz22_2 := blk_frozen BK140.out 2
         obtain ⟨Ao23, co23, eo23⟩ := Kd.R_slice HO_9.out
         subst eo23
         have p151 : 0 ≤ ((ji17) : Int) := of_decide_eq_true (by (with_reducible assumption))
         have q151 : (ji17) < (x9_1.length : Int) := of_decide_eq_true (by (with_reducible assumption))
         obtain ⟨ad151, e151, hx151_0⟩ := Kd.at_int (Kd.R_reads' HO_9.out).2.2 (ji17) p151 q151
         cases e151
         replace p151 := eq_true p151
         replace q151 := eq_true q151
         have p21 : 0 ≤ (0 : Int) := (by omega)
         have q21 : (0 : Int) < ((x9_1.length : Int) : Int) := of_decide_eq_true (by (with_reducible assumption))
         have qi21 : (0 < x9_1.length) = True := eq_true (by omega)
         obtain ⟨go21, co21, eo21, gb21, gl21, cl21, HG21⟩ := Kd.R_form HO_9.out (by omega)
         ((cases eo21))
         have GB21 := Aside0.mk gb21
         have GG21 := Aside0.mk HG21
         clear gb21 gl21 HG21
         ((simp only [add_plain] at hx151_0))
         have hcapA : x9_1.length ≤ co23 := (Kd.R_reads' HO_9.out).2.1
         have hjA : (ji17).toNat < x9_1.length := by have z1 := of_eq_true q151; have z2 := of_eq_true p151; omega
         have hjB : (1 : Int) ≤ (x9_1.length : Int) := by omega
         have hjC : ji17 ≤ (co23 : Int) := by have z1 := of_eq_true q151; omega
         have hjD : 0 < (ji17).toNat → (if co23 = 1 then some (⟨go21, 0, none⟩ : Addr) else some ⟨go21, 1, none⟩) = some ⟨go21, 1, none⟩ := by
          intro hz; rw [if_neg (by omega)]
         have HD7 := Aside0.mk (Kd.R_drew HO_7.out)
         have HD8 := Aside0.mk (Kd.R_drew HO_8.out)
         have HD9 := Aside0.mk (Kd.R_drew HO_9.out)
         have HDB := Aside0.mk (blk_drew BK140.out)
         have HDW := Aside0.mk (below_drew1 HB.out)
         clear HO_7 HO_8 HO_9 BK140 HB
         go_wp2
         go_region_law (refine step_copy_row rfl (.tmp 43) (.tmp 48) 22 22 rfl 3 Try.underlying22 (by kernel_rfl) go21 x9_1.length co23 (ji17).toNat (if co23 = 1 then some ⟨go21, 0, none⟩ else some ⟨go21, 1, none⟩) (co23 - 1) co23 (by simp [Act.eval, Act.put]) (by simp [Act.eval, Act.put]) x9_1 _ _ HD9 hjA hjD ?_; intro wr HRn HGn)
         generalize (if co23 = 1 then (some (⟨go21, 0, none⟩ : Addr)) else some ⟨go21, 1, none⟩) = dpA at *
         clear hcz22_0 hcz22_1 hcz22_2 hfz22_0 hfz22_1 hfz22_2
         have HO_7 := Aside0.mk (Kd.R_after (v := (.slice (some ⟨go21, 0, none⟩) x9_1.length co23)) (v1 := (.slice (some ⟨go21, 0, none⟩) x9_1.length co23)) (ok := (fun k_ => some k_ ≠ (v145 : Value).ownBlock)) HD7.out HGn.out (.inl rfl))
         have HO_8 := Aside0.mk (Kd.R_after (v := (.slice (some ⟨go21, 0, none⟩) x9_1.length co23)) (v1 := (.slice (some ⟨go21, 0, none⟩) x9_1.length co23)) (ok := (fun k_ => some k_ ≠ (v142 : Value).ownBlock)) HD8.out HGn.out (.inl rfl))
         have BK140 := Aside0.mk (blk_grown HDB.out HGn.out (Kd.R_ne HD9.out HDB.out (by decide)))
         have HB := Aside0.mk (pw_below_grown HDW.out _ HDW.out.size HGn.out (fun k hk => by injection hk with hk; rw [← hk]; exact GB21.out))
         clear HD7 HD8 HD9 HDB HDW HGn hjA hjB hjC hjD hcapA hx151_0
         have HO_9 := HRn
         clear HRn
         obtain ⟨hx21_0, hf21_0⟩ := Kd.R_celln 0 HO_9.out (0 : Int) p21 q21
         ((rw [show ((0 : Int)).toNat = 0 from rfl] at hx21_0))
         ((rw [show ((0 : Int)).toNat = 0 from rfl] at hf21_0))
         replace p21 := eq_true p21
         replace q21 := eq_true q21
         have HP24 := Kd.R_putg HO_9.out (0 : Int) 0
         go_wp2_with (((with_reducible refine gate_store (t := 3) (p := 51) rfl ?_); refine store_event (t := 3) (p := 51) (v := ?vo_w25) (w1 := (wr.setCell ⟨go21, (0 : Int).toNat, none⟩ (.int .i64 0))) ?hg ?ho ?hn ?hr ?_; (case ho => rfl); (case hg => rfl); (case hn => rfl); (case hr => (go_simp; done)); intro w25 hw; have hg : wr.grownBy w25 (some go21) := (by rw [hw]; exact HP24.2); have hp_ : Kd.R (Kd.int .i64) 3 w25 w.heap.size (fun k_ => some k_ ≠ (v142 : Value).ownBlock ∧ some k_ ≠ (v145 : Value).ownBlock) (.slice (some ⟨go21, 0, none⟩) x9_1.length co23) y152 := (by rw [hw, Ny152.out]; exact HP24.1); clear HP24; have n0_ := Aside0.mk (Kd.R_after (v := (.slice (some ⟨go21, 0, none⟩) x9_1.length co23)) (v1 := (.slice (some ⟨go21, 0, none⟩) x9_1.length co23)) (ok := (fun k_ => some k_ ≠ (v145 : Value).ownBlock)) HO_7.out hg (.inl rfl)); have n1_ := Aside0.mk (Kd.R_after (v := (.slice (some ⟨go21, 0, none⟩) x9_1.length co23)) (v1 := (.slice (some ⟨go21, 0, none⟩) x9_1.length co23)) (ok := (fun k_ => some k_ ≠ (v142 : Value).ownBlock)) HO_8.out hg (.inl rfl)); have n2_ := Aside0.mk (hp_); have n3_ := Aside0.mk (blk_grown (g := gb140) (o := .cells #[.int .i64 a0_0, .int .i64 a0_1, .slice A0_2 l0_2.length c0_2] 24 (0, 0)) BK140.out hg (Kd.R_ne HO_9.out BK140.out (by decide))); have n4_ := Aside0.mk ((by rw [hw]; exact below_set (HB.out) GB21.out : Below w.heap.size w w25)); clear HO_7; clear HO_8; clear HO_9; clear BK140; clear HB; have HO_7 := n0_; have HO_8 := n1_; have HO_9 := n2_; have BK140 := n3_; have HB := n4_; clear n0_ n1_ n2_ n3_ n4_; clear hg hw hp_))
         go_loopg [54] k1 (fun kq v54 w' => ∃ (x9_2 : List Int) (x54_2 : Int), v54 = .int .i64 x54_2 ∧ Aside0 (field_multiply.l1 kq t141 t144 x9_2 x10_1 (rd x9_1 (ji17)) (x9_1.length : Int) x54_2 a0_0 a0_1 l0_2 = some r) ∧ Aside0 (kq ≤ k1) ∧ Aside0 (Kd.R (Kd.int .i64) 3 w' w.heap.size (fun k_ => some k_ ≠ (v145 : Value).ownBlock ∧ some k_ ≠ ((.slice (some ⟨go21, 0, none⟩) x9_1.length co23) : Value).ownBlock) v142 t141) ∧ Aside0 (Kd.R (Kd.int .i64) 3 w' w.heap.size (fun k_ => some k_ ≠ (v142 : Value).ownBlock ∧ some k_ ≠ ((.slice (some ⟨go21, 0, none⟩) x9_1.length co23) : Value).ownBlock) v145 t144) ∧ Aside0 (Kd.R (Kd.int .i64) 3 w' w.heap.size (fun k_ => some k_ ≠ (v142 : Value).ownBlock ∧ some k_ ≠ (v145 : Value).ownBlock) (.slice (some ⟨go21, 0, none⟩) x9_1.length co23) x9_2) ∧ Aside0 (w'.heap[gb140]? = some (.cells #[.int .i64 a0_0, .int .i64 a0_1, (.slice A0_2 l0_2.length c0_2)] 24 (0, 0))) ∧ Aside0 (Below w.heap.size w w'))
         case atStart => exact ⟨(y152), (0), (by rfl), H', ⟨Nat.le_refl _⟩, ⟨HO_7.out⟩, ⟨HO_8.out⟩, ⟨HO_9.out⟩, ⟨BK140.out⟩, ⟨HB.out⟩⟩
         case round =>
          clear H' c16b0 c18b0 c19b0 c20b0 c20b1 p21 q21 qi21 hx21_0 p151 q151
          obtain ⟨x9_2, x54_2, rfl, HA, HK2, HO_7, HO_8, HO_9, BK140, HB⟩ := hrel
          have hl9_2 := (Kd.R_reads' HO_9.out).1
          rw [hl9_2] at HO_9
          ((simp only [hl9_2]))
          ((simp only [hl9_2] at HO_7))
          ((simp only [hl9_2] at HO_8))
          cases gk with
          | zero => exact absurd HA.out (by simp [field_multiply.l1])
          | succ k2 =>
           have H := HA.out
           clear HA
           simp only [field_multiply.l1] at H
           by_cases c26 : x54_2 < (x9_1.length : Int)
           ·rw [if_pos c26] at H
            have c26b0 : decide (x54_2 < (x9_1.length : Int)) = true := decide_eq_true c26
            clear c26
            by_cases c27 : a0_1 > 1
            ·rw [if_pos c27] at H
             have c27b0 : decide (1 < a0_1) = true := decide_eq_true c27
             clear c27
             by_cases c28 : 0 ≤ x54_2
             ·rw [if_pos c28] at H
              have c28b0 : decide (0 ≤ x54_2) = true := decide_eq_true c28
              clear c28
              by_cases c29 : x54_2 < (l0_2.length : Int)
              ·rw [if_pos c29] at H
               have c29b0 : decide (x54_2 < (l0_2.length : Int)) = true := decide_eq_true c29
               clear c29
               by_cases c30 : x54_2 < (x9_2.length : Int)
               ·rw [if_pos c30] at H
                have c30b0 : decide (x54_2 < (x9_2.length : Int)) = true := decide_eq_true c30
                clear c30
                by_cases c31 : 0 ≤ x10_1
                ·rw [if_pos c31] at H
                 have c31b0 : decide (0 ≤ x10_1) = true := decide_eq_true c31
                 clear c31
                 by_cases c32 : x10_1 < (t144.length : Int)
                 ·rw [if_pos c32] at H
                  have c32b0 : decide (x10_1 < (t144.length : Int)) = true := decide_eq_true c32
                  clear c32
                  by_cases c33 : x54_2 < (t141.length : Int)
                  ·rw [if_pos c33] at H
                   have c33b0 : decide (x54_2 < (t141.length : Int)) = true := decide_eq_true c33
                   clear c33
                   by_cases c34 : a0_0 = 0
                   ·rw [if_pos c34] at H
                    exact absurd H (by simp)
                   ·rw [if_neg c34] at H
                    have c34b0 : (a0_0 == 0) = false := beq_eq_false_iff_ne.mpr c34
                    have c34b1 : (a0_0 != 0) = true := bne_iff_ne.mpr c34
                    obtain ⟨y157, hy157⟩ : ∃ y_ : List Int, y_ = (x9_2.set (x54_2 : Int).toNat (Int.tmod (wrap64 ((wrap64 ((rd x9_2 x54_2) + (wrap64 ((wrap64 (a0_0 - (rd x9_1 (ji17)))) * (rd l0_2 x54_2))))) + (wrap64 ((rd t144 x10_1) * (rd t141 x54_2))))) a0_0)) := ⟨_, rfl⟩
                    replace H : (field_multiply.l1 k2 t141 t144 y157 x10_1 (rd x9_1 (ji17)) (x9_1.length : Int) (wrap64 (x54_2 + 1)) a0_0 a0_1 l0_2) = some r := by (rw [hy157]; with_reducible exact H)
                    have Ny157 := Aside0.mk hy157
                    clear hy157
                    have H' := Aside0.mk H
                    clear H
                    have hcz36_0 : wr.cell? ⟨gb140, 0, none⟩ = some (.int .i64 a0_0) := (blk_cell BK140.out 0).trans rfl
                    have hcz36_1 : wr.cell? ⟨gb140, 1, none⟩ = some (.int .i64 a0_1) := (blk_cell BK140.out 1).trans rfl
                    have hcz36_2 : wr.cell? ⟨gb140, 2, none⟩ = some (.slice A0_2 l0_2.length c0_2) := (blk_cell BK140.out 2).trans rfl
                    have hfz36_0 := blk_frozen BK140.out 0
                    have hfz36_1 := blk_frozen BK140.out 1
                    have hfz36_2 := blk_frozen BK140.out 2
                    have p153 : 0 ≤ (x54_2 : Int) := of_decide_eq_true (by (with_reducible assumption))
                    have q153 : x54_2 < (l0_2.length : Int) := of_decide_eq_true (by (with_reducible assumption))
                    obtain ⟨ad153, e153, hx153_0⟩ := Kd.at_int HR0_2.out x54_2 p153 q153
                    cases e153
                    replace hx153_0 := (HB.out.cell (World.block_lt_of_cell? w _ hx153_0)).trans hx153_0
                    replace p153 := eq_true p153
                    replace q153 := eq_true q153
                    (go_wp2)
                    have n0_ := Aside0.mk (Kd.R_drew HO_7.out)
                    have n1_ := Aside0.mk (Kd.R_drew HO_8.out)
                    have n2_ := Aside0.mk (Kd.R_drew HO_9.out)
                    have n3_ := Aside0.mk (blk_drew BK140.out)
                    have n4_ := Aside0.mk (below_drew1 HB.out)
                    clear HO_7 HO_8 HO_9 BK140 HB
                    have HO_7 := n0_
                    have HO_8 := n1_
                    have HO_9 := n2_
                    have BK140 := n3_
                    have HB := n4_
                    clear n0_ n1_ n2_ n3_ n4_
                    have p154 : 0 ≤ (x54_2 : Int) := of_decide_eq_true (by (with_reducible assumption))
                    have q154 : x54_2 < (x9_2.length : Int) := of_decide_eq_true (by (with_reducible assumption))
                    obtain ⟨ad154, e154, hx154_0⟩ := Kd.at_int (Kd.R_reads' HO_9.out).2.2 x54_2 p154 q154
                    obtain rfl : (⟨go21, 0, none⟩ : Addr) = ad154 := (by injection e154)
                    ((simp only [add_plain] at hx154_0))
                    replace p154 := eq_true p154
                    replace q154 := eq_true q154
                    obtain ⟨Ao38, co38, eo38⟩ := Kd.R_slice HO_8.out
                    ((subst eo38))
                    have p155 : 0 ≤ (x10_1 : Int) := of_decide_eq_true (by (with_reducible assumption))
                    have q155 : x10_1 < (t144.length : Int) := of_decide_eq_true (by (with_reducible assumption))
                    obtain ⟨ad155, e155, hx155_0⟩ := Kd.at_int (Kd.R_reads' HO_8.out).2.2 x10_1 p155 q155
                    cases e155
                    replace p155 := eq_true p155
                    replace q155 := eq_true q155
                    obtain ⟨Ao39, co39, eo39⟩ := Kd.R_slice HO_7.out
                    ((subst eo39))
                    have p156 : 0 ≤ (x54_2 : Int) := of_decide_eq_true (by (with_reducible assumption))
                    have q156 : x54_2 < (t141.length : Int) := of_decide_eq_true (by (with_reducible assumption))
                    obtain ⟨ad156, e156, hx156_0⟩ := Kd.at_int (Kd.R_reads' HO_7.out).2.2 x54_2 p156 q156
                    cases e156
                    replace p156 := eq_true p156
                    replace q156 := eq_true q156
                    have p35 : 0 ≤ (x54_2 : Int) := of_decide_eq_true (by (with_reducible assumption))
                    have q35 : (x54_2 : Int) < ((x9_2.length : Int) : Int) := of_decide_eq_true (by (with_reducible assumption))
                    obtain ⟨hx35_0, hf35_0⟩ := Kd.R_celln 0 HO_9.out (x54_2 : Int) p35 q35
                    replace p35 := eq_true p35
                    replace q35 := eq_true q35
                    have HP40 := Kd.R_putn HO_9.out (x54_2 : Int) (Int.tmod (wrap64 ((wrap64 ((rd x9_2 x54_2) + (wrap64 ((wrap64 (a0_0 - (rd x9_1 (ji17)))) * (rd l0_2 x54_2))))) + (wrap64 ((rd t144 x10_1) * (rd t141 x54_2))))) a0_0)
                    rw [← Ny157.out] at HP40
                    have HQ40 := Aside0.mk HP40
                    clear HP40
                    refine start_ (n := 28) (S := fun w' => w'.cell? ⟨gb140, 0, none⟩ = some (.int .i64 a0_0) ∧ w'.cell? ⟨gb140, 1, none⟩ = some (.int .i64 a0_1) ∧ w'.cell? ⟨gb140, 2, none⟩ = some (.slice (some ad153) l0_2.length c0_2) ∧ w'.cell? ⟨go21, (x54_2).toNat, none⟩ = some (.int .i64 (rd x9_2 x54_2)) ∧ w'.cell? (ad155.add (x10_1).toNat) = some (.int .i64 (rd t144 x10_1)) ∧ w'.cell? (ad156.add (x54_2).toNat) = some (.int .i64 (rd t141 x54_2))) (ds := [27]) (bm 28 0) (by kernel_rfl) rfl rfl ⟨(blk_cell BK140.out 0).trans rfl, (blk_cell BK140.out 1).trans rfl, (blk_cell BK140.out 2).trans rfl, hx154_0, hx155_0, hx156_0⟩ (fun hHeld => ?_); refine with_tabW field_multiply.tab15 field_multiply.bits15 (fun HT_ HW_ => ?_)
                    generalize wr.drew = w37 at HO_7 HO_8 HO_9 BK140 HB HQ40 hf35_0 hx154_0 hx155_0 hx156_0 hx35_0 hHeld ⊢
                    refine pure_ (i := 0) (N := some 65) (v := ?_) (a' := ?_) (bm 28 1) rfl rfl (any_of HT_.out (by kernel_rfl)) (fun _ _ _ h => h) (Or.inl ⟨by rfl, ?_⟩) ?_ ?_;rotate_left;(intro w';go_simp;with_reducible rfl);rotate_left;(simp only [ps_];rfl)
                    refine pure_ (i := 1) (N := some 66) (v := ?_) (a' := ?_) (bm 28 3) rfl rfl (any_of HT_.out (by kernel_rfl)) (fun _ _ _ h => h) (Or.inl ⟨by rfl, ?_⟩) ?_ ?_;rotate_left;(intro w';go_simp;with_reducible rfl);rotate_left;(simp only [ps_];rfl)
                    refine pure_ (i := 2) (N := some 67) (v := ?_) (a' := ?_) (bm 28 7) rfl rfl (any_of HT_.out (by kernel_rfl)) (fun _ _ _ h => h) (Or.inl ⟨by rfl, ?_⟩) ?_ ?_;rotate_left;(intro w';go_simp;with_reducible rfl);rotate_left;(simp only [ps_];rfl)
                    refine pure_ (i := 3) (N := some 68) (v := ?_) (a' := ?_) (bm 28 15) rfl rfl (any_of HT_.out (by kernel_rfl)) (fun _ _ _ h => h) (Or.inl ⟨by rfl, ?_⟩) ?_ ?_;rotate_left;(intro w';go_simp;with_reducible rfl);rotate_left;(simp only [ps_];rfl)
                    refine pure_ (i := 4) (N := some 69) (v := ?_) (a' := ?_) (bm 28 31) rfl rfl (any_of HT_.out (by kernel_rfl)) (fun _ _ _ h => h) (Or.inl ⟨by rfl, ?_⟩) ?_ ?_;rotate_left;(intro w';go_simp;with_reducible rfl);rotate_left;(simp only [ps_];rfl)
                    refine pure_ (i := 6) (N := some 71) (v := ?_) (a' := ?_) (bm 28 95) rfl rfl (any_of HT_.out (by kernel_rfl)) (fun _ _ _ h => h) (Or.inl ⟨by rfl, ?_⟩) ?_ ?_;rotate_left;(intro w';go_simp;with_reducible rfl);rotate_left;(simp only [ps_];rfl)
                    refine pure_ (i := 8) (N := some 73) (v := ?_) (a' := ?_) (bm 28 351) rfl rfl (any_of HT_.out (by kernel_rfl)) (fun _ _ _ h => h) (Or.inl ⟨by rfl, ?_⟩) ?_ ?_;rotate_left;(intro w';go_simp;with_reducible rfl);rotate_left;(simp only [ps_];rfl)
                    refine pure_ (i := 10) (N := some 75) (v := ?_) (a' := ?_) (bm 28 1375) rfl rfl (any_of HT_.out (by kernel_rfl)) (fun _ _ _ h => h) (Or.inl ⟨by rfl, ?_⟩) ?_ ?_;rotate_left;(intro w';go_simp;with_reducible rfl);rotate_left;(simp only [ps_];rfl)
                    refine pure_ (i := 13) (N := some 78) (v := ?_) (a' := ?_) (bm 28 9567) rfl rfl (any_of HT_.out (by kernel_rfl)) (fun _ _ _ h => h) (Or.inl ⟨by rfl, ?_⟩) ?_ ?_;rotate_left;(intro w';go_simp;with_reducible rfl);rotate_left;(simp only [ps_];rfl)
                    refine pure_ (i := 14) (N := some 79) (v := ?_) (a' := ?_) (bm 28 25951) rfl rfl (any_of HT_.out (by kernel_rfl)) (fun _ _ _ h => h) (Or.inl ⟨by rfl, ?_⟩) ?_ ?_;rotate_left;(intro w';go_simp;with_reducible rfl);rotate_left;(simp only [ps_];rfl)
                    refine pure_ (i := 15) (N := some 80) (v := ?_) (a' := ?_) (bm 28 58719) rfl rfl (any_of HT_.out (by kernel_rfl)) (fun _ _ _ h => h) (Or.inl ⟨by rfl, ?_⟩) ?_ ?_;rotate_left;(intro w';go_simp;with_reducible rfl);rotate_left;(simp only [ps_];rfl)
                    refine pure_ (i := 17) (N := some 82) (v := ?_) (a' := ?_) (bm 28 189791) rfl rfl (any_of HT_.out (by kernel_rfl)) (fun _ _ _ h => h) (Or.inl ⟨by rfl, ?_⟩) ?_ ?_;rotate_left;(intro w';go_simp;with_reducible rfl);rotate_left;(simp only [ps_];rfl)
                    refine pure_ (i := 18) (N := some 83) (v := ?_) (a' := ?_) (bm 28 451935) rfl rfl (any_of HT_.out (by kernel_rfl)) (fun _ _ _ h => h) (Or.inl ⟨by rfl, ?_⟩) ?_ ?_;rotate_left;(intro w';go_simp;with_reducible rfl);rotate_left;(simp only [ps_];rfl)
                    refine pure_ (i := 19) (N := some 84) (v := ?_) (a' := ?_) (bm 28 976223) rfl rfl (any_of HT_.out (by kernel_rfl)) (fun _ _ _ h => h) (Or.inl ⟨by rfl, ?_⟩) ?_ ?_;rotate_left;(intro w';go_simp;with_reducible rfl);rotate_left;(simp only [ps_];rfl)
                    refine pure_ (i := 23) (N := some 88) (v := ?_) (a' := ?_) (bm 28 9364831) rfl rfl (any_of HT_.out (by kernel_rfl)) (fun _ _ _ h => h) (Or.inl ⟨by rfl, ?_⟩) ?_ ?_;rotate_left;(intro w';go_simp;with_reducible rfl);rotate_left;(simp only [ps_];rfl)
                    refine take_ (i := 5) (N := some 70) (v := ?_) (a' := ?_) (bm 28 9364863) rfl rfl (take_ofW HT_.out HW_.out (by kernel_rfl)) (fun _ _ _ h => h) (Or.inl ⟨by rfl, ?_⟩) hHeld ?_ ?_;rotate_left;(rintro w' ⟨s0, s1, s2, s3, s4, s5⟩;go_simp;with_reducible rfl);rotate_left;(simp only [ps_];rfl)
                    refine take_ (i := 7) (N := some 72) (v := ?_) (a' := ?_) (bm 28 9364991) rfl rfl (take_ofW HT_.out HW_.out (by kernel_rfl)) (fun _ _ _ h => h) (Or.inl ⟨by rfl, ?_⟩) hHeld ?_ ?_;rotate_left;(rintro w' ⟨s0, s1, s2, s3, s4, s5⟩;go_simp;with_reducible rfl);rotate_left;(simp only [ps_];rfl)
                    refine pure_ (i := 9) (N := some 74) (v := ?_) (a' := ?_) (bm 28 9365503) rfl rfl (any_of HT_.out (by kernel_rfl)) (fun _ _ _ h => h) (Or.inl ⟨by rfl, ?_⟩) ?_ ?_;rotate_left;(intro w';go_simp;with_reducible rfl);rotate_left;(simp only [ps_];rfl)
                    refine pure_ (i := 11) (N := some 76) (v := ?_) (a' := ?_) (bm 28 9367551) rfl rfl (any_of HT_.out (by kernel_rfl)) (fun _ _ _ h => h) (Or.inl ⟨by rfl, ?_⟩) ?_ ?_;rotate_left;(intro w';go_simp;with_reducible rfl);rotate_left;(simp only [ps_];rfl)
                    refine pure_ (i := 12) (N := some 77) (v := ?_) (a' := ?_) (bm 28 9371647) rfl rfl (any_of HT_.out (by kernel_rfl)) (fun _ _ _ h => h) (Or.inl ⟨by rfl, ?_⟩) ?_ ?_;rotate_left;(intro w';go_simp;with_reducible rfl);rotate_left;(simp only [ps_];rfl)
                    refine take_ (i := 16) (N := some 81) (v := ?_) (a' := ?_) (bm 28 9437183) rfl rfl (take_ofW HT_.out HW_.out (by kernel_rfl)) (fun _ _ _ h => h) (Or.inl ⟨by rfl, ?_⟩) hHeld ?_ ?_;rotate_left;(rintro w' ⟨s0, s1, s2, s3, s4, s5⟩;go_simp;with_reducible rfl);rotate_left;(simp only [ps_];rfl)
                    refine take_ (i := 20) (N := some 85) (v := ?_) (a' := ?_) (bm 28 10485759) rfl rfl (take_ofW HT_.out HW_.out (by kernel_rfl)) (fun _ _ _ h => h) (Or.inl ⟨by rfl, ?_⟩) hHeld ?_ ?_;rotate_left;(rintro w' ⟨s0, s1, s2, s3, s4, s5⟩;go_simp;with_reducible rfl);rotate_left;(simp only [ps_];rfl)
                    refine pure_ (i := 21) (N := some 86) (v := ?_) (a' := ?_) (bm 28 12582911) rfl rfl (any_of HT_.out (by kernel_rfl)) (fun _ _ _ h => h) (Or.inl ⟨by rfl, ?_⟩) ?_ ?_;rotate_left;(intro w';go_simp;with_reducible rfl);rotate_left;(simp only [ps_];rfl)
                    refine pure_ (i := 22) (N := some 87) (v := ?_) (a' := ?_) (bm 28 16777215) rfl rfl (any_of HT_.out (by kernel_rfl)) (fun _ _ _ h => h) (Or.inl ⟨by rfl, ?_⟩) ?_ ?_;rotate_left;(intro w';go_simp;with_reducible rfl);rotate_left;(simp only [ps_];rfl)
                    refine take_ (i := 24) (N := some 89) (v := ?_) (a' := ?_) (bm 28 33554431) rfl rfl (take_ofW HT_.out HW_.out (by kernel_rfl)) (fun _ _ _ h => h) (Or.inl ⟨by rfl, ?_⟩) hHeld ?_ ?_;rotate_left;(rintro w' ⟨s0, s1, s2, s3, s4, s5⟩;go_simp;with_reducible rfl);rotate_left;(simp only [ps_];rfl)
                    refine pure_ (i := 25) (N := some 90) (v := ?_) (a' := ?_) (bm 28 67108863) rfl rfl (any_of HT_.out (by kernel_rfl)) (fun _ _ _ h => h) (Or.inl ⟨by rfl, ?_⟩) ?_ ?_;rotate_left;(intro w';go_simp;with_reducible rfl);rotate_left;(simp only [ps_];rfl)
                    refine pure_ (i := 26) (N := some 91) (v := ?_) (a' := ?_) (bm 28 134217727) rfl rfl (any_of HT_.out (by kernel_rfl)) (fun _ _ _ h => h) (Or.inl ⟨by rfl, ?_⟩) ?_ ?_;rotate_left;(intro w';go_simp;with_reducible rfl);rotate_left;(simp only [ps_];rfl)
                    refine last_ (i := 27) (N := none) (bm 28 268435455) rfl rfl (one_of HT_.out (by kernel_rfl)) (by decide) (fun K hK => ?_)
                    refine skip_ (w1 := ?_) (by rfl) rfl ?_ ?_
                    rotate_left
                    ·go_simp
                     rfl
                    refine hK.out _ _ ?_
                    clear hK K
                    refine done_ (done_of HT_.out (by kernel_rfl)) ?_
                    (go_wp2)
                    ((simp only [← hl9_2]))
                    go_roundg k2
                    case measure => have := HK1.out; have := HK2.out; omega
                    case rel => exact ⟨(y157), (wrap64 (x54_2 + 1)), (by rfl), H', ⟨by have := HK1.out; have := HK2.out; omega⟩, ⟨by ((simp only [hl9_2])); (with_reducible repeat (fail)); exact Kd.R_mono (Kd.R_far (p := ⟨go21, (x54_2 : Int).toNat, none⟩) (Kd.R_mono HO_7.out (fun k_ hk => (⟨hk, fun e_ => hk.2 (by rw [e_]; rfl)⟩ : _ ∧ k_ ≠ go21))) (fun _ hk => hk.2) (.int .i64 (Int.tmod (wrap64 ((wrap64 ((rd x9_2 x54_2) + (wrap64 ((wrap64 (a0_0 - (rd x9_1 (ji17)))) * (rd l0_2 x54_2))))) + (wrap64 ((rd t144 x10_1) * (rd t141 x54_2))))) a0_0))) (fun _ hk => ⟨hk.1.1, hk.1.2⟩)⟩, ⟨by ((simp only [hl9_2])); (with_reducible repeat (fail)); exact Kd.R_mono (Kd.R_far (p := ⟨go21, (x54_2 : Int).toNat, none⟩) (Kd.R_mono HO_8.out (fun k_ hk => (⟨hk, fun e_ => hk.2 (by rw [e_]; rfl)⟩ : _ ∧ k_ ≠ go21))) (fun _ hk => hk.2) (.int .i64 (Int.tmod (wrap64 ((wrap64 ((rd x9_2 x54_2) + (wrap64 ((wrap64 (a0_0 - (rd x9_1 (ji17)))) * (rd l0_2 x54_2))))) + (wrap64 ((rd t144 x10_1) * (rd t141 x54_2))))) a0_0))) (fun _ hk => ⟨hk.1.1, hk.1.2⟩)⟩, ⟨by ((simp only [hl9_2])); (with_reducible repeat (fail)); exact HQ40.out⟩, ⟨by (skip); (with_reducible repeat (fail)); refine blk_far ?_ (by have h_ := Kd.R_ne HO_9.out BK140.out (by decide); intro e_; exact h_ (by rw [e_]; rfl)) _; (with_reducible repeat (fail)); exact BK140.out⟩, ⟨by repeat ((with_reducible first | (exact HB.out) | (refine below_set ?_ GB21.out)))⟩⟩
                  ·rw [if_neg c33] at H
                   exact absurd H (by simp)
                 ·rw [if_neg c32] at H
                  exact absurd H (by simp)
                ·rw [if_neg c31] at H
                 exact absurd H (by simp)
               ·rw [if_neg c30] at H
                exact absurd H (by simp)
              ·rw [if_neg c29] at H
               exact absurd H (by simp)
             ·rw [if_neg c28] at H
              exact absurd H (by simp)
            ·rw [if_neg c27] at H
             have c27b0 : decide (1 < a0_1) = false := decide_eq_false c27
             clear c27
             by_cases c41 : 0 ≤ x54_2
             ·rw [if_pos c41] at H
              have c41b0 : decide (0 ≤ x54_2) = true := decide_eq_true c41
              clear c41
              by_cases c42 : x54_2 < (x9_2.length : Int)
              ·rw [if_pos c42] at H
               have c42b0 : decide (x54_2 < (x9_2.length : Int)) = true := decide_eq_true c42
               clear c42
               by_cases c43 : 0 ≤ x10_1
               ·rw [if_pos c43] at H
                have c43b0 : decide (0 ≤ x10_1) = true := decide_eq_true c43
                clear c43
                by_cases c44 : x10_1 < (t144.length : Int)
                ·rw [if_pos c44] at H
                 have c44b0 : decide (x10_1 < (t144.length : Int)) = true := decide_eq_true c44
                 clear c44
                 by_cases c45 : x54_2 < (t141.length : Int)
                 ·rw [if_pos c45] at H
                  have c45b0 : decide (x54_2 < (t141.length : Int)) = true := decide_eq_true c45
                  clear c45
                  by_cases c46 : a0_0 = 0
                  ·rw [if_pos c46] at H
                   exact absurd H (by simp)
                  ·rw [if_neg c46] at H
                   have c46b0 : (a0_0 == 0) = false := beq_eq_false_iff_ne.mpr c46
                   have c46b1 : (a0_0 != 0) = true := bne_iff_ne.mpr c46
                   obtain ⟨y161, hy161⟩ : ∃ y_ : List Int, y_ = (x9_2.set (x54_2 : Int).toNat (Int.tmod (wrap64 ((wrap64 ((rd x9_2 x54_2) + (wrap64 0))) + (wrap64 ((rd t144 x10_1) * (rd t141 x54_2))))) a0_0)) := ⟨_, rfl⟩
                   replace H : (field_multiply.l1 k2 t141 t144 y161 x10_1 (rd x9_1 (ji17)) (x9_1.length : Int) (wrap64 (x54_2 + 1)) a0_0 a0_1 l0_2) = some r := by (rw [hy161]; with_reducible exact H)
                   have Ny161 := Aside0.mk hy161
                   clear hy161
                   have H' := Aside0.mk H
                   clear H
                   have hcz48_0 : wr.cell? ⟨gb140, 0, none⟩ = some (.int .i64 a0_0) := (blk_cell BK140.out 0).trans rfl
                   have hcz48_1 : wr.cell? ⟨gb140, 1, none⟩ = some (.int .i64 a0_1) := (blk_cell BK140.out 1).trans rfl
                   have hcz48_2 : wr.cell? ⟨gb140, 2, none⟩ = some (.slice A0_2 l0_2.length c0_2) := (blk_cell BK140.out 2).trans rfl
                   have hfz48_0 := blk_frozen BK140.out 0
                   have hfz48_1 := blk_frozen BK140.out 1
                   have hfz48_2 := blk_frozen BK140.out 2
                   (go_wp2)
                   have n0_ := Aside0.mk (Kd.R_drew HO_7.out)
                   have n1_ := Aside0.mk (Kd.R_drew HO_8.out)
                   have n2_ := Aside0.mk (Kd.R_drew HO_9.out)
                   have n3_ := Aside0.mk (blk_drew BK140.out)
                   have n4_ := Aside0.mk (below_drew1 HB.out)
                   clear HO_7 HO_8 HO_9 BK140 HB
                   have HO_7 := n0_
                   have HO_8 := n1_
                   have HO_9 := n2_
                   have BK140 := n3_
                   have HB := n4_
                   clear n0_ n1_ n2_ n3_ n4_
                   have p158 : 0 ≤ (x54_2 : Int) := of_decide_eq_true (by (with_reducible assumption))
                   have q158 : x54_2 < (x9_2.length : Int) := of_decide_eq_true (by (with_reducible assumption))
                   obtain ⟨ad158, e158, hx158_0⟩ := Kd.at_int (Kd.R_reads' HO_9.out).2.2 x54_2 p158 q158
                   obtain rfl : (⟨go21, 0, none⟩ : Addr) = ad158 := (by injection e158)
                   ((simp only [add_plain] at hx158_0))
                   replace p158 := eq_true p158
                   replace q158 := eq_true q158
                   obtain ⟨Ao50, co50, eo50⟩ := Kd.R_slice HO_8.out
                   ((subst eo50))
                   have p159 : 0 ≤ (x10_1 : Int) := of_decide_eq_true (by (with_reducible assumption))
                   have q159 : x10_1 < (t144.length : Int) := of_decide_eq_true (by (with_reducible assumption))
                   obtain ⟨ad159, e159, hx159_0⟩ := Kd.at_int (Kd.R_reads' HO_8.out).2.2 x10_1 p159 q159
                   cases e159
                   replace p159 := eq_true p159
                   replace q159 := eq_true q159
                   obtain ⟨Ao51, co51, eo51⟩ := Kd.R_slice HO_7.out
                   ((subst eo51))
                   have p160 : 0 ≤ (x54_2 : Int) := of_decide_eq_true (by (with_reducible assumption))
                   have q160 : x54_2 < (t141.length : Int) := of_decide_eq_true (by (with_reducible assumption))
                   obtain ⟨ad160, e160, hx160_0⟩ := Kd.at_int (Kd.R_reads' HO_7.out).2.2 x54_2 p160 q160
                   cases e160
                   replace p160 := eq_true p160
                   replace q160 := eq_true q160
                   have p47 : 0 ≤ (x54_2 : Int) := of_decide_eq_true (by (with_reducible assumption))
                   have q47 : (x54_2 : Int) < ((x9_2.length : Int) : Int) := of_decide_eq_true (by (with_reducible assumption))
                   obtain ⟨hx47_0, hf47_0⟩ := Kd.R_celln 0 HO_9.out (x54_2 : Int) p47 q47
                   replace p47 := eq_true p47
                   replace q47 := eq_true q47
                   have HP52 := Kd.R_putn HO_9.out (x54_2 : Int) (Int.tmod (wrap64 ((wrap64 ((rd x9_2 x54_2) + (wrap64 0))) + (wrap64 ((rd t144 x10_1) * (rd t141 x54_2))))) a0_0)
                   rw [← Ny161.out] at HP52
                   have HQ52 := Aside0.mk HP52
                   clear HP52
                   refine start_ (n := 28) (S := fun w' => w'.cell? ⟨gb140, 0, none⟩ = some (.int .i64 a0_0) ∧ w'.cell? ⟨gb140, 1, none⟩ = some (.int .i64 a0_1) ∧ w'.cell? ⟨gb140, 2, none⟩ = some (.slice A0_2 l0_2.length c0_2) ∧ w'.cell? ⟨go21, (x54_2).toNat, none⟩ = some (.int .i64 (rd x9_2 x54_2)) ∧ w'.cell? (ad159.add (x10_1).toNat) = some (.int .i64 (rd t144 x10_1)) ∧ w'.cell? (ad160.add (x54_2).toNat) = some (.int .i64 (rd t141 x54_2))) (ds := [27]) (bm 28 0) (by kernel_rfl) rfl rfl ⟨(blk_cell BK140.out 0).trans rfl, (blk_cell BK140.out 1).trans rfl, (blk_cell BK140.out 2).trans rfl, hx158_0, hx159_0, hx160_0⟩ (fun hHeld => ?_); refine with_tabW field_multiply.tab15 field_multiply.bits15 (fun HT_ HW_ => ?_)
                   generalize wr.drew = w49 at HO_7 HO_8 HO_9 BK140 HB HQ52 hf47_0 hx158_0 hx159_0 hx160_0 hx47_0 hHeld ⊢
                   refine pure_ (i := 0) (N := some 65) (v := ?_) (a' := ?_) (bm 28 1) rfl rfl (any_of HT_.out (by kernel_rfl)) (fun _ _ _ h => h) (Or.inl ⟨by rfl, ?_⟩) ?_ ?_;rotate_left;(intro w';go_simp;with_reducible rfl);rotate_left;(simp only [ps_];rfl)
                   refine pure_ (i := 1) (N := some 66) (v := ?_) (a' := ?_) (bm 28 3) rfl rfl (any_of HT_.out (by kernel_rfl)) (fun _ _ _ h => h) (Or.inl ⟨by rfl, ?_⟩) ?_ ?_;rotate_left;(intro w';go_simp;with_reducible rfl);rotate_left;(simp only [ps_];rfl)
                   refine pure_ (i := 2) (N := some 67) (v := ?_) (a' := ?_) (bm 28 7) rfl rfl (any_of HT_.out (by kernel_rfl)) (fun _ _ _ h => h) (Or.inl ⟨by rfl, ?_⟩) ?_ ?_;rotate_left;(intro w';go_simp;with_reducible rfl);rotate_left;(simp only [ps_];rfl)
                   refine pure_ (i := 3) (N := some 68) (v := ?_) (a' := ?_) (bm 28 15) rfl rfl (any_of HT_.out (by kernel_rfl)) (fun _ _ _ h => h) (Or.inl ⟨by rfl, ?_⟩) ?_ ?_;rotate_left;(intro w';go_simp;with_reducible rfl);rotate_left;(simp only [ps_];rfl)
                   refine pure_ (i := 4) (N := some 69) (v := ?_) (a' := ?_) (bm 28 31) rfl rfl (any_of HT_.out (by kernel_rfl)) (fun _ _ _ h => h) (Or.inl ⟨by rfl, ?_⟩) ?_ ?_;rotate_left;(intro w';go_simp;with_reducible rfl);rotate_left;(simp only [ps_];rfl)
                   refine pure_ (i := 6) (N := some 71) (v := ?_) (a' := ?_) (bm 28 95) rfl rfl (any_of HT_.out (by kernel_rfl)) (fun _ _ _ h => h) (Or.inl ⟨by rfl, ?_⟩) ?_ ?_;rotate_left;(intro w';go_simp;with_reducible rfl);rotate_left;(simp only [ps_];rfl)
                   refine pure_ (i := 8) (N := some 73) (v := ?_) (a' := ?_) (bm 28 351) rfl rfl (any_of HT_.out (by kernel_rfl)) (fun _ _ _ h => h) (Or.inl ⟨by rfl, ?_⟩) ?_ ?_;rotate_left;(intro w';go_simp;with_reducible rfl);rotate_left;(simp only [ps_];rfl)
                   refine pure_ (i := 10) (N := some 75) (v := ?_) (a' := ?_) (bm 28 1375) rfl rfl (any_of HT_.out (by kernel_rfl)) (fun _ _ _ h => h) (Or.inl ⟨by rfl, ?_⟩) ?_ ?_;rotate_left;(intro w';go_simp;with_reducible rfl);rotate_left;(simp only [ps_];rfl)
                   refine pure_ (i := 13) (N := some 78) (v := ?_) (a' := ?_) (bm 28 9567) rfl rfl (any_of HT_.out (by kernel_rfl)) (fun _ _ _ h => h) (Or.inl ⟨by rfl, ?_⟩) ?_ ?_;rotate_left;(intro w';go_simp;with_reducible rfl);rotate_left;(simp only [ps_];rfl)
                   refine pure_ (i := 14) (N := some 79) (v := ?_) (a' := ?_) (bm 28 25951) rfl rfl (any_of HT_.out (by kernel_rfl)) (fun _ _ _ h => h) (Or.inl ⟨by rfl, ?_⟩) ?_ ?_;rotate_left;(intro w';go_simp;with_reducible rfl);rotate_left;(simp only [ps_];rfl)
                   refine pure_ (i := 15) (N := some 80) (v := ?_) (a' := ?_) (bm 28 58719) rfl rfl (any_of HT_.out (by kernel_rfl)) (fun _ _ _ h => h) (Or.inl ⟨by rfl, ?_⟩) ?_ ?_;rotate_left;(intro w';go_simp;with_reducible rfl);rotate_left;(simp only [ps_];rfl)
                   refine pure_ (i := 17) (N := some 82) (v := ?_) (a' := ?_) (bm 28 189791) rfl rfl (any_of HT_.out (by kernel_rfl)) (fun _ _ _ h => h) (Or.inl ⟨by rfl, ?_⟩) ?_ ?_;rotate_left;(intro w';go_simp;with_reducible rfl);rotate_left;(simp only [ps_];rfl)
                   refine pure_ (i := 18) (N := some 83) (v := ?_) (a' := ?_) (bm 28 451935) rfl rfl (any_of HT_.out (by kernel_rfl)) (fun _ _ _ h => h) (Or.inl ⟨by rfl, ?_⟩) ?_ ?_;rotate_left;(intro w';go_simp;with_reducible rfl);rotate_left;(simp only [ps_];rfl)
                   refine pure_ (i := 19) (N := some 84) (v := ?_) (a' := ?_) (bm 28 976223) rfl rfl (any_of HT_.out (by kernel_rfl)) (fun _ _ _ h => h) (Or.inl ⟨by rfl, ?_⟩) ?_ ?_;rotate_left;(intro w';go_simp;with_reducible rfl);rotate_left;(simp only [ps_];rfl)
                   refine pure_ (i := 23) (N := some 88) (v := ?_) (a' := ?_) (bm 28 9364831) rfl rfl (any_of HT_.out (by kernel_rfl)) (fun _ _ _ h => h) (Or.inl ⟨by rfl, ?_⟩) ?_ ?_;rotate_left;(intro w';go_simp;with_reducible rfl);rotate_left;(simp only [ps_];rfl)
                   refine take_ (i := 5) (N := some 70) (v := ?_) (a' := ?_) (bm 28 9364863) rfl rfl (take_ofW HT_.out HW_.out (by kernel_rfl)) (fun _ _ _ h => h) (Or.inl ⟨by rfl, ?_⟩) hHeld ?_ ?_;rotate_left;(rintro w' ⟨s0, s1, s2, s3, s4, s5⟩;go_simp;with_reducible rfl);rotate_left;(simp only [ps_];rfl)
                   refine take_ (i := 7) (N := some 72) (v := ?_) (a' := ?_) (bm 28 9364991) rfl rfl (take_ofW HT_.out HW_.out (by kernel_rfl)) (fun _ _ _ h => h) (Or.inl ⟨by rfl, ?_⟩) hHeld ?_ ?_;rotate_left;(rintro w' ⟨s0, s1, s2, s3, s4, s5⟩;go_simp;with_reducible rfl);rotate_left;(simp only [ps_];rfl)
                   refine pure_ (i := 9) (N := some 74) (v := ?_) (a' := ?_) (bm 28 9365503) rfl rfl (any_of HT_.out (by kernel_rfl)) (fun _ _ _ h => h) (Or.inl ⟨by rfl, ?_⟩) ?_ ?_;rotate_left;(intro w';go_simp;with_reducible rfl);rotate_left;(simp only [ps_];rfl)
                   refine pure_ (i := 11) (N := some 76) (v := ?_) (a' := ?_) (bm 28 9367551) rfl rfl (any_of HT_.out (by kernel_rfl)) (fun _ _ _ h => h) (Or.inl ⟨by rfl, ?_⟩) ?_ ?_;rotate_left;(intro w';go_simp;with_reducible rfl);rotate_left;(simp only [ps_];rfl)
                   refine pure_ (i := 12) (N := some 77) (v := ?_) (a' := ?_) (bm 28 9371647) rfl rfl (any_of HT_.out (by kernel_rfl)) (fun _ _ _ h => h) (Or.inl ⟨by rfl, ?_⟩) ?_ ?_;rotate_left;(intro w';go_simp;with_reducible rfl);rotate_left;(simp only [ps_];rfl)
                   refine take_ (i := 16) (N := some 81) (v := ?_) (a' := ?_) (bm 28 9437183) rfl rfl (take_ofW HT_.out HW_.out (by kernel_rfl)) (fun _ _ _ h => h) (Or.inl ⟨by rfl, ?_⟩) hHeld ?_ ?_;rotate_left;(rintro w' ⟨s0, s1, s2, s3, s4, s5⟩;go_simp;with_reducible rfl);rotate_left;(simp only [ps_];rfl)
                   refine take_ (i := 20) (N := some 85) (v := ?_) (a' := ?_) (bm 28 10485759) rfl rfl (take_ofW HT_.out HW_.out (by kernel_rfl)) (fun _ _ _ h => h) (Or.inl ⟨by rfl, ?_⟩) hHeld ?_ ?_;rotate_left;(rintro w' ⟨s0, s1, s2, s3, s4, s5⟩;go_simp;with_reducible rfl);rotate_left;(simp only [ps_];rfl)
                   refine pure_ (i := 21) (N := some 86) (v := ?_) (a' := ?_) (bm 28 12582911) rfl rfl (any_of HT_.out (by kernel_rfl)) (fun _ _ _ h => h) (Or.inl ⟨by rfl, ?_⟩) ?_ ?_;rotate_left;(intro w';go_simp;with_reducible rfl);rotate_left;(simp only [ps_];rfl)
                   refine pure_ (i := 22) (N := some 87) (v := ?_) (a' := ?_) (bm 28 16777215) rfl rfl (any_of HT_.out (by kernel_rfl)) (fun _ _ _ h => h) (Or.inl ⟨by rfl, ?_⟩) ?_ ?_;rotate_left;(intro w';go_simp;with_reducible rfl);rotate_left;(simp only [ps_];rfl)
                   refine take_ (i := 24) (N := some 89) (v := ?_) (a' := ?_) (bm 28 33554431) rfl rfl (take_ofW HT_.out HW_.out (by kernel_rfl)) (fun _ _ _ h => h) (Or.inl ⟨by rfl, ?_⟩) hHeld ?_ ?_;rotate_left;(rintro w' ⟨s0, s1, s2, s3, s4, s5⟩;go_simp;with_reducible rfl);rotate_left;(simp only [ps_];rfl)
                   refine pure_ (i := 25) (N := some 90) (v := ?_) (a' := ?_) (bm 28 67108863) rfl rfl (any_of HT_.out (by kernel_rfl)) (fun _ _ _ h => h) (Or.inl ⟨by rfl, ?_⟩) ?_ ?_;rotate_left;(intro w';go_simp;with_reducible rfl);rotate_left;(simp only [ps_];rfl)
                   refine pure_ (i := 26) (N := some 91) (v := ?_) (a' := ?_) (bm 28 134217727) rfl rfl (any_of HT_.out (by kernel_rfl)) (fun _ _ _ h => h) (Or.inl ⟨by rfl, ?_⟩) ?_ ?_;rotate_left;(intro w';go_simp;with_reducible rfl);rotate_left;(simp only [ps_];rfl)
                   refine last_ (i := 27) (N := none) (bm 28 268435455) rfl rfl (one_of HT_.out (by kernel_rfl)) (by decide) (fun K hK => ?_)
                   refine skip_ (w1 := ?_) (by rfl) rfl ?_ ?_
                   rotate_left
                   ·go_simp
                    rfl
                   refine hK.out _ _ ?_
                   clear hK K
                   refine done_ (done_of HT_.out (by kernel_rfl)) ?_
                   (go_wp2)
                   ((simp only [← hl9_2]))
                   go_roundg k2
                   case measure => have := HK1.out; have := HK2.out; omega
                   case rel => exact ⟨(y161), (wrap64 (x54_2 + 1)), (by rfl), H', ⟨by have := HK1.out; have := HK2.out; omega⟩, ⟨by ((simp only [hl9_2])); (with_reducible repeat (fail)); exact Kd.R_mono (Kd.R_far (p := ⟨go21, (x54_2 : Int).toNat, none⟩) (Kd.R_mono HO_7.out (fun k_ hk => (⟨hk, fun e_ => hk.2 (by rw [e_]; rfl)⟩ : _ ∧ k_ ≠ go21))) (fun _ hk => hk.2) (.int .i64 (Int.tmod (wrap64 ((wrap64 ((rd x9_2 x54_2) + (wrap64 0))) + (wrap64 ((rd t144 x10_1) * (rd t141 x54_2))))) a0_0))) (fun _ hk => ⟨hk.1.1, hk.1.2⟩)⟩, ⟨by ((simp only [hl9_2])); (with_reducible repeat (fail)); exact Kd.R_mono (Kd.R_far (p := ⟨go21, (x54_2 : Int).toNat, none⟩) (Kd.R_mono HO_8.out (fun k_ hk => (⟨hk, fun e_ => hk.2 (by rw [e_]; rfl)⟩ : _ ∧ k_ ≠ go21))) (fun _ hk => hk.2) (.int .i64 (Int.tmod (wrap64 ((wrap64 ((rd x9_2 x54_2) + (wrap64 0))) + (wrap64 ((rd t144 x10_1) * (rd t141 x54_2))))) a0_0))) (fun _ hk => ⟨hk.1.1, hk.1.2⟩)⟩, ⟨by ((simp only [hl9_2])); (with_reducible repeat (fail)); exact HQ52.out⟩, ⟨by (skip); (with_reducible repeat (fail)); refine blk_far ?_ (by have h_ := Kd.R_ne HO_9.out BK140.out (by decide); intro e_; exact h_ (by rw [e_]; rfl)) _; (with_reducible repeat (fail)); exact BK140.out⟩, ⟨by repeat ((with_reducible first | (exact HB.out) | (refine below_set ?_ GB21.out)))⟩⟩
                 ·rw [if_neg c45] at H
                  exact absurd H (by simp)
                ·rw [if_neg c44] at H
                 exact absurd H (by simp)
               ·rw [if_neg c43] at H
                exact absurd H (by simp)
              ·rw [if_neg c42] at H
               exact absurd H (by simp)
             ·rw [if_neg c41] at H
              exact absurd H (by simp)
           ·rw [if_neg c26] at H
            have c26b0 : decide (x54_2 < (x9_1.length : Int)) = false := decide_eq_false c26
            ((rw [hl9_2] at c26b0))
            clear c26
            have H' := Aside0.mk H
            clear H
            go_wp2
            ((simp only [← hl9_2]))
            simp only [← hji17]
            go_roundg k2
            case measure => have := HK1.out; have := HK2.out; omega
            case rel => exact ⟨(x9_2), (wrap64 (x10_1 - 1)), (by rfl), H', ⟨by have := HK1.out; have := HK2.out; omega⟩, ⟨by ((simp only [hl9_2])); (with_reducible repeat (fail)); exact HO_7.out⟩, ⟨by ((simp only [hl9_2])); (with_reducible repeat (fail)); exact HO_8.out⟩, ⟨by ((simp only [hl9_2])); (with_reducible repeat (fail)); exact HO_9.out⟩, ⟨by (skip); (with_reducible repeat (fail)); exact BK140.out⟩, ⟨HB.out⟩⟩
        ·rw [if_neg c20] at H
         exact absurd H (by simp)
       ·rw [if_neg c19] at H
        exact absurd H (by simp)
      ·rw [if_neg c18] at H
       exact absurd H (by simp)
     ·rw [if_neg c16] at H
      have c16b0 : decide (0 ≤ x10_1) = false := decide_eq_false c16
      clear c16
      obtain ⟨t150, A530, H⟩ := Option.bind_eq_some_iff.mp H
      replace H : (some t150) = some r := H
      have A53 := Aside0.mk A530
      clear A530
      obtain rfl := Option.some.inj H
      have hcz54_0 : wr.cell? ⟨gb140, 0, none⟩ = some (.int .i64 a0_0) := (blk_cell BK140.out 0).trans rfl
      have hcz54_1 : wr.cell? ⟨gb140, 1, none⟩ = some (.int .i64 a0_1) := (blk_cell BK140.out 1).trans rfl
      have hcz54_2 : wr.cell? ⟨gb140, 2, none⟩ = some (.slice A0_2 l0_2.length c0_2) := (blk_cell BK140.out 2).trans rfl
      have hfz54_0 := blk_frozen BK140.out 0
      have hfz54_1 := blk_frozen BK140.out 1
      have hfz54_2 := blk_frozen BK140.out 2
      obtain ⟨Ao55, co55, eo55⟩ := Kd.R_slice HO_9.out
      subst eo55
      go_wp2_with (((with_reducible refine gate_callee (f := 98) rfl ?_); refine goesL_ (some 96) rfl rfl Try.func98 (by kernel_rfl) rfl #[.slice Ao55 x9_1.length co55, .int .i64 a0_0] rfl (by ((simp only [List.map_toArray, List.map_cons, List.map_nil])); (rfl)) ?_; (with_reducible refine (field_valueOf.calls k1 _ _ x9_1 a0_0 t150 _ ?side1 ?side2 A53.out).mono ?_); (case side1 => repeat ((exact (Kd.R_reads' HO_9.out).2.2))); (case side2 => exact (Kd.R_reads' HO_9.out).2.1); rintro e w' ⟨rfl, ⟨nd, rfl⟩⟩; refine ⟨_, rfl, ?_⟩))
      go_ret
      exact ⟨by rfl, by repeat ((with_reducible first | (exact HB.out) | (apply pw_below_drewN)))⟩
  ·rw [if_neg c7] at H
   exact absurd H (by simp)
 ·rw [if_neg c6] at H
  exact absurd H (by simp)
end Go.Proofs.Ytkdakjlopheefaa.PA
end
section
namespace Go.Proofs.Ytkdakjlopheefaa.PA
open Go.RowKit Go.Proofs.YtkdakjlopheefaaW.PrintWords Go.Proofs.YtkdakjlopheefaaW.PrintLast Go.Proofs.YtkdakjlopheefaaW.PrintMore
attribute [local go_sem] max2_int min2_int max_two min_two max_three min_three max_four min_four
set_option linter.unusedVariables false
set_option linter.unusedSimpArgs false
def field_powers.l0 : Nat → Int → List Int → List Bool → Int → Int → Int → List Int → Option (List Int)
 | 0, _, _, _, _, _, _, _ => none
 | k + 1, x2, x7, x8, x9, x163000, x163001, x163002 => if x9 = 0 then (some x7) else (if 0 ≤ x9 then (if x9 < (x8.length : Int) then (if rdOf false x8 x9 = true then (some x7) else (if x7.length < 17592186044416 then ((field_multiply.f k x163000 x163001 x163002 x9 x2).bind fun t175 => (field_powers.l0 k x2 (x7 ++ [x9]) (x8.set (x9 : Int).toNat true) t175 x163000 x163001 x163002)) else (none))) else (none)) else (none))
def field_powers.f (k : Nat) (a0_0 : Int) (a0_1 : Int) (l0_2 : List Int) (a1 : Int) (a2 : Int) : Option (List Int) := if 0 ≤ a1 then (if (a1 : Int).toNat ≤ 281474976710656 then ((some (List.replicate (a1 : Int).toNat false : List Bool)).bind fun y166 => (if 1 < (y166.length : Int) then (field_powers.l0 k a2 (([1] : List Int)) (y166.set (1 : Int).toNat true) a2 a0_0 a0_1 l0_2) else (none))) else (none)) else (none)
set_option maxHeartbeats 8000000 in
set_option maxRecDepth 100000 in
theorem field_powers.calls (k : Nat) (a0_0 : Int) (a0_1 : Int) (A0_2 : Option Addr) (c0_2 : Nat) (l0_2 : List Int) (a1 : Int) (a2 : Int) (r : List Int) (w : World) (hr0_2 : Kd.C (Kd.int .i64) w A0_2 l0_2.length l0_2) (hc0_2 : l0_2.length ≤ c0_2) (h : field_powers.f k a0_0 a0_1 l0_2 a1 a2 = some r) :
  Calls Try.prog 94 #[.agg #[.int .i64 a0_0, .int .i64 a0_1, .slice A0_2 l0_2.length c0_2], .int .i64 a1, .int .i64 a2] w fun e w' => ∃ v0_ : Value, e = .returned (v0_) ∧ Kd.R (Kd.int .i64) 3 w' w.heap.size (fun _ => True) v0_ r ∧ Below w.heap.size w w' := by
 have hu24 := Try.underlying24
 have HR0_2 := Aside0.mk hr0_2
 have HC0_2 := Aside0.mk hc0_2
 clear hr0_2 hc0_2
 have HB := Aside0.mk (Below.refl w.heap.size w)
 have H : (if 0 ≤ a1 then (if (a1 : Int).toNat ≤ 281474976710656 then ((some (List.replicate (a1 : Int).toNat false : List Bool)).bind fun y166 => (if 1 < (y166.length : Int) then (field_powers.l0 k a2 (([1] : List Int)) (y166.set (1 : Int).toNat true) a2 a0_0 a0_1 l0_2) else (none))) else (none)) else (none)) = some r := h
 clear h
 obtain ⟨y163, hy163⟩ : ∃ y_ : List Int, y_ = (([1] : List Int)) := ⟨_, rfl⟩
 replace H : (if 0 ≤ a1 then (if (a1 : Int).toNat ≤ 281474976710656 then ((some (List.replicate (a1 : Int).toNat false : List Bool)).bind fun y166 => (if 1 < (y166.length : Int) then (field_powers.l0 k a2 y163 (y166.set (1 : Int).toNat true) a2 a0_0 a0_1 l0_2) else (none))) else (none)) else (none)) = some r := by (rw [hy163]; with_reducible exact H)
 have Ny163 := Aside0.mk hy163
 clear hy163
 by_cases c4 : 0 ≤ a1
 ·rw [if_pos c4] at H
  have c4b0 := eq_true c4
  have c4b1 : decide (0 ≤ a1) = true := decide_eq_true c4
  clear c4
  by_cases c5 : (a1 : Int).toNat ≤ 281474976710656
  ·rw [if_pos c5] at H
   have c5b0 := eq_true c5
   have c5b1 : decide ((a1 : Int).toNat ≤ 281474976710656) = true := decide_eq_true c5
   clear c5
   obtain ⟨y166, hy166⟩ : ∃ y_ : List Bool, y_ = (List.replicate (a1 : Int).toNat false) := ⟨_, rfl⟩
   replace H : (if 1 < (y166.length : Int) then (field_powers.l0 k a2 y163 (y166.set (1 : Int).toNat true) a2 a0_0 a0_1 l0_2) else (none)) = some r := by (have H2_ := (Option.bind_some _ _).symm.trans H; rw [hy166]; with_reducible exact H2_)
   have Ny166 := Aside0.mk hy166
   clear hy166
   by_cases c6 : 1 < (y166.length : Int)
   ·rw [if_pos c6] at H
    have c6b0 : decide (1 < (y166.length : Int)) = true := decide_eq_true c6
    have c6b1 : decide (1 < y166.length) = true := decide_eq_true (by omega)
    clear c6
    obtain ⟨y169, hy169⟩ : ∃ y_ : List Bool, y_ = (y166.set (1 : Int).toNat true) := ⟨_, rfl⟩
    replace H : (field_powers.l0 k a2 y163 y169 a2 a0_0 a0_1 l0_2) = some r := by (rw [hy169]; with_reducible exact H)
    have Ny169 := Aside0.mk hy169
    clear hy169
    have H' := Aside0.mk H
    clear H
    go_enter Try.func94, Try.ntmps94
    go_wp2_with (first | ((with_reducible refine gate_dst (N := 3) rfl ?_); refine box_event ?hg (N := 3) ?hd (cs := #[.int .i64 a0_0, .int .i64 a0_1, .slice A0_2 l0_2.length c0_2]) (t := 24) ?hr ?_; (case hd => rfl); (case hg => rfl); (case hr => (go_simp; done)); intro gb162 hg w8 hbox hb; have n0_ := Aside0.mk (below_step HB.out hb); have n1_ := Aside0.mk (hbox); have n2_ := Aside0.mk ((by rw [hg]; exact (below_size HB.out) : w.heap.size ≤ gb162)); have n3_ := Aside0.mk ((by rw [hg]; exact (below_size HB.out) : w.heap.size ≤ gb162)); clear HB; have HB := n0_; have BK162 := n1_; have GW162 := n2_; have GE162 := n3_; clear n0_ n1_ n2_ n3_; clear hb hbox hg) | ((with_reducible refine gate_dst (N := 10) rfl ?_); refine Kd.R_lit (Kd.int .i64) _ 3 ?hg (N := 10) ?hd (xs := ([1] : List Int)) (inner := [.int .i64 1]) (ok := fun _ => True) (okp := fun _ => True) ?hr ?hp (fun _ hk => hk) trivial (Below.refl _ _) (Nat.le_refl _) (by simp) ?_; (case hd => rfl); (case hg => rfl); (case hr => (go_simp; done)); (case hp => exact (Reps.one (show Kd.M (Kd.int .i64) _ _ _ 1 [.int .i64 1] from rfl) (Reps.none _ _))); intro v164 w9 ho10 hb hg_ hnew_; clear hg_ hnew_; ((rw [← Ny163.out] at ho10)); have n0_ := Aside0.mk (Kd.R_lower ho10 (below_size HB.out)); have n1_ := Aside0.mk (blk_below (g := gb162) (o := .cells #[.int .i64 a0_0, .int .i64 a0_1, .slice A0_2 l0_2.length c0_2] 24 (0, 0)) BK162.out hb); have n2_ := Aside0.mk (below_step HB.out hb); clear BK162; clear HB; have HO165 := n0_; have BK162 := n1_; have HB := n2_; clear n0_ n1_ n2_; clear hb ho10) | ((with_reducible refine gate_dst (N := 12) rfl ?_); refine Kd.R_make Kd.bool _ 4 rfl (N := 12) rfl 97 _ _ rfl a1 rfl rfl Try.underlying97 (.bool false) 1 info4 rfl (by decide) (by omega) false (ok := fun _ => True) (okp := fun _ => True) rfl (fun _ hk => hk) trivial (of_decide_eq_true (by (with_reducible assumption))) (Nat.le_trans (Nat.mul_le_mul_right _ (of_decide_eq_true (by (with_reducible assumption)) : a1.toNat ≤ 281474976710656)) (by omega)) (Below.refl _ _) (Nat.le_refl _) ?_; intro v167 w11 ho12 hb hg_ hnew_; clear hg_ hnew_; ((rw [← Ny166.out] at ho12)); have n0_ := Aside0.mk (Kd.R_below HO165.out hb); have n1_ := Aside0.mk (Kd.R_lower ho12 (below_size HB.out)); have n2_ := Aside0.mk (blk_below (g := gb162) (o := .cells #[.int .i64 a0_0, .int .i64 a0_1, .slice A0_2 l0_2.length c0_2] 24 (0, 0)) BK162.out hb); have n3_ := Aside0.mk (below_step HB.out hb); clear HO165; clear BK162; clear HB; have HO165 := n0_; have HO168 := n1_; have BK162 := n2_; have HB := n3_; clear n0_ n1_ n2_ n3_; clear hb ho12; have p7 : 0 ≤ (1 : Int) := (by omega); have q7 : (1 : Int) < ((y166.length : Int) : Int) := of_decide_eq_true (by (with_reducible assumption)); have qi7 : (1 < y166.length) = True := eq_true (by omega); obtain ⟨go7, co7, eo7, gb7, gl7, cl7, HG7⟩ := Kd.R_form HO168.out (by omega); ((cases eo7)); have GB7 := Aside0.mk gb7; have GG7 := Aside0.mk HG7; clear gb7 gl7 HG7; obtain ⟨hx7_0, hf7_0⟩ := Kd.R_celln false HO168.out (1 : Int) p7 q7; ((rw [show ((1 : Int)).toNat = 1 from rfl] at hx7_0)); (skip); ((rw [show ((1 : Int)).toNat = 1 from rfl] at hf7_0)); (skip); replace p7 := eq_true p7; replace q7 := eq_true q7; obtain ⟨hy13_, hz13_⟩ := Kd.R_celln false HO168.out (1 : Int) (by omega) (of_decide_eq_true (by (with_reducible assumption))); (skip); ((rw [show ((1 : Int)).toNat = 1 from rfl] at hy13_)); ((rw [show ((1 : Int)).toNat = 1 from rfl] at hz13_)); have HP13 := Kd.R_putg HO168.out (1 : Int) true) | ((with_reducible refine gate_store (t := 4) (p := 14) rfl ?_); refine store_event (t := 4) (p := 14) (v := ?vo_w14) (w1 := (w11.setCell ⟨go7, (1 : Int).toNat, none⟩ (.bool true))) ?hg ?ho ?hn ?hr ?_; (case ho => rfl); (case hg => rfl); (case hn => rfl); (case hr => (go_simp; done)); intro w14 hw; have hg : w11.grownBy w14 (some go7) := (by rw [hw]; exact HP13.2); have hp_ : Kd.R Kd.bool 4 w14 w.heap.size (fun _ => True) (.slice (some ⟨go7, 0, none⟩) y166.length co7) y169 := (by rw [hw, Ny169.out]; exact HP13.1); clear HP13; have n0_ := Aside0.mk (blk_grown (g := gb162) (o := .cells #[.int .i64 a0_0, .int .i64 a0_1, .slice A0_2 l0_2.length c0_2] 24 (0, 0)) BK162.out hg (Kd.R_ne HO168.out BK162.out (by decide))); have n1_ := Aside0.mk (Kd.R_over' (v := (.slice (some ⟨go7, 0, none⟩) y166.length co7)) HO165.out (Kd.R_typed HO168.out) (by decide) hg); have n2_ := Aside0.mk (hp_); have n3_ := Aside0.mk ((by rw [hw]; exact below_set (HB.out) GB7.out : Below w.heap.size w w14)); clear BK162; clear HO165; clear HO168; clear HB; have BK162 := n0_; have HO165 := n1_; have HO168 := n2_; have HB := n3_; clear n0_ n1_ n2_ n3_; clear hg hw hp_))
    go_loopg [7, 9] k (fun kq v7 v9 w' => ∃ (x7_1 : List Int) (x8_1 : List Bool) (x9_1 : Int), v9 = .int .i64 x9_1 ∧ Aside0 (field_powers.l0 kq a2 x7_1 x8_1 x9_1 a0_0 a0_1 l0_2 = some r) ∧ Aside0 (kq ≤ k) ∧ Aside0 (Kd.R (Kd.int .i64) 3 w' w.heap.size (fun _ => True) v7 x7_1) ∧ Aside0 (Kd.R Kd.bool 4 w' w.heap.size (fun _ => True) (.slice (some ⟨go7, 0, none⟩) y166.length co7) x8_1) ∧ Aside0 (w'.heap[gb162]? = some (.cells #[.int .i64 a0_0, .int .i64 a0_1, (.slice A0_2 l0_2.length c0_2)] 24 (0, 0))) ∧ Aside0 (Below w.heap.size w w'))
    case atStart => exact ⟨(y163), (y169), (a2), (by rfl), H', ⟨Nat.le_refl _⟩, ⟨HO165.out⟩, ⟨HO168.out⟩, ⟨BK162.out⟩, ⟨HB.out⟩⟩
    case round =>
     clear H' c4b0 c4b1 c5b0 c5b1 c6b0 c6b1 p7 q7 qi7 hx7_0
     obtain ⟨x7_1, x8_1, x9_1, rfl, HA, HK1, HO_7, HO_8, BK162, HB⟩ := hrel
     have hl8_1 := (Kd.R_reads' HO_8.out).1
     rw [hl8_1] at HO_8
     ((simp only [hl8_1]))
     cases gk with
     | zero => exact absurd HA.out (by simp [field_powers.l0])
     | succ k1 =>
      have H := HA.out
      clear HA
      simp only [field_powers.l0] at H
      by_cases c15 : x9_1 = 0
      ·rw [if_pos c15] at H
       have c15b0 : (x9_1 == 0) = true := beq_iff_eq.mpr c15
       have c15b1 : (x9_1 != 0) = false := bne_eq_false_iff_eq.mpr c15
       clear c15
       obtain rfl := Option.some.inj H
       go_wp2
       go_ret
       exact ⟨_, by rfl, by exact HO_7.out, by exact HB.out⟩
      ·rw [if_neg c15] at H
       have c15b0 : (x9_1 == 0) = false := beq_eq_false_iff_ne.mpr c15
       have c15b1 : (x9_1 != 0) = true := bne_iff_ne.mpr c15
       by_cases c16 : 0 ≤ x9_1
       ·rw [if_pos c16] at H
        have c16b0 : decide (0 ≤ x9_1) = true := decide_eq_true c16
        clear c16
        by_cases c17 : x9_1 < (x8_1.length : Int)
        ·rw [if_pos c17] at H
         have c17b0 : decide (x9_1 < (x8_1.length : Int)) = true := decide_eq_true c17
         clear c17
         obtain ⟨bq18, hbq18⟩ : ∃ b_ : Bool, b_ = (rdOf false x8_1 x9_1) := ⟨_, rfl⟩
         replace H : (if bq18 = true then (some x7_1) else (if x7_1.length < 17592186044416 then ((field_multiply.f k1 a0_0 a0_1 l0_2 x9_1 a2).bind fun t175 => (field_powers.l0 k1 a2 (x7_1 ++ [x9_1]) (x8_1.set (x9_1 : Int).toNat true) t175 a0_0 a0_1 l0_2)) else (none))) = some r := by rw [← hbq18] at H; exact H
         have Nbq18 := Aside0.mk hbq18
         clear hbq18
         by_cases c19 : bq18 = true
         ·subst c19
          have H1 : (some x7_1) = some r := by rw [if_pos rfl] at H; exact H
          clear H
          have H := H1
          clear H1
          obtain rfl := Option.some.inj H
          have p170 : 0 ≤ (x9_1 : Int) := of_decide_eq_true (by (with_reducible assumption))
          have q170 : x9_1 < (x8_1.length : Int) := of_decide_eq_true (by (with_reducible assumption))
          obtain ⟨ad170, e170, hx170_0⟩ := Kd.at_bool (Kd.R_reads' HO_8.out).2.2 x9_1 p170 q170
          ((rw [← Nbq18.out] at hx170_0))
          obtain rfl : (⟨go7, 0, none⟩ : Addr) = ad170 := (by injection e170)
          ((simp only [add_plain] at hx170_0))
          replace p170 := eq_true p170
          replace q170 := eq_true q170
          go_wp2
          go_ret
          exact ⟨_, by rfl, by exact HO_7.out, by exact HB.out⟩
         ·replace c19 := Bool.eq_false_iff.mpr c19
          subst c19
          have H1 : (if x7_1.length < 17592186044416 then ((field_multiply.f k1 a0_0 a0_1 l0_2 x9_1 a2).bind fun t175 => (field_powers.l0 k1 a2 (x7_1 ++ [x9_1]) (x8_1.set (x9_1 : Int).toNat true) t175 a0_0 a0_1 l0_2)) else (none)) = some r := by rw [if_neg (show ¬ (false = true) by decide)] at H; exact H
          clear H
          have H := H1
          clear H1
          obtain ⟨y171, hy171⟩ : ∃ y_ : List Bool, y_ = (x8_1.set (x9_1 : Int).toNat true) := ⟨_, rfl⟩
          replace H : (if x7_1.length < 17592186044416 then ((field_multiply.f k1 a0_0 a0_1 l0_2 x9_1 a2).bind fun t175 => (field_powers.l0 k1 a2 (x7_1 ++ [x9_1]) y171 t175 a0_0 a0_1 l0_2)) else (none)) = some r := by (rw [hy171]; with_reducible exact H)
          have Ny171 := Aside0.mk hy171
          clear hy171
          by_cases c21 : x7_1.length < 17592186044416
          ·rw [if_pos c21] at H
           have LMc21 := Aside0.mk c21
           clear c21
           obtain ⟨y172, hy172⟩ : ∃ y_ : List Int, y_ = (x7_1 ++ [x9_1]) := ⟨_, rfl⟩
           replace H : ((field_multiply.f k1 a0_0 a0_1 l0_2 x9_1 a2).bind fun t175 => (field_powers.l0 k1 a2 y172 y171 t175 a0_0 a0_1 l0_2)) = some r := by (rw [hy172]; with_reducible exact H)
           have Ny172 := Aside0.mk hy172
           clear hy172
           obtain ⟨t175, A220, H⟩ := Option.bind_eq_some_iff.mp H
           replace H : (field_powers.l0 k1 a2 y172 y171 t175 a0_0 a0_1 l0_2) = some r := H
           have A22 := Aside0.mk A220
           clear A220
           have H' := Aside0.mk H
           clear H
           have p170 : 0 ≤ (x9_1 : Int) := of_decide_eq_true (by (with_reducible assumption))
           have q170 : x9_1 < (x8_1.length : Int) := of_decide_eq_true (by (with_reducible assumption))
           obtain ⟨ad170, e170, hx170_0⟩ := Kd.at_bool (Kd.R_reads' HO_8.out).2.2 x9_1 p170 q170
           ((rw [← Nbq18.out] at hx170_0))
           obtain rfl : (⟨go7, 0, none⟩ : Addr) = ad170 := (by injection e170)
           ((simp only [add_plain] at hx170_0))
           replace p170 := eq_true p170
           replace q170 := eq_true q170
           have p20 : 0 ≤ (x9_1 : Int) := of_decide_eq_true (by (with_reducible assumption))
           have q20 : (x9_1 : Int) < ((x8_1.length : Int) : Int) := of_decide_eq_true (by (with_reducible assumption))
           obtain ⟨hx20_0, hf20_0⟩ := Kd.R_celln false HO_8.out (x9_1 : Int) p20 q20
           replace p20 := eq_true p20
           replace q20 := eq_true q20
           have HP23 := Kd.R_putg HO_8.out (x9_1 : Int) true
           go_wp2_with (first | ((with_reducible refine gate_store (t := 4) (p := 31) rfl ?_); refine store_event (t := 4) (p := 31) (v := ?vo_w24) (w1 := (wr.setCell ⟨go7, (x9_1 : Int).toNat, none⟩ (.bool true))) ?hg ?ho ?hn ?hr ?_; (case ho => rfl); (case hg => rfl); (case hn => rfl); (case hr => (go_simp; done)); intro w24 hw; have hg : wr.grownBy w24 (some go7) := (by rw [hw]; exact HP23.2); have hp_ : Kd.R Kd.bool 4 w24 w.heap.size (fun _ => True) (.slice (some ⟨go7, 0, none⟩) x8_1.length co7) y171 := (by rw [hw, Ny171.out]; exact HP23.1); clear HP23; have n0_ := Aside0.mk (Kd.R_over' (v := (.slice (some ⟨go7, 0, none⟩) x8_1.length co7)) HO_7.out (Kd.R_typed HO_8.out) (by decide) hg); have n1_ := Aside0.mk (hp_); have n2_ := Aside0.mk (blk_grown (g := gb162) (o := .cells #[.int .i64 a0_0, .int .i64 a0_1, .slice A0_2 l0_2.length c0_2] 24 (0, 0)) BK162.out hg (Kd.R_ne HO_8.out BK162.out (by decide))); have n3_ := Aside0.mk ((by rw [hw]; exact below_set (HB.out) GB7.out : Below w.heap.size w w24)); clear HO_7; clear HO_8; clear BK162; clear HB; have HO_7 := n0_; have HO_8 := n1_; have BK162 := n2_; have HB := n3_; clear n0_ n1_ n2_ n3_; clear hg hw hp_) | ((with_reducible refine gate_builtin (b := .append) (xs := #[.tmp 32, .tmp 34]) rfl ?_); at_builtin; refine Kd.R_append (Kd.int .i64) (w0 := w) w.heap.size rfl (.tmp 32) (.tmp 34) 22 3 (.int .i64 0) 8 rfl Try.underlying22 info3 rfl (by decide) (by omega) u7 x7_1 x9_1 [.int .i64 x9_1] (fun _ => True) (fun _ => False) rfl rfl ?aP (fun _ hk => hk.elim) ?aF ?aO ?aB ?aS ?aL ?_; (case aP => exact rfl); (case aB => exact HB.out); (case aF => exact (fun _ _ => trivial)); (case aO => exact HO_7.out); (case aS => exact (below_size HB.out)); (case aL => have := LMc21.out; omega); intro v173 w25 ho hb hg hat; rw [← Ny172.out] at ho; have n0_ := Aside0.mk (Kd.R_over' HO_8.out (Kd.R_typed HO_7.out) (by decide) hg); have n1_ := Aside0.mk (blk_grown (g := gb162) (o := .cells #[.int .i64 a0_0, .int .i64 a0_1, .slice A0_2 l0_2.length c0_2] 24 (0, 0)) BK162.out hg (Kd.R_ne HO_7.out BK162.out (by decide))); have n2_ := Aside0.mk (hb); have n3_ := Aside0.mk (ho); clear HO_8; clear BK162; clear HB; clear HO_7; have HO_8 := n0_; have BK162 := n1_; have HB := n2_; have HO174 := n3_; clear n0_ n1_ n2_ n3_; clear ho hb hg hat; have hcz26_0 : w25.cell? ⟨gb162, 0, none⟩ = some (.int .i64 a0_0) := (blk_cell BK162.out 0).trans rfl; have hcz26_1 : w25.cell? ⟨gb162, 1, none⟩ = some (.int .i64 a0_1) := (blk_cell BK162.out 1).trans rfl; have hcz26_2 : w25.cell? ⟨gb162, 2, none⟩ = some (.slice A0_2 l0_2.length c0_2) := (blk_cell BK162.out 2).trans rfl; have hfz26_0 := blk_frozen BK162.out 0; have hfz26_1 := blk_frozen BK162.out 1; have hfz26_2 := blk_frozen BK162.out 2) | ((with_reducible refine gate_callee (f := 95) rfl ?_); refine goesL_ (some 28) rfl rfl Try.func95 (by kernel_rfl) rfl #[.agg #[.int .i64 a0_0, .int .i64 a0_1, .slice A0_2 l0_2.length c0_2], .int .i64 x9_1, .int .i64 a2] rfl (by ((simp only [List.map_toArray, List.map_cons, List.map_nil])); (rfl)) ?_; (with_reducible refine (field_multiply.calls k1 a0_0 a0_1 _ _ l0_2 x9_1 a2 t175 _ ?side1 ?side2 A22.out).mono ?_); (case side1 => repeat ((exact (Kd.C_below HR0_2.out HB.out)))); (case side2 => exact HC0_2.out); rintro e w27 ⟨rfl, hb⟩; refine ⟨_, rfl, ?_⟩; have n0_ := Aside0.mk (Kd.R_below HO_8.out hb); have n1_ := Aside0.mk (Kd.R_below HO174.out hb); have n2_ := Aside0.mk (blk_below (g := gb162) (o := .cells #[.int .i64 a0_0, .int .i64 a0_1, .slice A0_2 l0_2.length c0_2] 24 (0, 0)) BK162.out hb); have n3_ := Aside0.mk (below_step HB.out hb); clear HO_8; clear HO174; clear BK162; clear HB; have HO_8 := n0_; have HO174 := n1_; have BK162 := n2_; have HB := n3_; clear n0_ n1_ n2_ n3_; ((clear hb)); (skip); (skip); (skip)))
           ((simp only [← hl8_1]))
           go_roundg k1
           case measure => have := HK1.out; omega
           case rel => exact ⟨(y172), (y171), (t175), (by rfl), H', ⟨by have := HK1.out; omega⟩, ⟨by (skip); (with_reducible repeat (fail)); exact HO174.out⟩, ⟨by ((simp only [hl8_1])); (with_reducible repeat (fail)); exact HO_8.out⟩, ⟨by (skip); (with_reducible repeat (fail)); exact BK162.out⟩, ⟨HB.out⟩⟩
          ·rw [if_neg c21] at H
           exact absurd H (by simp)
        ·rw [if_neg c17] at H
         exact absurd H (by simp)
       ·rw [if_neg c16] at H
        exact absurd H (by simp)
   ·rw [if_neg c6] at H
    exact absurd H (by simp)
  ·rw [if_neg c5] at H
   exact absurd H (by simp)
 ·rw [if_neg c4] at H
  exact absurd H (by simp)
def field_generator.l0 : Nat → Int → Int → Int → Int → List Int → Option (List Int)
 | 0, _, _, _, _, _ => none
 | k + 1, x1, x5, x177000, x177001, x177002 => if x5 < x1 then ((field_powers.f k x177000 x177001 x177002 x1 x5).bind fun t177 => (if (t177.length : Int) = (wrap64 (x1 - 1)) then (if 0 ≤ (wrap64 (x1 - 2)) then (if (wrap64 (x1 - 2)) < (t177.length : Int) then ((field_multiply.f k x177000 x177001 x177002 (rd t177 (wrap64 (x1 - 2))) x5).bind fun t181 => (if t181 = 1 then (some t177) else (field_generator.l0 k x1 (wrap64 (x5 + 1)) x177000 x177001 x177002))) else (none)) else (none)) else (field_generator.l0 k x1 (wrap64 (x5 + 1)) x177000 x177001 x177002))) else (some ([] : List Int))
def field_generator.f (k : Nat) (a0_0 : Int) (a0_1 : Int) (l0_2 : List Int) (a1 : Int) : Option (List Int) := field_generator.l0 k a1 1 a0_0 a0_1 l0_2
def field_generator.T5 : Bool × List (List Nat × List Nat) := (true, [([], []), ([0], [0]), ([], []), ([2], [2]), ([1, 3], [1, 3]), ([4], [4]), ([5], [5]), ([5], [5]), ([5], [5]), ([8, 5], [5, 8]), ([7, 9, 5], [5, 7, 9]), ([10, 5], [5, 10]), ([5], [5]), ([6, 11, 12, 5, 5], [5, 6, 11, 12]), ([13, 5], [5, 13]), ([5, 14], [5, 14])])
def field_generator.B5 : List Nat := [0, 1, 0, 4, 15, 31, 63, 63, 63, 319, 959, 1983, 63, 8191, 16383, 32767]
theorem field_generator.tab5 : rtab .any (opsOf Try.f76 5) = field_generator.T5 := by kernel_rfl
theorem field_generator.bits5 : waitsOk field_generator.T5.2 field_generator.B5 = true := by kernel_rfl
set_option maxHeartbeats 8000000 in
set_option maxRecDepth 100000 in
theorem field_generator.calls (k : Nat) (a0_0 : Int) (a0_1 : Int) (A0_2 : Option Addr) (c0_2 : Nat) (l0_2 : List Int) (a1 : Int) (r : List Int) (w : World) (hr0_2 : Kd.C (Kd.int .i64) w A0_2 l0_2.length l0_2) (hc0_2 : l0_2.length ≤ c0_2) (h : field_generator.f k a0_0 a0_1 l0_2 a1 = some r) :
  Calls Try.prog 76 #[.agg #[.int .i64 a0_0, .int .i64 a0_1, .slice A0_2 l0_2.length c0_2], .int .i64 a1] w fun e w' => ∃ v0_ : Value, e = .returned (v0_) ∧ Kd.R (Kd.int .i64) 3 w' w.heap.size (fun _ => True) v0_ r ∧ Below w.heap.size w w' ∧ (r = [] → v0_ = .slice none 0 0) := by
 have hu24 := Try.underlying24
 have HR0_2 := Aside0.mk hr0_2
 have HC0_2 := Aside0.mk hc0_2
 clear hr0_2 hc0_2
 have HB := Aside0.mk (Below.refl w.heap.size w)
 have H : (field_generator.l0 k a1 1 a0_0 a0_1 l0_2) = some r := h
 clear h
 have H' := Aside0.mk H
 clear H
 go_enter Try.func76, Try.ntmps76
 go_wp2_with (((with_reducible refine gate_dst (N := 2) rfl ?_); refine box_event ?hg (N := 2) ?hd (cs := #[.int .i64 a0_0, .int .i64 a0_1, .slice A0_2 l0_2.length c0_2]) (t := 24) ?hr ?_; (case hd => rfl); (case hg => rfl); (case hr => (go_simp; done)); intro gb176 hg w3 hbox hb; have n0_ := Aside0.mk (below_step HB.out hb); have n1_ := Aside0.mk (hbox); have n2_ := Aside0.mk ((by rw [hg]; exact (below_size HB.out) : w.heap.size ≤ gb176)); have n3_ := Aside0.mk ((by rw [hg]; exact (below_size HB.out) : w.heap.size ≤ gb176)); clear HB; have HB := n0_; have BK176 := n1_; have GW176 := n2_; have GE176 := n3_; clear n0_ n1_ n2_ n3_; clear hb hbox hg))
 go_loopg [5] k (fun kq v5 w' => ∃ (x5_1 : Int), v5 = .int .i64 x5_1 ∧ Aside0 (field_generator.l0 kq a1 x5_1 a0_0 a0_1 l0_2 = some r) ∧ Aside0 (kq ≤ k) ∧ Aside0 (w'.heap[gb176]? = some (.cells #[.int .i64 a0_0, .int .i64 a0_1, (.slice A0_2 l0_2.length c0_2)] 24 (0, 0))) ∧ Aside0 (Below w.heap.size w w'))
 case atStart => exact ⟨(1), (by rfl), H', ⟨Nat.le_refl _⟩, ⟨BK176.out⟩, ⟨HB.out⟩⟩
 case round =>
  clear H'
  obtain ⟨x5_1, rfl, HA, HK1, BK176, HB⟩ := hrel
  cases gk with
  | zero => exact absurd HA.out (by simp [field_generator.l0])
  | succ k1 =>
   have H := HA.out
   clear HA
   simp only [field_generator.l0] at H
   by_cases c4 : x5_1 < a1
   ·rw [if_pos c4] at H
    have c4b0 : decide (x5_1 < a1) = true := decide_eq_true c4
    clear c4
    obtain ⟨t177, A50, H⟩ := Option.bind_eq_some_iff.mp H
    replace H : (if (t177.length : Int) = (wrap64 (a1 - 1)) then (if 0 ≤ (wrap64 (a1 - 2)) then (if (wrap64 (a1 - 2)) < (t177.length : Int) then ((field_multiply.f k1 a0_0 a0_1 l0_2 (rd t177 (wrap64 (a1 - 2))) x5_1).bind fun t181 => (if t181 = 1 then (some t177) else (field_generator.l0 k1 a1 (wrap64 (x5_1 + 1)) a0_0 a0_1 l0_2))) else (none)) else (none)) else (field_generator.l0 k1 a1 (wrap64 (x5_1 + 1)) a0_0 a0_1 l0_2)) = some r := H
    have A5 := Aside0.mk A50
    clear A50
    by_cases c6 : (t177.length : Int) = (wrap64 (a1 - 1))
    ·rw [if_pos c6] at H
     have c6b0 : ((t177.length : Int) == (wrap64 (a1 - 1))) = true := beq_iff_eq.mpr c6
     have c6b1 : ((t177.length : Int) != (wrap64 (a1 - 1))) = false := bne_eq_false_iff_eq.mpr c6
     clear c6
     obtain ⟨ji7, hji7⟩ : ∃ j_ : Int, (wrap64 (a1 - 2)) = j_ := ⟨_, rfl⟩
     replace H : (if 0 ≤ (ji7) then (if (ji7) < (t177.length : Int) then ((field_multiply.f k1 a0_0 a0_1 l0_2 (rd t177 (ji7)) x5_1).bind fun t181 => (if t181 = 1 then (some t177) else (field_generator.l0 k1 a1 (wrap64 (x5_1 + 1)) a0_0 a0_1 l0_2))) else (none)) else (none)) = some r := by (rw [hji7] at H; exact H)
     have hji7w : (IntKind.i64.wrap (a1 - 2)) = ji7 := (i64_w _).trans hji7
     by_cases c8 : 0 ≤ (ji7)
     ·rw [if_pos c8] at H
      have hnzB := Aside0.mk c8
      have c8b0 : decide (0 ≤ (ji7)) = true := decide_eq_true c8
      clear c8
      by_cases c9 : (ji7) < (t177.length : Int)
      ·rw [if_pos c9] at H
       have hnzA := Aside0.mk (show 0 < t177.length by have := hnzB.out; omega)
       have c9b0 : decide ((ji7) < (t177.length : Int)) = true := decide_eq_true c9
       clear c9
       obtain ⟨t181, A100, H⟩ := Option.bind_eq_some_iff.mp H
       replace H : (if t181 = 1 then (some t177) else (field_generator.l0 k1 a1 (wrap64 (x5_1 + 1)) a0_0 a0_1 l0_2)) = some r := H
       have A10 := Aside0.mk A100
       clear A100
       by_cases c11 : t181 = 1
       ·rw [if_pos c11] at H
        have c11b0 : (t181 == 1) = true := beq_iff_eq.mpr c11
        have c11b1 : (t181 != 1) = false := bne_eq_false_iff_eq.mpr c11
        clear c11
        obtain rfl := Option.some.inj H
        have hcz12_0 : wr.cell? ⟨gb176, 0, none⟩ = some (.int .i64 a0_0) := (blk_cell BK176.out 0).trans rfl
        have hcz12_1 : wr.cell? ⟨gb176, 1, none⟩ = some (.int .i64 a0_1) := (blk_cell BK176.out 1).trans rfl
        have hcz12_2 : wr.cell? ⟨gb176, 2, none⟩ = some (.slice A0_2 l0_2.length c0_2) := (blk_cell BK176.out 2).trans rfl
        have hfz12_0 := blk_frozen BK176.out 0
        have hfz12_1 := blk_frozen BK176.out 1
        have hfz12_2 := blk_frozen BK176.out 2
        (go_wp2_with (((with_reducible refine gate_callee (f := 94) rfl ?_); refine goesL_ (some 15) rfl rfl Try.func94 (by kernel_rfl) rfl #[.agg #[.int .i64 a0_0, .int .i64 a0_1, .slice A0_2 l0_2.length c0_2], .int .i64 a1, .int .i64 x5_1] rfl (by ((simp only [List.map_toArray, List.map_cons, List.map_nil])); (rfl)) ?_; (with_reducible refine (field_powers.calls k1 a0_0 a0_1 _ _ l0_2 a1 x5_1 t177 _ ?side1 ?side2 A5.out).mono ?_); (case side1 => repeat ((exact (Kd.C_below HR0_2.out HB.out)))); (case side2 => exact HC0_2.out); rintro e w13 ⟨v178, rfl, ho0, hb⟩; refine ⟨_, rfl, ?_⟩; have n0_ := Aside0.mk (Kd.R_lower ho0 (below_size HB.out)); have n1_ := Aside0.mk (blk_below (g := gb176) (o := .cells #[.int .i64 a0_0, .int .i64 a0_1, .slice A0_2 l0_2.length c0_2] 24 (0, 0)) BK176.out hb); have n2_ := Aside0.mk (below_step HB.out hb); clear BK176; clear HB; have HO179 := n0_; have BK176 := n1_; have HB := n2_; clear n0_ n1_ n2_; ((clear hb)); (skip); (skip); (skip); ((clear ho0)))))
        have n0_ := Aside0.mk (Kd.R_drew HO179.out)
        have n1_ := Aside0.mk (blk_drew BK176.out)
        have n2_ := Aside0.mk (below_drew1 HB.out)
        clear HO179 BK176 HB
        have HO179 := n0_
        have BK176 := n1_
        have HB := n2_
        clear n0_ n1_ n2_
        obtain ⟨Ao15, co15, eo15⟩ := Kd.R_slice HO179.out
        ((subst eo15))
        have p180 : 0 ≤ ((ji7) : Int) := of_decide_eq_true (by (with_reducible assumption))
        have q180 : (ji7) < (t177.length : Int) := of_decide_eq_true (by (with_reducible assumption))
        obtain ⟨ad180, e180, hx180_0⟩ := Kd.at_int (Kd.R_reads' HO179.out).2.2 (ji7) p180 q180
        cases e180
        replace p180 := eq_true p180
        replace q180 := eq_true q180
        refine start_ (n := 16) (S := fun w' => w'.cell? ⟨gb176, 0, none⟩ = some (.int .i64 a0_0) ∧ w'.cell? ⟨gb176, 1, none⟩ = some (.int .i64 a0_1) ∧ w'.cell? ⟨gb176, 2, none⟩ = some (.slice A0_2 l0_2.length c0_2) ∧ w'.cell? (ad180.add ((ji7)).toNat) = some (.int .i64 (rd t177 (ji7)))) (ds := []) (bm 16 0) (by kernel_rfl) rfl rfl ⟨(blk_cell BK176.out 0).trans rfl, (blk_cell BK176.out 1).trans rfl, (blk_cell BK176.out 2).trans rfl, hx180_0⟩ (fun hHeld => ?_); refine with_tabW field_generator.tab5 field_generator.bits5 (fun HT_ HW_ => ?_)
        generalize w13.drew = w14 at HO179 BK176 HB hx180_0 hHeld ⊢
        refine pure_ (i := 0) (N := some 16) (v := ?_) (a' := ?_) (bm 16 1) rfl rfl (any_of HT_.out (by kernel_rfl)) (fun _ _ _ h => h) (Or.inl ⟨by rfl, ?_⟩) ?_ ?_;rotate_left;(intro w';go_simp;with_reducible rfl);rotate_left;(simp only [ps_];rfl)
        refine pure_ (i := 1) (N := some 17) (v := ?_) (a' := ?_) (bm 16 3) rfl rfl (any_of HT_.out (by kernel_rfl)) (fun _ _ _ h => h) (Or.inl ⟨by rfl, ?_⟩) ?_ ?_;rotate_left;(intro w';go_simp;with_reducible rfl);rotate_left;(simp only [ps_];rfl)
        refine pure_ (i := 2) (N := some 18) (v := ?_) (a' := ?_) (bm 16 7) rfl rfl (any_of HT_.out (by kernel_rfl)) (fun _ _ _ h => h) (Or.inl ⟨by rfl, ?_⟩) ?_ ?_;rotate_left;(intro w';go_simp;with_reducible rfl);rotate_left;(simp only [ps_];rfl)
        refine pure_ (i := 3) (N := some 19) (v := ?_) (a' := ?_) (bm 16 15) rfl rfl (any_of HT_.out (by kernel_rfl)) (fun _ _ _ h => h) (Or.inl ⟨by rfl, ?_⟩) ?_ ?_;rotate_left;(intro w';go_simp;with_reducible rfl);rotate_left;(simp only [ps_];rfl)
        refine pure_ (i := 4) (N := some 20) (v := ?_) (a' := ?_) (bm 16 31) rfl rfl (any_of HT_.out (by kernel_rfl)) (fun _ _ _ h => h) (Or.inl ⟨by rfl, ?_⟩) ?_ ?_;rotate_left;(intro w';go_simp;with_reducible rfl);rotate_left;(simp only [ps_];rfl)
        refine pure_ (i := 5) (N := some 21) (v := ?_) (a' := ?_) (bm 16 63) rfl rfl (any_of HT_.out (by kernel_rfl)) (fun _ _ _ h => h) (Or.inl ⟨by rfl, ?_⟩) ?_ ?_;rotate_left;(intro w';go_simp;with_reducible rfl);rotate_left;(simp only [ps_];rfl)
        refine pure_ (i := 7) (N := some 23) (v := ?_) (a' := ?_) (bm 16 191) rfl rfl (any_of HT_.out (by kernel_rfl)) (fun _ _ _ h => h) (Or.inl ⟨by rfl, ?_⟩) ?_ ?_;rotate_left;(intro w';go_simp;with_reducible rfl);rotate_left;(simp only [ps_];rfl)
        refine pure_ (i := 8) (N := some 24) (v := ?_) (a' := ?_) (bm 16 447) rfl rfl (any_of HT_.out (by kernel_rfl)) (fun _ _ _ h => h) (Or.inl ⟨by rfl, ?_⟩) ?_ ?_;rotate_left;(intro w';go_simp;with_reducible rfl);rotate_left;(simp only [ps_];rfl)
        refine pure_ (i := 9) (N := some 25) (v := ?_) (a' := ?_) (bm 16 959) rfl rfl (any_of HT_.out (by kernel_rfl)) (fun _ _ _ h => h) (Or.inl ⟨by rfl, ?_⟩) ?_ ?_;rotate_left;(intro w';go_simp;with_reducible rfl);rotate_left;(simp only [ps_];rfl)
        refine pure_ (i := 10) (N := some 26) (v := ?_) (a' := ?_) (bm 16 1983) rfl rfl (any_of HT_.out (by kernel_rfl)) (fun _ _ _ h => h) (Or.inl ⟨by rfl, ?_⟩) ?_ ?_;rotate_left;(intro w';go_simp;with_reducible rfl);rotate_left;(simp only [ps_];rfl)
        refine pure_ (i := 12) (N := some 28) (v := ?_) (a' := ?_) (bm 16 6079) rfl rfl (any_of HT_.out (by kernel_rfl)) (fun _ _ _ h => h) (Or.inl ⟨by rfl, ?_⟩) ?_ ?_;rotate_left;(intro w';go_simp;with_reducible rfl);rotate_left;(simp only [ps_];rfl)
        refine take_ (i := 6) (N := some 22) (v := ?_) (a' := ?_) (bm 16 6143) rfl rfl (take_ofW HT_.out HW_.out (by kernel_rfl)) (fun _ _ _ h => h) (Or.inl ⟨by rfl, ?_⟩) hHeld ?_ ?_;rotate_left;(rintro w' ⟨s0, s1, s2, s3⟩;go_simp;with_reducible rfl);rotate_left;(simp only [ps_];rfl)
        refine take_ (i := 11) (N := some 27) (v := ?_) (a' := ?_) (bm 16 8191) rfl rfl (take_ofW HT_.out HW_.out (by kernel_rfl)) (fun _ _ _ h => h) (Or.inl ⟨by rfl, ?_⟩) hHeld ?_ ?_;rotate_left;(rintro w' ⟨s0, s1, s2, s3⟩;go_simp;with_reducible rfl);rotate_left;(simp only [ps_];rfl)
        refine one_ (i := 13) (N := some 29) (bm 16 16383) rfl rfl (one_of HT_.out (by kernel_rfl)) (by decide) (fun K hK => ?_)
        refine goes_ Try.func95 (by kernel_rfl) rfl #[.agg #[.int .i64 a0_0, .int .i64 a0_1, .slice A0_2 l0_2.length c0_2], .int .i64 (rd t177 (ji7)), .int .i64 x5_1] (by rfl) rfl rfl (by ((simp only [List.map_toArray, List.map_cons, List.map_nil])); (rfl)) ?_
        with_reducible refine (field_multiply.calls k1 a0_0 a0_1 _ _ l0_2 (rd t177 (ji7)) x5_1 t181 _ ?side1 ?side2 A10.out).mono ?_
        (case side1 => repeat ((exact (Kd.C_below HR0_2.out HB.out))))
        (case side2 => exact HC0_2.out)
        rintro e w16 ⟨rfl, hb⟩
        have HS3_ := (hb.cell (World.block_lt_of_cell? _ _ (hHeld.2.2.2))).trans (hHeld.2.2.2)
        refine ⟨_, rfl, ?_⟩
        have n0_ := Aside0.mk (Kd.R_below HO179.out hb)
        have n1_ := Aside0.mk (blk_below (g := gb176) (o := .cells #[.int .i64 a0_0, .int .i64 a0_1, .slice A0_2 l0_2.length c0_2] 24 (0, 0)) BK176.out hb)
        have n2_ := Aside0.mk (below_step HB.out hb)
        clear HO179 BK176 HB
        have HO179 := n0_
        have BK176 := n1_
        have HB := n2_
        clear n0_ n1_ n2_
        ((clear hb))
        refine hK.out _ _ ⟨(blk_cell BK176.out 0).trans rfl, (blk_cell BK176.out 1).trans rfl, (blk_cell BK176.out 2).trans rfl, HS3_⟩ (fun hHeld => ?_)
        clear hK K
        refine norm_ (a' := ?_) ?_ ?_
        rotate_left
        ·show Act.put _ (some 29) _ = _
         simp only [Act.put, List.setIfInBounds_toArray, List.set_cons_zero, List.set_cons_succ, i64_w, i32_w]
         rfl
        refine pure_ (i := 14) (N := some 30) (v := ?_) (a' := ?_) (bm 16 32767) rfl rfl (any_of HT_.out (by kernel_rfl)) (fun _ _ _ h => h) (Or.inl ⟨by rfl, ?_⟩) ?_ ?_;rotate_left;(intro w';go_simp;with_reducible rfl);rotate_left;(simp only [ps_];rfl)
        refine pure_ (i := 15) (N := some 31) (v := ?_) (a' := ?_) (bm 16 65535) rfl rfl (any_of HT_.out (by kernel_rfl)) (fun _ _ _ h => h) (Or.inl ⟨by rfl, ?_⟩) ?_ ?_;rotate_left;(intro w';go_simp;with_reducible rfl);rotate_left;(simp only [ps_];rfl)
        refine done_ (done_of HT_.out (by kernel_rfl)) ?_
        (go_wp2)
        go_ret
        exact ⟨_, by rfl, by exact HO179.out, by exact HB.out, fun hz => by have h1 := hnzA.out; rw [hz] at h1; exact absurd h1 (by simp)⟩
       ·rw [if_neg c11] at H
        have c11b0 : (t181 == 1) = false := beq_eq_false_iff_ne.mpr c11
        have c11b1 : (t181 != 1) = true := bne_iff_ne.mpr c11
        have H' := Aside0.mk H
        clear H
        have hcz17_0 : wr.cell? ⟨gb176, 0, none⟩ = some (.int .i64 a0_0) := (blk_cell BK176.out 0).trans rfl
        have hcz17_1 : wr.cell? ⟨gb176, 1, none⟩ = some (.int .i64 a0_1) := (blk_cell BK176.out 1).trans rfl
        have hcz17_2 : wr.cell? ⟨gb176, 2, none⟩ = some (.slice A0_2 l0_2.length c0_2) := (blk_cell BK176.out 2).trans rfl
        have hfz17_0 := blk_frozen BK176.out 0
        have hfz17_1 := blk_frozen BK176.out 1
        have hfz17_2 := blk_frozen BK176.out 2
        (go_wp2_with (((with_reducible refine gate_callee (f := 94) rfl ?_); refine goesL_ (some 15) rfl rfl Try.func94 (by kernel_rfl) rfl #[.agg #[.int .i64 a0_0, .int .i64 a0_1, .slice A0_2 l0_2.length c0_2], .int .i64 a1, .int .i64 x5_1] rfl (by ((simp only [List.map_toArray, List.map_cons, List.map_nil])); (rfl)) ?_; (with_reducible refine (field_powers.calls k1 a0_0 a0_1 _ _ l0_2 a1 x5_1 t177 _ ?side1 ?side2 A5.out).mono ?_); (case side1 => repeat ((exact (Kd.C_below HR0_2.out HB.out)))); (case side2 => exact HC0_2.out); rintro e w18 ⟨v178, rfl, ho0, hb⟩; refine ⟨_, rfl, ?_⟩; have n0_ := Aside0.mk (Kd.R_lower ho0 (below_size HB.out)); have n1_ := Aside0.mk (blk_below (g := gb176) (o := .cells #[.int .i64 a0_0, .int .i64 a0_1, .slice A0_2 l0_2.length c0_2] 24 (0, 0)) BK176.out hb); have n2_ := Aside0.mk (below_step HB.out hb); clear BK176; clear HB; have HO179 := n0_; have BK176 := n1_; have HB := n2_; clear n0_ n1_ n2_; ((clear hb)); (skip); (skip); (skip); ((clear ho0)))))
        have n0_ := Aside0.mk (Kd.R_drew HO179.out)
        have n1_ := Aside0.mk (blk_drew BK176.out)
        have n2_ := Aside0.mk (below_drew1 HB.out)
        clear HO179 BK176 HB
        have HO179 := n0_
        have BK176 := n1_
        have HB := n2_
        clear n0_ n1_ n2_
        obtain ⟨Ao20, co20, eo20⟩ := Kd.R_slice HO179.out
        ((subst eo20))
        have p180 : 0 ≤ ((ji7) : Int) := of_decide_eq_true (by (with_reducible assumption))
        have q180 : (ji7) < (t177.length : Int) := of_decide_eq_true (by (with_reducible assumption))
        obtain ⟨ad180, e180, hx180_0⟩ := Kd.at_int (Kd.R_reads' HO179.out).2.2 (ji7) p180 q180
        cases e180
        replace p180 := eq_true p180
        replace q180 := eq_true q180
        refine start_ (n := 16) (S := fun w' => w'.cell? ⟨gb176, 0, none⟩ = some (.int .i64 a0_0) ∧ w'.cell? ⟨gb176, 1, none⟩ = some (.int .i64 a0_1) ∧ w'.cell? ⟨gb176, 2, none⟩ = some (.slice A0_2 l0_2.length c0_2) ∧ w'.cell? (ad180.add ((ji7)).toNat) = some (.int .i64 (rd t177 (ji7)))) (ds := []) (bm 16 0) (by kernel_rfl) rfl rfl ⟨(blk_cell BK176.out 0).trans rfl, (blk_cell BK176.out 1).trans rfl, (blk_cell BK176.out 2).trans rfl, hx180_0⟩ (fun hHeld => ?_); refine with_tabW field_generator.tab5 field_generator.bits5 (fun HT_ HW_ => ?_)
        generalize w18.drew = w19 at HO179 BK176 HB hx180_0 hHeld ⊢
        refine pure_ (i := 0) (N := some 16) (v := ?_) (a' := ?_) (bm 16 1) rfl rfl (any_of HT_.out (by kernel_rfl)) (fun _ _ _ h => h) (Or.inl ⟨by rfl, ?_⟩) ?_ ?_;rotate_left;(intro w';go_simp;with_reducible rfl);rotate_left;(simp only [ps_];rfl)
        refine pure_ (i := 1) (N := some 17) (v := ?_) (a' := ?_) (bm 16 3) rfl rfl (any_of HT_.out (by kernel_rfl)) (fun _ _ _ h => h) (Or.inl ⟨by rfl, ?_⟩) ?_ ?_;rotate_left;(intro w';go_simp;with_reducible rfl);rotate_left;(simp only [ps_];rfl)
        refine pure_ (i := 2) (N := some 18) (v := ?_) (a' := ?_) (bm 16 7) rfl rfl (any_of HT_.out (by kernel_rfl)) (fun _ _ _ h => h) (Or.inl ⟨by rfl, ?_⟩) ?_ ?_;rotate_left;(intro w';go_simp;with_reducible rfl);rotate_left;(simp only [ps_];rfl)
        refine pure_ (i := 3) (N := some 19) (v := ?_) (a' := ?_) (bm 16 15) rfl rfl (any_of HT_.out (by kernel_rfl)) (fun _ _ _ h => h) (Or.inl ⟨by rfl, ?_⟩) ?_ ?_;rotate_left;(intro w';go_simp;with_reducible rfl);rotate_left;(simp only [ps_];rfl)
        refine pure_ (i := 4) (N := some 20) (v := ?_) (a' := ?_) (bm 16 31) rfl rfl (any_of HT_.out (by kernel_rfl)) (fun _ _ _ h => h) (Or.inl ⟨by rfl, ?_⟩) ?_ ?_;rotate_left;(intro w';go_simp;with_reducible rfl);rotate_left;(simp only [ps_];rfl)
        refine pure_ (i := 5) (N := some 21) (v := ?_) (a' := ?_) (bm 16 63) rfl rfl (any_of HT_.out (by kernel_rfl)) (fun _ _ _ h => h) (Or.inl ⟨by rfl, ?_⟩) ?_ ?_;rotate_left;(intro w';go_simp;with_reducible rfl);rotate_left;(simp only [ps_];rfl)
        refine pure_ (i := 7) (N := some 23) (v := ?_) (a' := ?_) (bm 16 191) rfl rfl (any_of HT_.out (by kernel_rfl)) (fun _ _ _ h => h) (Or.inl ⟨by rfl, ?_⟩) ?_ ?_;rotate_left;(intro w';go_simp;with_reducible rfl);rotate_left;(simp only [ps_];rfl)
        refine pure_ (i := 8) (N := some 24) (v := ?_) (a' := ?_) (bm 16 447) rfl rfl (any_of HT_.out (by kernel_rfl)) (fun _ _ _ h => h) (Or.inl ⟨by rfl, ?_⟩) ?_ ?_;rotate_left;(intro w';go_simp;with_reducible rfl);rotate_left;(simp only [ps_];rfl)
        refine pure_ (i := 9) (N := some 25) (v := ?_) (a' := ?_) (bm 16 959) rfl rfl (any_of HT_.out (by kernel_rfl)) (fun _ _ _ h => h) (Or.inl ⟨by rfl, ?_⟩) ?_ ?_;rotate_left;(intro w';go_simp;with_reducible rfl);rotate_left;(simp only [ps_];rfl)
        refine pure_ (i := 10) (N := some 26) (v := ?_) (a' := ?_) (bm 16 1983) rfl rfl (any_of HT_.out (by kernel_rfl)) (fun _ _ _ h => h) (Or.inl ⟨by rfl, ?_⟩) ?_ ?_;rotate_left;(intro w';go_simp;with_reducible rfl);rotate_left;(simp only [ps_];rfl)
        refine pure_ (i := 12) (N := some 28) (v := ?_) (a' := ?_) (bm 16 6079) rfl rfl (any_of HT_.out (by kernel_rfl)) (fun _ _ _ h => h) (Or.inl ⟨by rfl, ?_⟩) ?_ ?_;rotate_left;(intro w';go_simp;with_reducible rfl);rotate_left;(simp only [ps_];rfl)
        refine take_ (i := 6) (N := some 22) (v := ?_) (a' := ?_) (bm 16 6143) rfl rfl (take_ofW HT_.out HW_.out (by kernel_rfl)) (fun _ _ _ h => h) (Or.inl ⟨by rfl, ?_⟩) hHeld ?_ ?_;rotate_left;(rintro w' ⟨s0, s1, s2, s3⟩;go_simp;with_reducible rfl);rotate_left;(simp only [ps_];rfl)
        refine take_ (i := 11) (N := some 27) (v := ?_) (a' := ?_) (bm 16 8191) rfl rfl (take_ofW HT_.out HW_.out (by kernel_rfl)) (fun _ _ _ h => h) (Or.inl ⟨by rfl, ?_⟩) hHeld ?_ ?_;rotate_left;(rintro w' ⟨s0, s1, s2, s3⟩;go_simp;with_reducible rfl);rotate_left;(simp only [ps_];rfl)
        refine one_ (i := 13) (N := some 29) (bm 16 16383) rfl rfl (one_of HT_.out (by kernel_rfl)) (by decide) (fun K hK => ?_)
        refine goes_ Try.func95 (by kernel_rfl) rfl #[.agg #[.int .i64 a0_0, .int .i64 a0_1, .slice A0_2 l0_2.length c0_2], .int .i64 (rd t177 (ji7)), .int .i64 x5_1] (by rfl) rfl rfl (by ((simp only [List.map_toArray, List.map_cons, List.map_nil])); (rfl)) ?_
        with_reducible refine (field_multiply.calls k1 a0_0 a0_1 _ _ l0_2 (rd t177 (ji7)) x5_1 t181 _ ?side1 ?side2 A10.out).mono ?_
        (case side1 => repeat ((exact (Kd.C_below HR0_2.out HB.out))))
        (case side2 => exact HC0_2.out)
        rintro e w21 ⟨rfl, hb⟩
        have HS3_ := (hb.cell (World.block_lt_of_cell? _ _ (hHeld.2.2.2))).trans (hHeld.2.2.2)
        refine ⟨_, rfl, ?_⟩
        have n0_ := Aside0.mk (Kd.R_below HO179.out hb)
        have n1_ := Aside0.mk (blk_below (g := gb176) (o := .cells #[.int .i64 a0_0, .int .i64 a0_1, .slice A0_2 l0_2.length c0_2] 24 (0, 0)) BK176.out hb)
        have n2_ := Aside0.mk (below_step HB.out hb)
        clear HO179 BK176 HB
        have HO179 := n0_
        have BK176 := n1_
        have HB := n2_
        clear n0_ n1_ n2_
        ((clear hb))
        refine hK.out _ _ ⟨(blk_cell BK176.out 0).trans rfl, (blk_cell BK176.out 1).trans rfl, (blk_cell BK176.out 2).trans rfl, HS3_⟩ (fun hHeld => ?_)
        clear hK K
        refine norm_ (a' := ?_) ?_ ?_
        rotate_left
        ·show Act.put _ (some 29) _ = _
         simp only [Act.put, List.setIfInBounds_toArray, List.set_cons_zero, List.set_cons_succ, i64_w, i32_w]
         rfl
        refine pure_ (i := 14) (N := some 30) (v := ?_) (a' := ?_) (bm 16 32767) rfl rfl (any_of HT_.out (by kernel_rfl)) (fun _ _ _ h => h) (Or.inl ⟨by rfl, ?_⟩) ?_ ?_;rotate_left;(intro w';go_simp;with_reducible rfl);rotate_left;(simp only [ps_];rfl)
        refine pure_ (i := 15) (N := some 31) (v := ?_) (a' := ?_) (bm 16 65535) rfl rfl (any_of HT_.out (by kernel_rfl)) (fun _ _ _ h => h) (Or.inl ⟨by rfl, ?_⟩) ?_ ?_;rotate_left;(intro w';go_simp;with_reducible rfl);rotate_left;(simp only [ps_];rfl)
        refine done_ (done_of HT_.out (by kernel_rfl)) ?_
        (go_wp2)
        go_roundg k1
        case measure => have := HK1.out; omega
        case rel => exact ⟨(wrap64 (x5_1 + 1)), (by rfl), H', ⟨by have := HK1.out; omega⟩, ⟨BK176.out⟩, ⟨HB.out⟩⟩
      ·rw [if_neg c9] at H
       exact absurd H (by simp)
     ·rw [if_neg c8] at H
      exact absurd H (by simp)
    ·rw [if_neg c6] at H
     have c6b0 : ((t177.length : Int) == (wrap64 (a1 - 1))) = false := beq_eq_false_iff_ne.mpr c6
     have c6b1 : ((t177.length : Int) != (wrap64 (a1 - 1))) = true := bne_iff_ne.mpr c6
     have H' := Aside0.mk H
     clear H
     have hcz22_0 : wr.cell? ⟨gb176, 0, none⟩ = some (.int .i64 a0_0) := (blk_cell BK176.out 0).trans rfl
     have hcz22_1 : wr.cell? ⟨gb176, 1, none⟩ = some (.int .i64 a0_1) := (blk_cell BK176.out 1).trans rfl
     have hcz22_2 : wr.cell? ⟨gb176, 2, none⟩ = some (.slice A0_2 l0_2.length c0_2) := (blk_cell BK176.out 2).trans rfl
     have hfz22_0 := blk_frozen BK176.out 0
     have hfz22_1 := blk_frozen BK176.out 1
     have hfz22_2 := blk_frozen BK176.out 2
     (go_wp2_with (((with_reducible refine gate_callee (f := 94) rfl ?_); refine goesL_ (some 15) rfl rfl Try.func94 (by kernel_rfl) rfl #[.agg #[.int .i64 a0_0, .int .i64 a0_1, .slice A0_2 l0_2.length c0_2], .int .i64 a1, .int .i64 x5_1] rfl (by ((simp only [List.map_toArray, List.map_cons, List.map_nil])); (rfl)) ?_; (with_reducible refine (field_powers.calls k1 a0_0 a0_1 _ _ l0_2 a1 x5_1 t177 _ ?side1 ?side2 A5.out).mono ?_); (case side1 => repeat ((exact (Kd.C_below HR0_2.out HB.out)))); (case side2 => exact HC0_2.out); rintro e w23 ⟨v178, rfl, ho0, hb⟩; refine ⟨_, rfl, ?_⟩; have n0_ := Aside0.mk (Kd.R_lower ho0 (below_size HB.out)); have n1_ := Aside0.mk (blk_below (g := gb176) (o := .cells #[.int .i64 a0_0, .int .i64 a0_1, .slice A0_2 l0_2.length c0_2] 24 (0, 0)) BK176.out hb); have n2_ := Aside0.mk (below_step HB.out hb); clear BK176; clear HB; have HO179 := n0_; have BK176 := n1_; have HB := n2_; clear n0_ n1_ n2_; ((clear hb)); (skip); (skip); (skip); ((clear ho0)))))
     have n0_ := Aside0.mk (Kd.R_drew HO179.out)
     have n1_ := Aside0.mk (blk_drew BK176.out)
     have n2_ := Aside0.mk (below_drew1 HB.out)
     clear HO179 BK176 HB
     have HO179 := n0_
     have BK176 := n1_
     have HB := n2_
     clear n0_ n1_ n2_
     obtain ⟨Ao25, co25, eo25⟩ := Kd.R_slice HO179.out
     ((subst eo25))
     refine start_ (n := 16) (S := fun w' => True) (ds := []) (bm 16 0) (by kernel_rfl) rfl rfl trivial (fun hHeld => ?_); refine with_tabW field_generator.tab5 field_generator.bits5 (fun HT_ HW_ => ?_)
     generalize w23.drew = w24 at HO179 BK176 HB hHeld ⊢
     refine pure_ (i := 0) (N := some 16) (v := ?_) (a' := ?_) (bm 16 1) rfl rfl (any_of HT_.out (by kernel_rfl)) (fun _ _ _ h => h) (Or.inl ⟨by rfl, ?_⟩) ?_ ?_;rotate_left;(intro w';go_simp;with_reducible rfl);rotate_left;(simp only [ps_];rfl)
     refine pure_ (i := 1) (N := some 17) (v := ?_) (a' := ?_) (bm 16 3) rfl rfl (any_of HT_.out (by kernel_rfl)) (fun _ _ _ h => h) (Or.inl ⟨by rfl, ?_⟩) ?_ ?_;rotate_left;(intro w';go_simp;with_reducible rfl);rotate_left;(simp only [ps_];rfl)
     refine pure_ (i := 2) (N := some 18) (v := ?_) (a' := ?_) (bm 16 7) rfl rfl (any_of HT_.out (by kernel_rfl)) (fun _ _ _ h => h) (Or.inl ⟨by rfl, ?_⟩) ?_ ?_;rotate_left;(intro w';go_simp;with_reducible rfl);rotate_left;(simp only [ps_];rfl)
     refine pure_ (i := 3) (N := some 19) (v := ?_) (a' := ?_) (bm 16 15) rfl rfl (any_of HT_.out (by kernel_rfl)) (fun _ _ _ h => h) (Or.inl ⟨by rfl, ?_⟩) ?_ ?_;rotate_left;(intro w';go_simp;with_reducible rfl);rotate_left;(simp only [ps_];rfl)
     refine pure_ (i := 4) (N := some 20) (v := ?_) (a' := ?_) (bm 16 31) rfl rfl (any_of HT_.out (by kernel_rfl)) (fun _ _ _ h => h) (Or.inl ⟨by rfl, ?_⟩) ?_ ?_;rotate_left;(intro w';go_simp;with_reducible rfl);rotate_left;(simp only [ps_];rfl)
     refine pure_ (i := 5) (N := some 21) (v := ?_) (a' := ?_) (bm 16 63) rfl rfl (any_of HT_.out (by kernel_rfl)) (fun _ _ _ h => h) (Or.inl ⟨by rfl, ?_⟩) ?_ ?_;rotate_left;(intro w';go_simp;with_reducible rfl);rotate_left;(simp only [ps_];rfl)
     refine pure_ (i := 6) (N := some 22) (v := undef) (a' := ?_) (bm 16 127) rfl rfl (any_of HT_.out (by kernel_rfl)) (fun _ _ _ h => h) (Or.inr ⟨by rfl, rfl⟩) ?_ ?_
     rotate_left
     ·simp only [Act.put, List.setIfInBounds_toArray, List.set_cons_zero, List.set_cons_succ, i64_w, i32_w]
      rfl
     refine pure_ (i := 7) (N := some 23) (v := undef) (a' := ?_) (bm 16 255) rfl rfl (any_of HT_.out (by kernel_rfl)) (fun _ _ _ h => h) (Or.inr ⟨by rfl, rfl⟩) ?_ ?_
     rotate_left
     ·simp only [Act.put, List.setIfInBounds_toArray, List.set_cons_zero, List.set_cons_succ, i64_w, i32_w]
      rfl
     refine pure_ (i := 8) (N := some 24) (v := undef) (a' := ?_) (bm 16 511) rfl rfl (any_of HT_.out (by kernel_rfl)) (fun _ _ _ h => h) (Or.inr ⟨by rfl, rfl⟩) ?_ ?_
     rotate_left
     ·simp only [Act.put, List.setIfInBounds_toArray, List.set_cons_zero, List.set_cons_succ, i64_w, i32_w]
      rfl
     refine pure_ (i := 9) (N := some 25) (v := undef) (a' := ?_) (bm 16 1023) rfl rfl (any_of HT_.out (by kernel_rfl)) (fun _ _ _ h => h) (Or.inr ⟨by rfl, rfl⟩) ?_ ?_
     rotate_left
     ·simp only [Act.put, List.setIfInBounds_toArray, List.set_cons_zero, List.set_cons_succ, i64_w, i32_w]
      rfl
     refine pure_ (i := 10) (N := some 26) (v := undef) (a' := ?_) (bm 16 2047) rfl rfl (any_of HT_.out (by kernel_rfl)) (fun _ _ _ h => h) (Or.inr ⟨by rfl, rfl⟩) ?_ ?_
     rotate_left
     ·simp only [Act.put, List.setIfInBounds_toArray, List.set_cons_zero, List.set_cons_succ, i64_w, i32_w]
      rfl
     refine pure_ (i := 11) (N := some 27) (v := undef) (a' := ?_) (bm 16 4095) rfl rfl (any_of HT_.out (by kernel_rfl)) (fun _ _ _ h => h) (Or.inr ⟨by rfl, rfl⟩) ?_ ?_
     rotate_left
     ·simp only [Act.put, List.setIfInBounds_toArray, List.set_cons_zero, List.set_cons_succ, i64_w, i32_w]
      rfl
     refine pure_ (i := 12) (N := some 28) (v := undef) (a' := ?_) (bm 16 8191) rfl rfl (any_of HT_.out (by kernel_rfl)) (fun _ _ _ h => h) (Or.inr ⟨by rfl, rfl⟩) ?_ ?_
     rotate_left
     ·simp only [Act.put, List.setIfInBounds_toArray, List.set_cons_zero, List.set_cons_succ, i64_w, i32_w]
      rfl
     refine pure_ (i := 13) (N := some 29) (v := undef) (a' := ?_) (bm 16 16383) rfl rfl (any_of HT_.out (by kernel_rfl)) (fun _ _ _ h => h) (Or.inr ⟨by rfl, rfl⟩) ?_ ?_
     rotate_left
     ·simp only [Act.put, List.setIfInBounds_toArray, List.set_cons_zero, List.set_cons_succ, i64_w, i32_w]
      rfl
     refine pure_ (i := 14) (N := some 30) (v := undef) (a' := ?_) (bm 16 32767) rfl rfl (any_of HT_.out (by kernel_rfl)) (fun _ _ _ h => h) (Or.inr ⟨by rfl, rfl⟩) ?_ ?_
     rotate_left
     ·simp only [Act.put, List.setIfInBounds_toArray, List.set_cons_zero, List.set_cons_succ, i64_w, i32_w]
      rfl
     refine pure_ (i := 15) (N := some 31) (v := ?_) (a' := ?_) (bm 16 65535) rfl rfl (any_of HT_.out (by kernel_rfl)) (fun _ _ _ h => h) (Or.inl ⟨by rfl, ?_⟩) ?_ ?_;rotate_left;(intro w';go_simp;with_reducible rfl);rotate_left;(simp only [ps_];rfl)
     refine done_ (done_of HT_.out (by kernel_rfl)) ?_
     (go_wp2)
     go_roundg k1
     case measure => have := HK1.out; omega
     case rel => exact ⟨(wrap64 (x5_1 + 1)), (by rfl), H', ⟨by have := HK1.out; omega⟩, ⟨BK176.out⟩, ⟨HB.out⟩⟩
   ·rw [if_neg c4] at H
    have c4b0 : decide (x5_1 < a1) = false := decide_eq_false c4
    clear c4
    obtain rfl := Option.some.inj H
    go_wp2
    go_ret
    exact ⟨_, by rfl, by (exact Kd.R_nil _ _ _ _ _), by exact HB.out, by (exact rfl)⟩
end Go.Proofs.Ytkdakjlopheefaa.PA
end
