/- Proved: for every input the law KeyequationRegisters returns true and leaves its arguments as they were; no conditions. Part 3 of 5 of the proof. -/
import Derived.Test.YtkdakjlopheefaaZKeyequationRegisters1
set_option linter.unusedSectionVars false
set_option linter.unusedSimpArgs false
set_option linter.unusedVariables false
section
namespace Go.Proofs.Ytkdakjlopheefaa.PA
open Go.RowKit Go.Proofs.YtkdakjlopheefaaW.PrintWords Go.Proofs.YtkdakjlopheefaaW.PrintLast Go.Proofs.YtkdakjlopheefaaW.PrintMore
attribute [local go_sem] max2_int min2_int max_two min_two max_three min_three max_four min_four
set_option linter.unusedVariables false
set_option linter.unusedSimpArgs false
def IsS93 (w0 W : World) (g : Nat) (f0 : Int) (f1 : Int) (f2 : List Int) (f3 : Int) (f4 : List Int) (f5 : List Int) : Prop := ∃ A2 c2, ∃ A4 c4, ∃ A5 c5, W.heap[g]? = some (.cells #[.int .i64 f0, .int .i64 f1, .slice A2 f2.length c2, .int .i64 f3, .slice A4 f4.length c4, .slice A5 f5.length c5] 93 (0, 0)) ∧ w0.heap.size ≤ g ∧ Kd.C (Kd.int .i64) w0 A2 f2.length f2 ∧ Kd.C (Kd.int .i64) w0 A4 f4.length f4 ∧ Kd.C (Kd.int .i64) w0 A5 f5.length f5
theorem IsS93.grown {w0 W : World} {g : Nat} {f0 : Int} {f1 : Int} {f2 : List Int} {f3 : Int} {f4 : List Int} {f5 : List Int} {W1 : World} {row : Option Nat} (h : IsS93 w0 W g f0 f1 f2 f3 f4 f5) (hw : W.grownBy W1 row) (hne : some g ≠ row) : IsS93 w0 W1 g f0 f1 f2 f3 f4 f5 := by
 obtain ⟨A2, c2, A4, c4, A5, c5, hb, hg, hr2, hr4, hr5⟩ := h
 exact ⟨A2, c2, A4, c4, A5, c5, blk_grown hb hw hne, hg, hr2, hr4, hr5⟩
theorem IsS93.kept {w0 W : World} {g : Nat} {f0 : Int} {f1 : Int} {f2 : List Int} {f3 : Int} {f4 : List Int} {f5 : List Int} {W1 : World} {S : Nat → Prop} (h : IsS93 w0 W g f0 f1 f2 f3 f4 f5) (hk : Kept W W1 S) (hne : ¬ S g) : IsS93 w0 W1 g f0 f1 f2 f3 f4 f5 := by
 obtain ⟨A2, c2, A4, c4, A5, c5, hb, hg, hr2, hr4, hr5⟩ := h
 exact ⟨A2, c2, A4, c4, A5, c5, blk_kept hb hk hne, hg, hr2, hr4, hr5⟩
theorem IsS93.below {w0 W : World} {g : Nat} {f0 : Int} {f1 : Int} {f2 : List Int} {f3 : Int} {f4 : List Int} {f5 : List Int} {W1 : World} (h : IsS93 w0 W g f0 f1 f2 f3 f4 f5) (hw : Below W.heap.size W W1) : IsS93 w0 W1 g f0 f1 f2 f3 f4 f5 := h.grown (grown_of_below hw none) (by simp)
theorem IsS93.alloc {w0 W : World} {g : Nat} {f0 : Int} {f1 : Int} {f2 : List Int} {f3 : Int} {f4 : List Int} {f5 : List Int} (h : IsS93 w0 W g f0 f1 f2 f3 f4 f5) (o : Obj) : IsS93 w0 (W.alloc o) g f0 f1 f2 f3 f4 f5 := h.below (below_alloc (Below.refl _ _) o)
theorem IsS93.drewN {w0 W : World} {g : Nat} {f0 : Int} {f1 : Int} {f2 : List Int} {f3 : Int} {f4 : List Int} {f5 : List Int} (h : IsS93 w0 W g f0 f1 f2 f3 f4 f5) (m : Nat) : IsS93 w0 (W.drewN m) g f0 f1 f2 f3 f4 f5 := h
theorem IsS93.drew {w0 W : World} {g : Nat} {f0 : Int} {f1 : Int} {f2 : List Int} {f3 : Int} {f4 : List Int} {f5 : List Int} (h : IsS93 w0 W g f0 f1 f2 f3 f4 f5) : IsS93 w0 W.drew g f0 f1 f2 f3 f4 f5 := h
theorem IsS93.apart {w0 W : World} {g : Nat} {f0 : Int} {f1 : Int} {f2 : List Int} {f3 : Int} {f4 : List Int} {f5 : List Int} {α : Type} {d : Kd α} {e : Nat} {base : Nat} {ok : Nat → Prop} {v : Value} {xs : List α} (h : IsS93 w0 W g f0 f1 f2 f3 f4 f5) (ho : d.R e W base ok v xs) (ht : ∀ q, q ∈ e :: d.E → q ≠ 93) : d.R e W base (fun k => ok k ∧ k ≠ g) v xs := by
 obtain ⟨A2, c2, A4, c4, A5, c5, hb, hg, hr2, hr4, hr5⟩ := h
 exact Kd.R_types ho hb ht
theorem IsS93.own_ne {w0 W : World} {g : Nat} {f0 : Int} {f1 : Int} {f2 : List Int} {f3 : Int} {f4 : List Int} {f5 : List Int} {α : Type} {d : Kd α} {e : Nat} {base : Nat} {ok : Nat → Prop} {v : Value} {xs : List α} (h : IsS93 w0 W g f0 f1 f2 f3 f4 f5) (ho : d.R e W base ok v xs) (ht : e ≠ 93) : some g ≠ v.ownBlock := by
 obtain ⟨A2, c2, A4, c4, A5, c5, hb, hg, hr2, hr4, hr5⟩ := h
 exact Kd.R_ne ho hb ht
theorem IsS93.lt {w0 W : World} {g : Nat} {f0 : Int} {f1 : Int} {f2 : List Int} {f3 : Int} {f4 : List Int} {f5 : List Int} (h : IsS93 w0 W g f0 f1 f2 f3 f4 f5) : g < W.heap.size := by
 obtain ⟨A2, c2, A4, c4, A5, c5, hb, hg, hr2, hr4, hr5⟩ := h
 exact blk_lt hb
theorem IsS93.ge {w0 W : World} {g : Nat} {f0 : Int} {f1 : Int} {f2 : List Int} {f3 : Int} {f4 : List Int} {f5 : List Int} (h : IsS93 w0 W g f0 f1 f2 f3 f4 f5) : w0.heap.size ≤ g := by
 obtain ⟨A2, c2, A4, c4, A5, c5, hb, hg, hr2, hr4, hr5⟩ := h
 exact hg
theorem IsS93.far {w0 W : World} {g : Nat} {f0 : Int} {f1 : Int} {f2 : List Int} {f3 : Int} {f4 : List Int} {f5 : List Int} {p : Addr} (h : IsS93 w0 W g f0 f1 f2 f3 f4 f5) (hne : g ≠ p.block) (u : Value) : IsS93 w0 (W.setCell p u) g f0 f1 f2 f3 f4 f5 := by
 obtain ⟨A2, c2, A4, c4, A5, c5, hb, hg, hr2, hr4, hr5⟩ := h
 exact ⟨A2, c2, A4, c4, A5, c5, blk_far hb hne u, hg, hr2, hr4, hr5⟩
theorem cellS93_0 {W : World} {g : Nat} {A2 : Option Addr} {c2 : Nat} {A4 : Option Addr} {c4 : Nat} {A5 : Option Addr} {c5 : Nat} {f0 : Int} {f1 : Int} {f2 : List Int} {f3 : Int} {f4 : List Int} {f5 : List Int} (h : W.heap[g]? = some (.cells #[.int .i64 f0, .int .i64 f1, .slice A2 f2.length c2, .int .i64 f3, .slice A4 f4.length c4, .slice A5 f5.length c5] 93 (0, 0))) : W.cell? ⟨g, 0, none⟩ = some (.int .i64 f0) := (blk_cell h 0).trans rfl
theorem cellS93_1 {W : World} {g : Nat} {A2 : Option Addr} {c2 : Nat} {A4 : Option Addr} {c4 : Nat} {A5 : Option Addr} {c5 : Nat} {f0 : Int} {f1 : Int} {f2 : List Int} {f3 : Int} {f4 : List Int} {f5 : List Int} (h : W.heap[g]? = some (.cells #[.int .i64 f0, .int .i64 f1, .slice A2 f2.length c2, .int .i64 f3, .slice A4 f4.length c4, .slice A5 f5.length c5] 93 (0, 0))) : W.cell? ⟨g, 1, none⟩ = some (.int .i64 f1) := (blk_cell h 1).trans rfl
theorem cellS93_2 {W : World} {g : Nat} {A2 : Option Addr} {c2 : Nat} {A4 : Option Addr} {c4 : Nat} {A5 : Option Addr} {c5 : Nat} {f0 : Int} {f1 : Int} {f2 : List Int} {f3 : Int} {f4 : List Int} {f5 : List Int} (h : W.heap[g]? = some (.cells #[.int .i64 f0, .int .i64 f1, .slice A2 f2.length c2, .int .i64 f3, .slice A4 f4.length c4, .slice A5 f5.length c5] 93 (0, 0))) : W.cell? ⟨g, 2, none⟩ = some (.slice A2 f2.length c2) := (blk_cell h 2).trans rfl
theorem cellS93_3 {W : World} {g : Nat} {A2 : Option Addr} {c2 : Nat} {A4 : Option Addr} {c4 : Nat} {A5 : Option Addr} {c5 : Nat} {f0 : Int} {f1 : Int} {f2 : List Int} {f3 : Int} {f4 : List Int} {f5 : List Int} (h : W.heap[g]? = some (.cells #[.int .i64 f0, .int .i64 f1, .slice A2 f2.length c2, .int .i64 f3, .slice A4 f4.length c4, .slice A5 f5.length c5] 93 (0, 0))) : W.cell? ⟨g, 3, none⟩ = some (.int .i64 f3) := (blk_cell h 3).trans rfl
theorem cellS93_4 {W : World} {g : Nat} {A2 : Option Addr} {c2 : Nat} {A4 : Option Addr} {c4 : Nat} {A5 : Option Addr} {c5 : Nat} {f0 : Int} {f1 : Int} {f2 : List Int} {f3 : Int} {f4 : List Int} {f5 : List Int} (h : W.heap[g]? = some (.cells #[.int .i64 f0, .int .i64 f1, .slice A2 f2.length c2, .int .i64 f3, .slice A4 f4.length c4, .slice A5 f5.length c5] 93 (0, 0))) : W.cell? ⟨g, 4, none⟩ = some (.slice A4 f4.length c4) := (blk_cell h 4).trans rfl
theorem cellS93_5 {W : World} {g : Nat} {A2 : Option Addr} {c2 : Nat} {A4 : Option Addr} {c4 : Nat} {A5 : Option Addr} {c5 : Nat} {f0 : Int} {f1 : Int} {f2 : List Int} {f3 : Int} {f4 : List Int} {f5 : List Int} (h : W.heap[g]? = some (.cells #[.int .i64 f0, .int .i64 f1, .slice A2 f2.length c2, .int .i64 f3, .slice A4 f4.length c4, .slice A5 f5.length c5] 93 (0, 0))) : W.cell? ⟨g, 5, none⟩ = some (.slice A5 f5.length c5) := (blk_cell h 5).trans rfl
def field_GF_Is.f (s0_0 : Int) (s0_1 : Int) (s0_2 : List Int) (s0_3 : Int) (s0_4 : List Int) (s0_5 : List Int) (a1 : Int) : Option (Bool × Int × Int × Int) := if a1 ≥ 0 then (some (decide (a1 < s0_3), s0_0, s0_1, s0_3)) else (some (false, s0_0, s0_1, s0_3))
set_option maxHeartbeats 8000000 in
set_option maxRecDepth 100000 in
theorem field_GF_Is.calls (g : Nat) (s0_0 : Int) (s0_1 : Int) (s0_2 : List Int) (s0_3 : Int) (s0_4 : List Int) (s0_5 : List Int) (a1 : Int) (r1 : Bool) (r2 : Int) (r3 : Int) (r4 : Int) (w0 w : World) (hI : IsS93 w0 w g s0_0 s0_1 s0_2 s0_3 s0_4 s0_5) (hB : Below w0.heap.size w0 w) (h : field_GF_Is.f s0_0 s0_1 s0_2 s0_3 s0_4 s0_5 a1 = some (r1, r2, r3, r4)) :
  Calls Try.prog 79 #[.pointer (some ⟨g, 0, none⟩), .int .i64 a1] w fun e w' => e = .returned (.bool r1) ∧ IsS93 w0 w' g r2 r3 s0_2 r4 s0_4 s0_5 ∧ Below w0.heap.size w0 w' ∧ KeepBut w w' g none := by
 have HI0 := Aside0.mk hI
 have HK := Aside0.mk (KeepBut.refl w g none)
 have HL := Aside0.mk hB.size
 clear hI
 have HW0 := Aside0.mk hB.size
 have HB := Aside0.mk hB
 clear hB
 have H : (if a1 ≥ 0 then (some (decide (a1 < s0_3), s0_0, s0_1, s0_3)) else (some (false, s0_0, s0_1, s0_3))) = some (r1, r2, r3, r4) := h
 clear h
 by_cases c3 : a1 ≥ 0
 ·rw [if_pos c3] at H
  have c3b0 : decide (0 ≤ a1) = true := decide_eq_true c3
  clear c3
  simp only [Option.some.injEq, Prod.mk.injEq] at H
  obtain ⟨rfl, rfl, rfl, rfl⟩ := H
  obtain ⟨ASz4_2, cSz4_2, ASz4_4, cSz4_4, ASz4_5, cSz4_5, HGz4, hgz4, HSz4_2, HSz4_4, HSz4_5⟩ := HI0.out
  have hcz4_0 := cellS93_0 HGz4
  have hcz4_1 := cellS93_1 HGz4
  have hcz4_2 := cellS93_2 HGz4
  have hcz4_3 := cellS93_3 HGz4
  have hcz4_4 := cellS93_4 HGz4
  have hcz4_5 := cellS93_5 HGz4
  have hfz4_0 := blk_frozen HGz4 0
  have hfz4_1 := blk_frozen HGz4 1
  have hfz4_3 := blk_frozen HGz4 3
  clear HGz4 hgz4
  go_enter Try.func79, Try.ntmps79
  go_wp2
  go_ret
  exact ⟨by rfl, by exact HI0.out, by exact HB.out, by exact HK.out⟩
 ·rw [if_neg c3] at H
  have c3b0 : decide (0 ≤ a1) = false := decide_eq_false c3
  clear c3
  simp only [Option.some.injEq, Prod.mk.injEq] at H
  obtain ⟨rfl, rfl, rfl, rfl⟩ := H
  go_enter Try.func79, Try.ntmps79
  go_wp2
  go_ret
  exact ⟨by rfl, by exact HI0.out, by exact HB.out, by exact HK.out⟩
def poly_trim.l0 : Nat → List Int → Option (List Int)
 | 0, _ => none
 | k + 1, x0 => if (x0.length : Int) > 0 then (if 0 ≤ (wrap64 ((x0.length : Int) - 1)) then (if (wrap64 ((x0.length : Int) - 1)) < (x0.length : Int) then (if (rd x0 (wrap64 ((x0.length : Int) - 1))) = 0 then (if (wrap64 ((x0.length : Int) - 1)) ≤ (x0.length : Int) then (poly_trim.l0 k (x0.take ((wrap64 ((x0.length : Int) - 1)) : Int).toNat)) else (none)) else (some x0)) else (none)) else (none)) else (some x0)
def poly_trim.f (k : Nat) (l0 : List Int) : Option (List Int) := poly_trim.l0 k l0
set_option maxHeartbeats 8000000 in
set_option maxRecDepth 100000 in
theorem poly_trim.calls (k : Nat) (P0_ : Nat → Prop) (u9000_ : Value) (l0 : List Int) (r : List Int) (w0 w : World) (hB : Below w0.heap.size w0 w) (ho0 : Kd.R (Kd.int .i64) 3 w w0.heap.size P0_ u9000_ l0) (h : poly_trim.f k l0 = some r) :
  Calls Try.prog 80 #[u9000_] w fun e w' => ∃ v0_ : Value, e = .returned (v0_) ∧ Kd.R (Kd.int .i64) 3 w' w0.heap.size (fun k_ => (P0_ k_ ∨ w.heap.size ≤ k_)) v0_ r ∧ Below w0.heap.size w0 w' ∧ Kept w w' (fun k_ => P0_ k_) := by
 have HO0 := Aside0.mk (show Kd.R (Kd.int .i64) 3 w w0.heap.size (fun k_ => (P0_ k_ ∨ w.heap.size ≤ k_)) u9000_ l0 from Kd.R_mono ho0 (fun k_ hk => (.inl hk)))
 have HK := Aside0.mk (Kept.refl w (fun k_ => P0_ k_))
 have HW0 := Aside0.mk hB.size
 have HB := Aside0.mk hB
 clear hB
 have H : (poly_trim.l0 k l0) = some r := h
 clear h
 have H' := Aside0.mk H
 clear H
 go_enter Try.func80, Try.ntmps80
 go_wp2
 go_loopg [0] k (fun kq v0 w' => ∃ (x0_1 : List Int), Aside0 (poly_trim.l0 kq x0_1 = some r) ∧ Aside0 (kq ≤ k) ∧ Aside0 (Kd.R (Kd.int .i64) 3 w' w0.heap.size (fun k_ => (P0_ k_ ∨ w.heap.size ≤ k_)) v0 x0_1) ∧ Aside0 (Kept w w' (fun k_ => P0_ k_)) ∧ Aside0 (Below w0.heap.size w0 w'))
 case atStart => exact ⟨(l0), H', ⟨Nat.le_refl _⟩, ⟨HO0.out⟩, ⟨HK.out⟩, ⟨HB.out⟩⟩
 case round =>
  clear H'
  obtain ⟨x0_1, HA, HK1, HO_0, HK, HB⟩ := hrel
  cases gk with
  | zero => exact absurd HA.out (by simp [poly_trim.l0])
  | succ k1 =>
   have H := HA.out
   clear HA
   simp only [poly_trim.l0] at H
   by_cases c2 : (x0_1.length : Int) > 0
   ·rw [if_pos c2] at H
    have c2b0 : decide (0 < (x0_1.length : Int)) = true := decide_eq_true c2
    have c2b1 : decide (0 < x0_1.length) = true := decide_eq_true (by omega)
    clear c2
    obtain ⟨ji3, hji3⟩ : ∃ j_ : Int, (wrap64 ((x0_1.length : Int) - 1)) = j_ := ⟨_, rfl⟩
    replace H : (if 0 ≤ (ji3) then (if (ji3) < (x0_1.length : Int) then (if (rd x0_1 (ji3)) = 0 then (if (ji3) ≤ (x0_1.length : Int) then (poly_trim.l0 k1 (x0_1.take ((ji3) : Int).toNat)) else (none)) else (some x0_1)) else (none)) else (none)) = some r := by (rw [hji3] at H; exact H)
    have hji3w : (IntKind.i64.wrap ((x0_1.length : Int) - 1)) = ji3 := (i64_w _).trans hji3
    by_cases c4 : 0 ≤ (ji3)
    ·rw [if_pos c4] at H
     have c4b0 : decide (0 ≤ (ji3)) = true := decide_eq_true c4
     clear c4
     by_cases c5 : (ji3) < (x0_1.length : Int)
     ·rw [if_pos c5] at H
      have c5b0 : decide ((ji3) < (x0_1.length : Int)) = true := decide_eq_true c5
      clear c5
      by_cases c6 : (rd x0_1 (ji3)) = 0
      ·rw [if_pos c6] at H
       have c6b0 : ((rd x0_1 (ji3)) == 0) = true := beq_iff_eq.mpr c6
       have c6b1 : ((rd x0_1 (ji3)) != 0) = false := bne_eq_false_iff_eq.mpr c6
       clear c6
       by_cases c7 : (ji3) ≤ (x0_1.length : Int)
       ·rw [if_pos c7] at H
        have c7b0 := eq_true c7
        have c7b1 : decide ((ji3) ≤ (x0_1.length : Int)) = true := decide_eq_true c7
        clear c7
        obtain ⟨y185, hy185⟩ : ∃ y_ : List Int, y_ = (x0_1.take ((ji3) : Int).toNat) := ⟨_, rfl⟩
        replace H : (poly_trim.l0 k1 y185) = some r := by (rw [hy185]; with_reducible exact H)
        have Ny185 := Aside0.mk hy185
        clear hy185
        have H' := Aside0.mk H
        clear H
        obtain ⟨Ao8, co8, eo8⟩ := Kd.R_slice HO_0.out
        subst eo8
        have p184 : 0 ≤ ((ji3) : Int) := of_decide_eq_true (by (with_reducible assumption))
        have q184 : (ji3) < (x0_1.length : Int) := of_decide_eq_true (by (with_reducible assumption))
        obtain ⟨ad184, e184, hx184_0⟩ := Kd.at_int (Kd.R_reads' HO_0.out).2.2 (ji3) p184 q184
        cases e184
        replace p184 := eq_true p184
        replace q184 := eq_true q184
        have q9 : ((ji3) : Int) ≤ ((x0_1.length : Int) : Int) := of_decide_eq_true (by (with_reducible assumption))
        obtain ⟨i09, hi09, _, hsz9, _⟩ := info_parts info3
        have hcut9 := cut_to (P := Try.prog) 22 3 .i64 Try.underlying22 hi09 (some ad184) x0_1.length co8 (ji3) (of_decide_eq_true (by (with_reducible assumption))) q9 (Kd.R_reads' HO_0.out).2.1
        have hr9 := Kd.R_take (m := ((ji3) : Int).toNat) HO_0.out (by omega)
        have hy9 : y185.length = ((ji3) : Int).toNat := (by rw [Ny185.out, List.length_take]; omega)
        rw [← Ny185.out] at hr9
        rw [← hy9] at hr9 hcut9
        clear hy9 hi09 hsz9 HO_0
        have HO187 := Aside0.mk hr9
        clear hr9
        replace q9 := eq_true q9
        go_wp2
        go_roundg k1
        case measure => have := HK1.out; omega
        case rel => exact ⟨(y185), H', ⟨by have := HK1.out; omega⟩, ⟨HO187.out⟩, ⟨HK.out⟩, ⟨HB.out⟩⟩
       ·rw [if_neg c7] at H
        exact absurd H (by simp)
      ·rw [if_neg c6] at H
       have c6b0 : ((rd x0_1 (ji3)) == 0) = false := beq_eq_false_iff_ne.mpr c6
       have c6b1 : ((rd x0_1 (ji3)) != 0) = true := bne_iff_ne.mpr c6
       obtain rfl := Option.some.inj H
       obtain ⟨Ao10, co10, eo10⟩ := Kd.R_slice HO_0.out
       subst eo10
       have p184 : 0 ≤ ((ji3) : Int) := of_decide_eq_true (by (with_reducible assumption))
       have q184 : (ji3) < (x0_1.length : Int) := of_decide_eq_true (by (with_reducible assumption))
       obtain ⟨ad184, e184, hx184_0⟩ := Kd.at_int (Kd.R_reads' HO_0.out).2.2 (ji3) p184 q184
       cases e184
       replace p184 := eq_true p184
       replace q184 := eq_true q184
       go_wp2
       go_ret
       exact ⟨_, by rfl, by exact HO_0.out, by exact HB.out, by exact HK.out⟩
     ·rw [if_neg c5] at H
      exact absurd H (by simp)
    ·rw [if_neg c4] at H
     exact absurd H (by simp)
   ·rw [if_neg c2] at H
    have c2b0 : decide (0 < (x0_1.length : Int)) = false := decide_eq_false c2
    have c2b1 : decide (0 < x0_1.length) = false := decide_eq_false (by omega)
    clear c2
    obtain rfl := Option.some.inj H
    obtain ⟨Ao11, co11, eo11⟩ := Kd.R_slice HO_0.out
    subst eo11
    go_wp2
    go_ret
    exact ⟨_, by rfl, by exact HO_0.out, by exact HB.out, by exact HK.out⟩
def poly_Canon.l0 : Nat → List Int → List Int → Int → Int → Int → Int → List Int → Int → List Int → List Int → Option (List Int × Int × Int × Int)
 | 0, _, _, _, _, _, _, _, _, _, _ => none
 | k + 1, x5, x11, x12, x13, x1000, x1001, x1002, x1003, x1004, x1005 => if x13 < x12 then (if 0 ≤ x13 then (if x13 < (x11.length : Int) then ((field_GF_Is.f x1000 x1001 x1002 x1003 x1004 x1005 (rd x11 x13)).bind fun bt192 => (if bt192.1 = true then (if x13 < (x5.length : Int) then (poly_Canon.l0 k (x5.set (x13 : Int).toNat (rd x11 x13)) x11 x12 (wrap64 (x13 + 1)) bt192.2.1 bt192.2.2.1 x1002 bt192.2.2.2 x1004 x1005) else (none)) else (poly_Canon.l0 k x5 x11 x12 (wrap64 (x13 + 1)) bt192.2.1 bt192.2.2.1 x1002 bt192.2.2.2 x1004 x1005))) else (none)) else (none)) else ((poly_trim.f k x5).bind fun t197 => (some (t197, x1000, x1001, x1003)))
def poly_Canon.f (k : Nat) (s0_0 : Int) (s0_1 : Int) (s0_2 : List Int) (s0_3 : Int) (s0_4 : List Int) (s0_5 : List Int) (l1 : List Int) : Option (List Int × Int × Int × Int) := if 0 ≤ (l1.length : Int) then (if ((l1.length : Int) : Int).toNat ≤ 35184372088832 then (poly_Canon.l0 k (List.replicate ((l1.length : Int) : Int).toNat 0) l1 (l1.length : Int) 0 s0_0 s0_1 s0_2 s0_3 s0_4 s0_5) else (none)) else (none)
set_option maxHeartbeats 8000000 in
set_option maxRecDepth 100000 in
theorem poly_Canon.calls (k : Nat) (g : Nat) (s0_0 : Int) (s0_1 : Int) (s0_2 : List Int) (s0_3 : Int) (s0_4 : List Int) (s0_5 : List Int) (A1 : Option Addr) (c1 : Nat) (l1 : List Int) (r1 : List Int) (r2 : Int) (r3 : Int) (r4 : Int) (w0 w : World) (hI : IsS93 w0 w g s0_0 s0_1 s0_2 s0_3 s0_4 s0_5) (hB : Below w0.heap.size w0 w) (hr1 : Kd.C (Kd.int .i64) w A1 l1.length l1) (hc1 : l1.length ≤ c1) (hf1 : ∀ ad, A1 = some ad → 0 < l1.length → ad.block ≠ g) (h : poly_Canon.f k s0_0 s0_1 s0_2 s0_3 s0_4 s0_5 l1 = some (r1, r2, r3, r4)) :
  Calls Try.prog 45 #[.pointer (some ⟨g, 0, none⟩), .slice A1 l1.length c1] w fun e w' => ∃ v0_ : Value, e = .returned (v0_) ∧ Kd.R (Kd.int .i64) 3 w' w.heap.size (fun _ => True) v0_ r1 ∧ IsS93 w0 w' g r2 r3 s0_2 r4 s0_4 s0_5 ∧ Below w0.heap.size w0 w' ∧ KeepBut w w' g none := by
 have HR1 := Aside0.mk hr1
 have HC1 := Aside0.mk hc1
 clear hr1 hc1
 have HI0 := Aside0.mk hI
 have HK := Aside0.mk (KeepBut.refl w g none)
 have HL := Aside0.mk hB.size
 clear hI
 have HW0 := Aside0.mk hB.size
 have HB := Aside0.mk hB
 clear hB
 have H : (if 0 ≤ (l1.length : Int) then (if ((l1.length : Int) : Int).toNat ≤ 35184372088832 then (poly_Canon.l0 k (List.replicate ((l1.length : Int) : Int).toNat 0) l1 (l1.length : Int) 0 s0_0 s0_1 s0_2 s0_3 s0_4 s0_5) else (none)) else (none)) = some (r1, r2, r3, r4) := h
 clear h
 by_cases c3 : 0 ≤ (l1.length : Int)
 ·rw [if_pos c3] at H
  have c3b0 := eq_true c3
  have c3b1 : decide (0 ≤ (l1.length : Int)) = true := decide_eq_true c3
  clear c3
  by_cases c4 : ((l1.length : Int) : Int).toNat ≤ 35184372088832
  ·rw [if_pos c4] at H
   have c4b0 := eq_true c4
   have c4b1 : decide (((l1.length : Int) : Int).toNat ≤ 35184372088832) = true := decide_eq_true c4
   clear c4
   obtain ⟨y188, hy188⟩ : ∃ y_ : List Int, y_ = (List.replicate ((l1.length : Int) : Int).toNat 0) := ⟨_, rfl⟩
   replace H : (poly_Canon.l0 k y188 l1 (l1.length : Int) 0 s0_0 s0_1 s0_2 s0_3 s0_4 s0_5) = some (r1, r2, r3, r4) := by (rw [hy188]; with_reducible exact H)
   have Ny188 := Aside0.mk hy188
   clear hy188
   have H' := Aside0.mk H
   clear H
   go_enter Try.func45, Try.ntmps45
   go_wp2_with (((with_reducible refine gate_dst (N := 10) rfl ?_); refine Kd.R_make (Kd.int .i64) _ 3 rfl (N := 10) rfl 22 _ _ rfl (l1.length : Int) rfl rfl Try.underlying22 (.int .i64 0) 8 info3 rfl (by decide) (by omega) 0 (ok := fun _ => True) (okp := fun _ => True) rfl (fun _ hk => hk) trivial (of_decide_eq_true (by (with_reducible assumption))) (Nat.le_trans (Nat.mul_le_mul_right _ (of_decide_eq_true (by (with_reducible assumption)) : (l1.length : Int).toNat ≤ 35184372088832)) (by omega)) (Below.refl _ _) (Nat.le_refl _) ?_; intro v189 w5 ho6 hb hg_ hnew_; clear hg_ hnew_; ((rw [← Ny188.out] at ho6)); have n0_ := Aside0.mk (Kd.R_lower ho6 (keep_size (w := w) (g := g) (row := none) HK.out)); have n1_ := Aside0.mk (IsS93.below HI0.out hb); have n2_ := Aside0.mk (KeepBut.trans HK.out (KeepBut.of_below hb g none) (.inl rfl)); have n3_ := Aside0.mk (below_step HB.out hb); clear HI0; clear HK; clear HB; have HO190 := n0_; have HI0 := n1_; have HK := n2_; have HB := n3_; clear n0_ n1_ n2_ n3_; clear hb ho6))
   go_loopg [13] k (fun kq v13 w' => ∃ (x5_1 : List Int) (x13_1 : Int) (x1000_1 : Int) (x1001_1 : Int) (x1003_1 : Int), v13 = .int .i64 x13_1 ∧ Aside0 (poly_Canon.l0 kq x5_1 l1 (l1.length : Int) x13_1 x1000_1 x1001_1 s0_2 x1003_1 s0_4 s0_5 = some (r1, r2, r3, r4)) ∧ Aside0 (kq ≤ k) ∧ Aside0 (Kd.R (Kd.int .i64) 3 w' w.heap.size (fun _ => True) v189 x5_1) ∧ Aside0 (IsS93 w0 w' g x1000_1 x1001_1 s0_2 x1003_1 s0_4 s0_5) ∧ Aside0 (KeepBut w w' g none) ∧ Aside0 (Below w0.heap.size w0 w'))
   case atStart => exact ⟨(y188), (0), (s0_0), (s0_1), (s0_3), (by rfl), H', ⟨Nat.le_refl _⟩, ⟨HO190.out⟩, ⟨HI0.out⟩, ⟨HK.out⟩, ⟨HB.out⟩⟩
   case round =>
    clear H' c3b0 c3b1 c4b0 c4b1
    obtain ⟨x5_1, x13_1, x1000_1, x1001_1, x1003_1, rfl, HA, HK1, HO_5, HI0, HK, HB⟩ := hrel
    cases gk with
    | zero => exact absurd HA.out (by simp [poly_Canon.l0])
    | succ k1 =>
     have H := HA.out
     clear HA
     simp only [poly_Canon.l0] at H
     by_cases c7 : x13_1 < (l1.length : Int)
     ·rw [if_pos c7] at H
      have c7b0 : decide (x13_1 < (l1.length : Int)) = true := decide_eq_true c7
      clear c7
      by_cases c8 : 0 ≤ x13_1
      ·rw [if_pos c8] at H
       have c8b0 : decide (0 ≤ x13_1) = true := decide_eq_true c8
       clear c8
       by_cases c9 : x13_1 < (l1.length : Int)
       ·rw [if_pos c9] at H
        have c9b0 : decide (x13_1 < (l1.length : Int)) = true := decide_eq_true c9
        clear c9
        replace H := Option.bind_eq_some_iff.mp H
        obtain ⟨⟨t192, t193, t194, t195⟩, A100, H⟩ := H
        replace H : (if t192 = true then (if x13_1 < (x5_1.length : Int) then (poly_Canon.l0 k1 (x5_1.set (x13_1 : Int).toNat (rd l1 x13_1)) l1 (l1.length : Int) (wrap64 (x13_1 + 1)) t193 t194 s0_2 t195 s0_4 s0_5) else (none)) else (poly_Canon.l0 k1 x5_1 l1 (l1.length : Int) (wrap64 (x13_1 + 1)) t193 t194 s0_2 t195 s0_4 s0_5)) = some (r1, r2, r3, r4) := H
        have A10 := Aside0.mk A100
        clear A100
        by_cases c11 : t192 = true
        ·subst c11
         have H1 : (if x13_1 < (x5_1.length : Int) then (poly_Canon.l0 k1 (x5_1.set (x13_1 : Int).toNat (rd l1 x13_1)) l1 (l1.length : Int) (wrap64 (x13_1 + 1)) t193 t194 s0_2 t195 s0_4 s0_5) else (none)) = some (r1, r2, r3, r4) := by rw [if_pos rfl] at H; exact H
         clear H
         have H := H1
         clear H1
         by_cases c12 : x13_1 < (x5_1.length : Int)
         ·rw [if_pos c12] at H
          have c12b0 : decide (x13_1 < (x5_1.length : Int)) = true := decide_eq_true c12
          clear c12
          obtain ⟨y196, hy196⟩ : ∃ y_ : List Int, y_ = (x5_1.set (x13_1 : Int).toNat (rd l1 x13_1)) := ⟨_, rfl⟩
          replace H : (poly_Canon.l0 k1 y196 l1 (l1.length : Int) (wrap64 (x13_1 + 1)) t193 t194 s0_2 t195 s0_4 s0_5) = some (r1, r2, r3, r4) := by (rw [hy196]; with_reducible exact H)
          have Ny196 := Aside0.mk hy196
          clear hy196
          have H' := Aside0.mk H
          clear H
          have p191 : 0 ≤ (x13_1 : Int) := of_decide_eq_true (by (with_reducible assumption))
          have q191 : x13_1 < (l1.length : Int) := of_decide_eq_true (by (with_reducible assumption))
          obtain ⟨ad191, e191, hx191_0⟩ := Kd.at_int HR1.out x13_1 p191 q191
          cases e191
          replace hx191_0 := keep_cell HK.out hx191_0 (by (rw [add_block]; exact hf1 _ rfl (by omega)))
          replace p191 := eq_true p191
          replace q191 := eq_true q191
          go_wp2_with (first | ((with_reducible refine gate_callee (f := 79) rfl ?_); refine goesL_ (some 20) rfl rfl Try.func79 (by kernel_rfl) rfl #[.pointer (some ⟨g, 0, none⟩), .int .i64 (rd l1 x13_1)] rfl (by ((simp only [List.map_toArray, List.map_cons, List.map_nil])); (rfl)) ?_; (with_reducible refine (field_GF_Is.calls g x1000_1 x1001_1 s0_2 x1003_1 s0_4 s0_5 (rd l1 x13_1) true t193 t194 t195 w0 _ ?side1 ?side2 A10.out).mono ?_); (case side1 => repeat ((with_reducible (exact HI0.out)))); (case side2 => repeat ((with_reducible (exact HB.out)))); rintro e w14 ⟨rfl, hi, hb, hk⟩; refine ⟨_, rfl, ?_⟩; have n0_ := Aside0.mk (Kd.R_mono (Kd.R_keep (IsS93.apart (show IsS93 w0 _ g x1000_1 x1001_1 s0_2 x1003_1 s0_4 s0_5 from by exact HI0.out) HO_5.out (by decide)) hk (fun _ h => h.2)) (fun _ h => h.1)); have n1_ := Aside0.mk (KeepBut.trans HK.out hk (.inl rfl)); have n2_ := Aside0.mk (hb); have n3_ := Aside0.mk (hi); clear HO_5; clear HK; clear HB; clear HI0; have HO_5 := n0_; have HK := n1_; have HB := n2_; have HI0 := n3_; clear n0_ n1_ n2_ n3_; ((clear hb)); (skip); ((clear hk)); ((clear hi)); have p13 : 0 ≤ (x13_1 : Int) := of_decide_eq_true (by (with_reducible assumption)); have q13 : (x13_1 : Int) < ((x5_1.length : Int) : Int) := of_decide_eq_true (by (with_reducible assumption)); obtain ⟨go13, co13, eo13, gb13, gl13, cl13, HG13⟩ := Kd.R_form HO_5.out (by omega); ((cases eo13)); have GB13 := Aside0.mk gb13; have GG13 := Aside0.mk HG13; clear gb13 gl13 HG13; obtain ⟨hx13_0, hf13_0⟩ := Kd.R_celln 0 HO_5.out (x13_1 : Int) p13 q13; replace p13 := eq_true p13; replace q13 := eq_true q13; obtain ⟨hy15_, hz15_⟩ := Kd.R_celln 0 HO_5.out (x13_1 : Int) (of_decide_eq_true (by (with_reducible assumption))) (of_decide_eq_true (by (with_reducible assumption))); have HP15 := Kd.R_putg HO_5.out (x13_1 : Int) (rd l1 x13_1)) | ((with_reducible refine gate_store (t := 3) (p := 24) rfl ?_); refine store_event (t := 3) (p := 24) (v := ?vo_w16) (w1 := (w14.setCell ⟨go13, (x13_1 : Int).toNat, none⟩ (.int .i64 (rd l1 x13_1)))) ?hg ?ho ?hn ?hr ?_; (case ho => rfl); (case hg => rfl); (case hn => rfl); (case hr => (go_simp; done)); intro w16 hw; have hg : w14.grownBy w16 (some go13) := (by rw [hw]; exact HP15.2); have hp_ : Kd.R (Kd.int .i64) 3 w16 w.heap.size (fun _ => True) (.slice (some ⟨go13, 0, none⟩) x5_1.length co13) y196 := (by rw [hw, Ny196.out]; exact HP15.1); clear HP15; have n0_ := Aside0.mk (hp_); have n1_ := Aside0.mk (IsS93.grown HI0.out hg (IsS93.own_ne HI0.out HO_5.out (by decide))); have n2_ := Aside0.mk ((by rw [hw]; exact below_set (HB.out) (Nat.le_trans HL.out GB13.out) : Below w0.heap.size w0 w16)); have n3_ := Aside0.mk (KeepBut.trans HK.out (KeepBut.of_grown hg g) (Kd.R_base2 HO_5.out)); clear HO_5; clear HI0; clear HB; clear HK; have HO_5 := n0_; have HI0 := n1_; have HB := n2_; have HK := n3_; clear n0_ n1_ n2_ n3_; clear hg hw hp_))
          go_roundg k1
          case measure => have := HK1.out; omega
          case rel => exact ⟨(y196), (wrap64 (x13_1 + 1)), (t193), (t194), (t195), (by rfl), H', ⟨by have := HK1.out; omega⟩, ⟨HO_5.out⟩, ⟨HI0.out⟩, ⟨HK.out⟩, ⟨HB.out⟩⟩
         ·rw [if_neg c12] at H
          exact absurd H (by simp)
        ·replace c11 := Bool.eq_false_iff.mpr c11
         subst c11
         have H1 : (poly_Canon.l0 k1 x5_1 l1 (l1.length : Int) (wrap64 (x13_1 + 1)) t193 t194 s0_2 t195 s0_4 s0_5) = some (r1, r2, r3, r4) := by rw [if_neg (show ¬ (false = true) by decide)] at H; exact H
         clear H
         have H := H1
         clear H1
         have H' := Aside0.mk H
         clear H
         have p191 : 0 ≤ (x13_1 : Int) := of_decide_eq_true (by (with_reducible assumption))
         have q191 : x13_1 < (l1.length : Int) := of_decide_eq_true (by (with_reducible assumption))
         obtain ⟨ad191, e191, hx191_0⟩ := Kd.at_int HR1.out x13_1 p191 q191
         cases e191
         replace hx191_0 := keep_cell HK.out hx191_0 (by (rw [add_block]; exact hf1 _ rfl (by omega)))
         replace p191 := eq_true p191
         replace q191 := eq_true q191
         go_wp2_with (((with_reducible refine gate_callee (f := 79) rfl ?_); refine goesL_ (some 20) rfl rfl Try.func79 (by kernel_rfl) rfl #[.pointer (some ⟨g, 0, none⟩), .int .i64 (rd l1 x13_1)] rfl (by ((simp only [List.map_toArray, List.map_cons, List.map_nil])); (rfl)) ?_; (with_reducible refine (field_GF_Is.calls g x1000_1 x1001_1 s0_2 x1003_1 s0_4 s0_5 (rd l1 x13_1) false t193 t194 t195 w0 _ ?side1 ?side2 A10.out).mono ?_); (case side1 => repeat ((with_reducible (exact HI0.out)))); (case side2 => repeat ((with_reducible (exact HB.out)))); rintro e w17 ⟨rfl, hi, hb, hk⟩; refine ⟨_, rfl, ?_⟩; have n0_ := Aside0.mk (Kd.R_mono (Kd.R_keep (IsS93.apart (show IsS93 w0 _ g x1000_1 x1001_1 s0_2 x1003_1 s0_4 s0_5 from by exact HI0.out) HO_5.out (by decide)) hk (fun _ h => h.2)) (fun _ h => h.1)); have n1_ := Aside0.mk (KeepBut.trans HK.out hk (.inl rfl)); have n2_ := Aside0.mk (hb); have n3_ := Aside0.mk (hi); clear HO_5; clear HK; clear HB; clear HI0; have HO_5 := n0_; have HK := n1_; have HB := n2_; have HI0 := n3_; clear n0_ n1_ n2_ n3_; ((clear hb)); (skip); ((clear hk)); ((clear hi))))
         go_roundg k1
         case measure => have := HK1.out; omega
         case rel => exact ⟨(x5_1), (wrap64 (x13_1 + 1)), (t193), (t194), (t195), (by rfl), H', ⟨by have := HK1.out; omega⟩, ⟨HO_5.out⟩, ⟨HI0.out⟩, ⟨HK.out⟩, ⟨HB.out⟩⟩
       ·rw [if_neg c9] at H
        exact absurd H (by simp)
      ·rw [if_neg c8] at H
       exact absurd H (by simp)
     ·rw [if_neg c7] at H
      have c7b0 : decide (x13_1 < (l1.length : Int)) = false := decide_eq_false c7
      clear c7
      obtain ⟨t197, A180, H⟩ := Option.bind_eq_some_iff.mp H
      replace H : (some (t197, x1000_1, x1001_1, x1003_1)) = some (r1, r2, r3, r4) := H
      have A18 := Aside0.mk A180
      clear A180
      simp only [Option.some.injEq, Prod.mk.injEq] at H
      obtain ⟨rfl, rfl, rfl, rfl⟩ := H
      obtain ⟨Ao19, co19, eo19⟩ := Kd.R_slice HO_5.out
      subst eo19
      go_wp2_with (((with_reducible refine gate_callee (f := 80) rfl ?_); refine goesL_ (some 27) rfl rfl Try.func80 (by kernel_rfl) rfl #[.slice Ao19 x5_1.length co19] rfl (by ((simp only [List.map_toArray, List.map_cons, List.map_nil])); (rfl)) ?_; (with_reducible refine (poly_trim.calls k1 (fun k_ => some k_ = (.slice Ao19 x5_1.length co19 : Value).ownBlock) (.slice Ao19 x5_1.length co19) x5_1 t197 w0 _ ?side1 ?side2 A18.out).mono ?_); (case side1 => repeat ((with_reducible (exact HB.out)))); (case side2 => exact Kd.R_lower (Kd.R_tight rfl HO_5.out) HL.out); rintro e w20 ⟨v198, rfl, ho0, hb, hkp⟩; refine ⟨_, rfl, ?_⟩; have n0_ := Aside0.mk (IsS93.kept HI0.out hkp (fun hs_ => (fun e_ => (IsS93.own_ne HI0.out HO_5.out (by decide)) e_) hs_)); have n1_ := Aside0.mk (Kd.R_mono (ok' := fun k_ => True) (Kd.R_raise (d := (Kd.int .i64)) (b := w0.heap.size) (b' := w.heap.size) (fun _ _ _ _ h_ => h_) ho0 (fun k_ e_ => Or.elim (ho0.1 k_ e_) (fun hs_ => (fun e_ => Kd.R_base HO_5.out k_ e_.symm) hs_) (fun hn_ => Nat.le_trans (keep_size (w := w) (g := g) (row := none) HK.out) hn_))) (fun k_ hk_ => trivial)); have n2_ := Aside0.mk (Kept.keepG HK.out hkp (fun k_ hs_ => (fun e_ => .inr (Kd.R_base HO_5.out k_ e_.symm)) hs_)); have n3_ := Aside0.mk (hb); clear HI0; clear HK; clear HB; clear HO_5; have HI0 := n0_; have HO199 := n1_; have HK := n2_; have HB := n3_; clear n0_ n1_ n2_ n3_; ((clear hb)); ((clear hkp)); ((clear ho0))))
      go_ret
      exact ⟨_, by rfl, by exact HO199.out, by exact HI0.out, by exact HB.out, by exact HK.out⟩
  ·rw [if_neg c4] at H
   exact absurd H (by simp)
 ·rw [if_neg c3] at H
  exact absurd H (by simp)
def field_GF_in.f (s0_0 : Int) (s0_1 : Int) (s0_2 : List Int) (s0_3 : Int) (s0_4 : List Int) (s0_5 : List Int) (a1 : Int) : Option (Int × Int × Int × Int) := (field_GF_Is.f s0_0 s0_1 s0_2 s0_3 s0_4 s0_5 a1).bind fun bt200 => (if bt200.1 = true then (some (a1, bt200.2.1, bt200.2.2.1, bt200.2.2.2)) else (some (0, bt200.2.1, bt200.2.2.1, bt200.2.2.2)))
set_option maxHeartbeats 8000000 in
set_option maxRecDepth 100000 in
theorem field_GF_in.calls (g : Nat) (s0_0 : Int) (s0_1 : Int) (s0_2 : List Int) (s0_3 : Int) (s0_4 : List Int) (s0_5 : List Int) (a1 : Int) (r1 : Int) (r2 : Int) (r3 : Int) (r4 : Int) (w0 w : World) (hI : IsS93 w0 w g s0_0 s0_1 s0_2 s0_3 s0_4 s0_5) (hB : Below w0.heap.size w0 w) (h : field_GF_in.f s0_0 s0_1 s0_2 s0_3 s0_4 s0_5 a1 = some (r1, r2, r3, r4)) :
  Calls Try.prog 81 #[.pointer (some ⟨g, 0, none⟩), .int .i64 a1] w fun e w' => e = .returned (.int .i64 r1) ∧ IsS93 w0 w' g r2 r3 s0_2 r4 s0_4 s0_5 ∧ Below w0.heap.size w0 w' ∧ KeepBut w w' g none := by
 have HI0 := Aside0.mk hI
 have HK := Aside0.mk (KeepBut.refl w g none)
 have HL := Aside0.mk hB.size
 clear hI
 have HW0 := Aside0.mk hB.size
 have HB := Aside0.mk hB
 clear hB
 have H : ((field_GF_Is.f s0_0 s0_1 s0_2 s0_3 s0_4 s0_5 a1).bind fun bt200 => (if bt200.1 = true then (some (a1, bt200.2.1, bt200.2.2.1, bt200.2.2.2)) else (some (0, bt200.2.1, bt200.2.2.1, bt200.2.2.2)))) = some (r1, r2, r3, r4) := h
 clear h
 replace H := Option.bind_eq_some_iff.mp H
 obtain ⟨⟨t200, t201, t202, t203⟩, A30, H⟩ := H
 replace H : (if t200 = true then (some (a1, t201, t202, t203)) else (some (0, t201, t202, t203))) = some (r1, r2, r3, r4) := H
 have A3 := Aside0.mk A30
 clear A30
 by_cases c4 : t200 = true
 ·subst c4
  have H1 : (some (a1, t201, t202, t203)) = some (r1, r2, r3, r4) := by rw [if_pos rfl] at H; exact H
  clear H
  have H := H1
  clear H1
  simp only [Option.some.injEq, Prod.mk.injEq] at H
  obtain ⟨rfl, rfl, rfl, rfl⟩ := H
  go_enter Try.func81, Try.ntmps81
  go_wp2_with (((with_reducible refine gate_callee (f := 79) rfl ?_); refine goesL_ (some 7) rfl rfl Try.func79 (by kernel_rfl) rfl #[.pointer (some ⟨g, 0, none⟩), .int .i64 a1] rfl (by ((simp only [List.map_toArray, List.map_cons, List.map_nil])); (rfl)) ?_; (with_reducible refine (field_GF_Is.calls g s0_0 s0_1 s0_2 s0_3 s0_4 s0_5 a1 true t201 t202 t203 w0 _ ?side1 ?side2 A3.out).mono ?_); (case side1 => repeat ((with_reducible (exact HI0.out)))); (case side2 => repeat ((with_reducible (exact HB.out)))); rintro e w5 ⟨rfl, hi, hb, hk⟩; refine ⟨_, rfl, ?_⟩; have n0_ := Aside0.mk (KeepBut.trans HK.out hk (.inl rfl)); have n1_ := Aside0.mk (hb); have n2_ := Aside0.mk (hi); clear HK; clear HB; clear HI0; have HK := n0_; have HB := n1_; have HI0 := n2_; clear n0_ n1_ n2_; ((clear hb)); (skip); ((clear hk)); ((clear hi))))
  go_ret
  exact ⟨by rfl, by exact HI0.out, by exact HB.out, by exact HK.out⟩
 ·replace c4 := Bool.eq_false_iff.mpr c4
  subst c4
  have H1 : (some (0, t201, t202, t203)) = some (r1, r2, r3, r4) := by rw [if_neg (show ¬ (false = true) by decide)] at H; exact H
  clear H
  have H := H1
  clear H1
  simp only [Option.some.injEq, Prod.mk.injEq] at H
  obtain ⟨rfl, rfl, rfl, rfl⟩ := H
  go_enter Try.func81, Try.ntmps81
  go_wp2_with (((with_reducible refine gate_callee (f := 79) rfl ?_); refine goesL_ (some 7) rfl rfl Try.func79 (by kernel_rfl) rfl #[.pointer (some ⟨g, 0, none⟩), .int .i64 a1] rfl (by ((simp only [List.map_toArray, List.map_cons, List.map_nil])); (rfl)) ?_; (with_reducible refine (field_GF_Is.calls g s0_0 s0_1 s0_2 s0_3 s0_4 s0_5 a1 false t201 t202 t203 w0 _ ?side1 ?side2 A3.out).mono ?_); (case side1 => repeat ((with_reducible (exact HI0.out)))); (case side2 => repeat ((with_reducible (exact HB.out)))); rintro e w6 ⟨rfl, hi, hb, hk⟩; refine ⟨_, rfl, ?_⟩; have n0_ := Aside0.mk (KeepBut.trans HK.out hk (.inl rfl)); have n1_ := Aside0.mk (hb); have n2_ := Aside0.mk (hi); clear HK; clear HB; clear HI0; have HK := n0_; have HB := n1_; have HI0 := n2_; clear n0_ n1_ n2_; ((clear hb)); (skip); ((clear hk)); ((clear hi))))
  go_ret
  exact ⟨by rfl, by exact HI0.out, by exact HB.out, by exact HK.out⟩
def field_GF_Inv.f (s0_0 : Int) (s0_1 : Int) (s0_2 : List Int) (s0_3 : Int) (s0_4 : List Int) (s0_5 : List Int) (a1 : Int) : Option (Int × Int × Int × Int × Int) := (field_GF_in.f s0_0 s0_1 s0_2 s0_3 s0_4 s0_5 a1).bind fun bt204 => (if bt204.1 = 0 then (some (0, 7, bt204.2.1, bt204.2.2.1, bt204.2.2.2)) else (if 0 ≤ bt204.1 then (if bt204.1 < (s0_5.length : Int) then (if (wrap64 (bt204.2.2.2 - 1)) = 0 then (none) else (if 0 ≤ (Int.tmod (wrap64 ((wrap64 (bt204.2.2.2 - 1)) - (rd s0_5 bt204.1))) (wrap64 (bt204.2.2.2 - 1))) then (if (Int.tmod (wrap64 ((wrap64 (bt204.2.2.2 - 1)) - (rd s0_5 bt204.1))) (wrap64 (bt204.2.2.2 - 1))) < (s0_4.length : Int) then (some (rd s0_4 (Int.tmod (wrap64 ((wrap64 (bt204.2.2.2 - 1)) - (rd s0_5 bt204.1))) (wrap64 (bt204.2.2.2 - 1))), 0, bt204.2.1, bt204.2.2.1, bt204.2.2.2)) else (none)) else (none))) else (none)) else (none)))
set_option maxHeartbeats 8000000 in
set_option maxRecDepth 100000 in
theorem field_GF_Inv.calls (g : Nat) (s0_0 : Int) (s0_1 : Int) (s0_2 : List Int) (s0_3 : Int) (s0_4 : List Int) (s0_5 : List Int) (a1 : Int) (r1 : Int) (r2 : Int) (r3 : Int) (r4 : Int) (r5 : Int) (w0 w : World) (hI : IsS93 w0 w g s0_0 s0_1 s0_2 s0_3 s0_4 s0_5) (hB : Below w0.heap.size w0 w) (h : field_GF_Inv.f s0_0 s0_1 s0_2 s0_3 s0_4 s0_5 a1 = some (r1, r2, r3, r4, r5)) :
  Calls Try.prog 47 #[.pointer (some ⟨g, 0, none⟩), .int .i64 a1] w fun e w' => e = .returned (.tuple #[.int .i64 r1, .int .i64 r2]) ∧ IsS93 w0 w' g r3 r4 s0_2 r5 s0_4 s0_5 ∧ Below w0.heap.size w0 w' ∧ KeepBut w w' g none := by
 have HI0 := Aside0.mk hI
 have HK := Aside0.mk (KeepBut.refl w g none)
 have HL := Aside0.mk hB.size
 clear hI
 have HW0 := Aside0.mk hB.size
 have HB := Aside0.mk hB
 clear hB
 have H : ((field_GF_in.f s0_0 s0_1 s0_2 s0_3 s0_4 s0_5 a1).bind fun bt204 => (if bt204.1 = 0 then (some (0, 7, bt204.2.1, bt204.2.2.1, bt204.2.2.2)) else (if 0 ≤ bt204.1 then (if bt204.1 < (s0_5.length : Int) then (if (wrap64 (bt204.2.2.2 - 1)) = 0 then (none) else (if 0 ≤ (Int.tmod (wrap64 ((wrap64 (bt204.2.2.2 - 1)) - (rd s0_5 bt204.1))) (wrap64 (bt204.2.2.2 - 1))) then (if (Int.tmod (wrap64 ((wrap64 (bt204.2.2.2 - 1)) - (rd s0_5 bt204.1))) (wrap64 (bt204.2.2.2 - 1))) < (s0_4.length : Int) then (some (rd s0_4 (Int.tmod (wrap64 ((wrap64 (bt204.2.2.2 - 1)) - (rd s0_5 bt204.1))) (wrap64 (bt204.2.2.2 - 1))), 0, bt204.2.1, bt204.2.2.1, bt204.2.2.2)) else (none)) else (none))) else (none)) else (none)))) = some (r1, r2, r3, r4, r5) := h
 clear h
 replace H := Option.bind_eq_some_iff.mp H
 obtain ⟨⟨t204, t205, t206, t207⟩, A30, H⟩ := H
 replace H : (if t204 = 0 then (some (0, 7, t205, t206, t207)) else (if 0 ≤ t204 then (if t204 < (s0_5.length : Int) then (if (wrap64 (t207 - 1)) = 0 then (none) else (if 0 ≤ (Int.tmod (wrap64 ((wrap64 (t207 - 1)) - (rd s0_5 t204))) (wrap64 (t207 - 1))) then (if (Int.tmod (wrap64 ((wrap64 (t207 - 1)) - (rd s0_5 t204))) (wrap64 (t207 - 1))) < (s0_4.length : Int) then (some (rd s0_4 (Int.tmod (wrap64 ((wrap64 (t207 - 1)) - (rd s0_5 t204))) (wrap64 (t207 - 1))), 0, t205, t206, t207)) else (none)) else (none))) else (none)) else (none))) = some (r1, r2, r3, r4, r5) := H
 have A3 := Aside0.mk A30
 clear A30
 by_cases c4 : t204 = 0
 ·rw [if_pos c4] at H
  have c4b0 : (t204 == 0) = true := beq_iff_eq.mpr c4
  have c4b1 : (t204 != 0) = false := bne_eq_false_iff_eq.mpr c4
  clear c4
  simp only [Option.some.injEq, Prod.mk.injEq] at H
  obtain ⟨rfl, rfl, rfl, rfl, rfl⟩ := H
  go_enter Try.func47, Try.ntmps47
  go_wp2_with ((go_at_call 81; (with_reducible refine (field_GF_in.calls g s0_0 s0_1 s0_2 s0_3 s0_4 s0_5 a1 t204 t205 t206 t207 w0 _ ?side1 ?side2 A3.out).mono ?_); (case side1 => repeat ((with_reducible (exact HI0.out)))); (case side2 => repeat ((with_reducible (exact HB.out)))); rintro e w5 ⟨rfl, hi, hb, hk⟩; have n0_ := Aside0.mk (KeepBut.trans HK.out hk (.inl rfl)); have n1_ := Aside0.mk (hb); have n2_ := Aside0.mk (hi); clear HK; clear HB; clear HI0; have HK := n0_; have HB := n1_; have HI0 := n2_; clear n0_ n1_ n2_; ((clear hb)); (skip); ((clear hk)); ((clear hi))))
  repeat (go_quiet (first | (go_at_call 81; (with_reducible refine (field_GF_in.calls g s0_0 s0_1 s0_2 s0_3 s0_4 s0_5 a1 t204 t205 t206 t207 w0 _ ?side1 ?side2 A3.out).mono ?_); (case side1 => repeat (first | (with_reducible first | exact HI0.out | apply IsS93.alloc | apply IsS93.drewN | apply IsS93.drew | apply IsS93.set_0 | apply IsS93.set_1 | apply IsS93.set_3) | exact HI0.out)); (case side2 => repeat (first | (with_reducible first | exact HB.out | apply below_alloc | apply pw_below_drewN | apply below_drew1 | refine below_set ?_ (IsS93.ge HI0.out)) | exact HB.out)); rintro e w5 ⟨rfl, hi, hb, hk⟩; have n0_ := Aside0.mk (KeepBut.trans (by repeat (first | (with_reducible first | exact HK.out | apply KeepBut.set_ | apply keep_drewN | apply keep_drew | apply keep_alloc) | exact HK.out)) hk (.inl rfl)); have n1_ := Aside0.mk (hb); have n2_ := Aside0.mk (hi); clear HK; clear HB; clear HI0; have HK := n0_; have HB := n1_; have HI0 := n2_; clear n0_ n1_ n2_; (try clear hb); (try clear hb2); (try clear hk); (try clear hi))); try go_wp2_with (first | (go_at_call 81; (with_reducible refine (field_GF_in.calls g s0_0 s0_1 s0_2 s0_3 s0_4 s0_5 a1 t204 t205 t206 t207 w0 _ ?side1 ?side2 A3.out).mono ?_); (case side1 => repeat (first | (with_reducible first | exact HI0.out | apply IsS93.alloc | apply IsS93.drewN | apply IsS93.drew | apply IsS93.set_0 | apply IsS93.set_1 | apply IsS93.set_3) | exact HI0.out)); (case side2 => repeat (first | (with_reducible first | exact HB.out | apply below_alloc | apply pw_below_drewN | apply below_drew1 | refine below_set ?_ (IsS93.ge HI0.out)) | exact HB.out)); rintro e w5 ⟨rfl, hi, hb, hk⟩; have n0_ := Aside0.mk (KeepBut.trans (by repeat (first | (with_reducible first | exact HK.out | apply KeepBut.set_ | apply keep_drewN | apply keep_drew | apply keep_alloc) | exact HK.out)) hk (.inl rfl)); have n1_ := Aside0.mk (hb); have n2_ := Aside0.mk (hi); clear HK; clear HB; clear HI0; have HK := n0_; have HB := n1_; have HI0 := n2_; clear n0_ n1_ n2_; (try clear hb); (try clear hb2); (try clear hk); (try clear hi))))
  go_ret2
  exact ⟨by rfl, by exact HI0.out, by exact HB.out, by exact HK.out⟩
 ·rw [if_neg c4] at H
  have c4b0 : (t204 == 0) = false := beq_eq_false_iff_ne.mpr c4
  have c4b1 : (t204 != 0) = true := bne_iff_ne.mpr c4
  by_cases c6 : 0 ≤ t204
  ·rw [if_pos c6] at H
   have c6b0 : decide (0 ≤ t204) = true := decide_eq_true c6
   clear c6
   by_cases c7 : t204 < (s0_5.length : Int)
   ·rw [if_pos c7] at H
    have c7b0 : decide (t204 < (s0_5.length : Int)) = true := decide_eq_true c7
    clear c7
    by_cases c8 : (wrap64 (t207 - 1)) = 0
    ·rw [if_pos c8] at H
     exact absurd H (by simp)
    ·rw [if_neg c8] at H
     have c8b0 : ((wrap64 (t207 - 1)) == 0) = false := beq_eq_false_iff_ne.mpr c8
     have c8b1 : ((wrap64 (t207 - 1)) != 0) = true := bne_iff_ne.mpr c8
     obtain ⟨ji9, hji9⟩ : ∃ j_ : Int, (Int.tmod (wrap64 ((wrap64 (t207 - 1)) - (rd s0_5 t204))) (wrap64 (t207 - 1))) = j_ := ⟨_, rfl⟩
     replace H : (if 0 ≤ (ji9) then (if (ji9) < (s0_4.length : Int) then (some (rd s0_4 (ji9), 0, t205, t206, t207)) else (none)) else (none)) = some (r1, r2, r3, r4, r5) := by (rw [hji9] at H; exact H)
     by_cases c10 : 0 ≤ (ji9)
     ·rw [if_pos c10] at H
      have c10b0 : decide (0 ≤ (ji9)) = true := decide_eq_true c10
      clear c10
      by_cases c11 : (ji9) < (s0_4.length : Int)
      ·rw [if_pos c11] at H
       have c11b0 : decide ((ji9) < (s0_4.length : Int)) = true := decide_eq_true c11
       clear c11
       simp only [Option.some.injEq, Prod.mk.injEq] at H
       obtain ⟨rfl, rfl, rfl, rfl, rfl⟩ := H
       go_enter Try.func47, Try.ntmps47
       go_wp2_with ((go_at_call 81; (with_reducible refine (field_GF_in.calls g s0_0 s0_1 s0_2 s0_3 s0_4 s0_5 a1 t204 t205 t206 t207 w0 _ ?side1 ?side2 A3.out).mono ?_); (case side1 => repeat ((with_reducible (exact HI0.out)))); (case side2 => repeat ((with_reducible (exact HB.out)))); rintro e w12 ⟨rfl, hi, hb, hk⟩; have n0_ := Aside0.mk (KeepBut.trans HK.out hk (.inl rfl)); have n1_ := Aside0.mk (hb); have n2_ := Aside0.mk (hi); clear HK; clear HB; clear HI0; have HK := n0_; have HB := n1_; have HI0 := n2_; clear n0_ n1_ n2_; ((clear hb)); (skip); ((clear hk)); ((clear hi)); obtain ⟨ASz13_2, cSz13_2, ASz13_4, cSz13_4, ASz13_5, cSz13_5, HGz13, hgz13, HSz13_2, HSz13_4, HSz13_5⟩ := HI0.out; have hcz13_0 := cellS93_0 HGz13; have hcz13_1 := cellS93_1 HGz13; have hcz13_2 := cellS93_2 HGz13; have hcz13_3 := cellS93_3 HGz13; have hcz13_4 := cellS93_4 HGz13; have hcz13_5 := cellS93_5 HGz13; have hfz13_0 := blk_frozen HGz13 0; have hfz13_1 := blk_frozen HGz13 1; have hfz13_3 := blk_frozen HGz13 3; clear HGz13 hgz13; have p208 : 0 ≤ (t204 : Int) := of_decide_eq_true (by (with_reducible assumption)); have q208 : t204 < (s0_5.length : Int) := of_decide_eq_true (by (with_reducible assumption)); obtain ⟨ad208, e208, hx208_0⟩ := Kd.at_int HSz13_5 t204 p208 q208; cases e208; replace hx208_0 := pw_cell_below HB.out hx208_0; replace p208 := eq_true p208; replace q208 := eq_true q208; have p209 : 0 ≤ ((ji9) : Int) := of_decide_eq_true (by (with_reducible assumption)); have q209 : (ji9) < (s0_4.length : Int) := of_decide_eq_true (by (with_reducible assumption)); obtain ⟨ad209, e209, hx209_0⟩ := Kd.at_int HSz13_4 (ji9) p209 q209; cases e209; replace hx209_0 := pw_cell_below HB.out hx209_0; replace p209 := eq_true p209; replace q209 := eq_true q209))
       repeat (go_quiet (first | (go_at_call 81; (with_reducible refine (field_GF_in.calls g s0_0 s0_1 s0_2 s0_3 s0_4 s0_5 a1 t204 t205 t206 t207 w0 _ ?side1 ?side2 A3.out).mono ?_); (case side1 => repeat (first | (with_reducible first | exact HI0.out | apply IsS93.alloc | apply IsS93.drewN | apply IsS93.drew | apply IsS93.set_0 | apply IsS93.set_1 | apply IsS93.set_3) | exact HI0.out)); (case side2 => repeat (first | (with_reducible first | exact HB.out | apply below_alloc | apply pw_below_drewN | apply below_drew1 | refine below_set ?_ (IsS93.ge HI0.out)) | exact HB.out)); rintro e w12 ⟨rfl, hi, hb, hk⟩; have n0_ := Aside0.mk (KeepBut.trans (by repeat (first | (with_reducible first | exact HK.out | apply KeepBut.set_ | apply keep_drewN | apply keep_drew | apply keep_alloc) | exact HK.out)) hk (.inl rfl)); have n1_ := Aside0.mk (hb); have n2_ := Aside0.mk (hi); clear HK; clear HB; clear HI0; have HK := n0_; have HB := n1_; have HI0 := n2_; clear n0_ n1_ n2_; (try clear hb); (try clear hb2); (try clear hk); (try clear hi); obtain ⟨ASz13_2, cSz13_2, ASz13_4, cSz13_4, ASz13_5, cSz13_5, HGz13, hgz13, HSz13_2, HSz13_4, HSz13_5⟩ := HI0.out; have hcz13_0 := cellS93_0 HGz13; have hcz13_1 := cellS93_1 HGz13; have hcz13_2 := cellS93_2 HGz13; have hcz13_3 := cellS93_3 HGz13; have hcz13_4 := cellS93_4 HGz13; have hcz13_5 := cellS93_5 HGz13; have hfz13_0 := blk_frozen HGz13 0; have hfz13_1 := blk_frozen HGz13 1; have hfz13_3 := blk_frozen HGz13 3; clear HGz13 hgz13; have p208 : 0 ≤ (t204 : Int) := of_decide_eq_true (by first | (with_reducible assumption) | assumption); have q208 : t204 < (s0_5.length : Int) := of_decide_eq_true (by first | (with_reducible assumption) | assumption); obtain ⟨ad208, e208, hx208_0⟩ := Kd.at_int HSz13_5 t204 p208 q208; cases e208; replace hx208_0 := pw_cell_below HB.out hx208_0; replace p208 := eq_true p208; replace q208 := eq_true q208; have p209 : 0 ≤ ((ji9) : Int) := of_decide_eq_true (by first | (with_reducible assumption) | assumption); have q209 : (ji9) < (s0_4.length : Int) := of_decide_eq_true (by first | (with_reducible assumption) | assumption); obtain ⟨ad209, e209, hx209_0⟩ := Kd.at_int HSz13_4 (ji9) p209 q209; cases e209; replace hx209_0 := pw_cell_below HB.out hx209_0; replace p209 := eq_true p209; replace q209 := eq_true q209)); (go_wp2_with (fail)))
       go_ret2
       exact ⟨by rfl, by repeat ((with_reducible first | (exact HI0.out) | (apply IsS93.drewN))), by repeat ((with_reducible first | (exact HB.out) | (apply pw_below_drewN))), by repeat ((with_reducible first | (exact HK.out) | (apply keep_drewN)))⟩
      ·rw [if_neg c11] at H
       exact absurd H (by simp)
     ·rw [if_neg c10] at H
      exact absurd H (by simp)
   ·rw [if_neg c7] at H
    exact absurd H (by simp)
  ·rw [if_neg c6] at H
   exact absurd H (by simp)
def field_GF_Mul.f (s0_0 : Int) (s0_1 : Int) (s0_2 : List Int) (s0_3 : Int) (s0_4 : List Int) (s0_5 : List Int) (a1 : Int) (a2 : Int) : Option (Int × Int × Int × Int) := (field_GF_in.f s0_0 s0_1 s0_2 s0_3 s0_4 s0_5 a1).bind fun bt210 => ((field_GF_in.f bt210.2.1 bt210.2.2.1 s0_2 bt210.2.2.2 s0_4 s0_5 a2).bind fun bt214 => (if bt210.1 = 0 then (some (0, bt214.2.1, bt214.2.2.1, bt214.2.2.2)) else (if bt214.1 = 0 then (some (0, bt214.2.1, bt214.2.2.1, bt214.2.2.2)) else (if 0 ≤ bt210.1 then (if bt210.1 < (s0_5.length : Int) then (if 0 ≤ bt214.1 then (if bt214.1 < (s0_5.length : Int) then (if (wrap64 (bt214.2.2.2 - 1)) = 0 then (none) else (if 0 ≤ (Int.tmod (wrap64 ((rd s0_5 bt210.1) + (rd s0_5 bt214.1))) (wrap64 (bt214.2.2.2 - 1))) then (if (Int.tmod (wrap64 ((rd s0_5 bt210.1) + (rd s0_5 bt214.1))) (wrap64 (bt214.2.2.2 - 1))) < (s0_4.length : Int) then (some (rd s0_4 (Int.tmod (wrap64 ((rd s0_5 bt210.1) + (rd s0_5 bt214.1))) (wrap64 (bt214.2.2.2 - 1))), bt214.2.1, bt214.2.2.1, bt214.2.2.2)) else (none)) else (none))) else (none)) else (none)) else (none)) else (none)))))
set_option maxHeartbeats 8000000 in
set_option maxRecDepth 100000 in
theorem field_GF_Mul.calls (g : Nat) (s0_0 : Int) (s0_1 : Int) (s0_2 : List Int) (s0_3 : Int) (s0_4 : List Int) (s0_5 : List Int) (a1 : Int) (a2 : Int) (r1 : Int) (r2 : Int) (r3 : Int) (r4 : Int) (w0 w : World) (hI : IsS93 w0 w g s0_0 s0_1 s0_2 s0_3 s0_4 s0_5) (hB : Below w0.heap.size w0 w) (h : field_GF_Mul.f s0_0 s0_1 s0_2 s0_3 s0_4 s0_5 a1 a2 = some (r1, r2, r3, r4)) :
  Calls Try.prog 54 #[.pointer (some ⟨g, 0, none⟩), .int .i64 a1, .int .i64 a2] w fun e w' => e = .returned (.int .i64 r1) ∧ IsS93 w0 w' g r2 r3 s0_2 r4 s0_4 s0_5 ∧ Below w0.heap.size w0 w' ∧ KeepBut w w' g none := by
 have HI0 := Aside0.mk hI
 have HK := Aside0.mk (KeepBut.refl w g none)
 have HL := Aside0.mk hB.size
 clear hI
 have HW0 := Aside0.mk hB.size
 have HB := Aside0.mk hB
 clear hB
 have H : ((field_GF_in.f s0_0 s0_1 s0_2 s0_3 s0_4 s0_5 a1).bind fun bt210 => ((field_GF_in.f bt210.2.1 bt210.2.2.1 s0_2 bt210.2.2.2 s0_4 s0_5 a2).bind fun bt214 => (if bt210.1 = 0 then (some (0, bt214.2.1, bt214.2.2.1, bt214.2.2.2)) else (if bt214.1 = 0 then (some (0, bt214.2.1, bt214.2.2.1, bt214.2.2.2)) else (if 0 ≤ bt210.1 then (if bt210.1 < (s0_5.length : Int) then (if 0 ≤ bt214.1 then (if bt214.1 < (s0_5.length : Int) then (if (wrap64 (bt214.2.2.2 - 1)) = 0 then (none) else (if 0 ≤ (Int.tmod (wrap64 ((rd s0_5 bt210.1) + (rd s0_5 bt214.1))) (wrap64 (bt214.2.2.2 - 1))) then (if (Int.tmod (wrap64 ((rd s0_5 bt210.1) + (rd s0_5 bt214.1))) (wrap64 (bt214.2.2.2 - 1))) < (s0_4.length : Int) then (some (rd s0_4 (Int.tmod (wrap64 ((rd s0_5 bt210.1) + (rd s0_5 bt214.1))) (wrap64 (bt214.2.2.2 - 1))), bt214.2.1, bt214.2.2.1, bt214.2.2.2)) else (none)) else (none))) else (none)) else (none)) else (none)) else (none)))))) = some (r1, r2, r3, r4) := h
 clear h
 replace H := Option.bind_eq_some_iff.mp H
 obtain ⟨⟨t210, t211, t212, t213⟩, A40, H⟩ := H
 replace H : ((field_GF_in.f t211 t212 s0_2 t213 s0_4 s0_5 a2).bind fun bt214 => (if t210 = 0 then (some (0, bt214.2.1, bt214.2.2.1, bt214.2.2.2)) else (if bt214.1 = 0 then (some (0, bt214.2.1, bt214.2.2.1, bt214.2.2.2)) else (if 0 ≤ t210 then (if t210 < (s0_5.length : Int) then (if 0 ≤ bt214.1 then (if bt214.1 < (s0_5.length : Int) then (if (wrap64 (bt214.2.2.2 - 1)) = 0 then (none) else (if 0 ≤ (Int.tmod (wrap64 ((rd s0_5 t210) + (rd s0_5 bt214.1))) (wrap64 (bt214.2.2.2 - 1))) then (if (Int.tmod (wrap64 ((rd s0_5 t210) + (rd s0_5 bt214.1))) (wrap64 (bt214.2.2.2 - 1))) < (s0_4.length : Int) then (some (rd s0_4 (Int.tmod (wrap64 ((rd s0_5 t210) + (rd s0_5 bt214.1))) (wrap64 (bt214.2.2.2 - 1))), bt214.2.1, bt214.2.2.1, bt214.2.2.2)) else (none)) else (none))) else (none)) else (none)) else (none)) else (none))))) = some (r1, r2, r3, r4) := H
 have A4 := Aside0.mk A40
 clear A40
 replace H := Option.bind_eq_some_iff.mp H
 obtain ⟨⟨t214, t215, t216, t217⟩, A50, H⟩ := H
 replace H : (if t210 = 0 then (some (0, t215, t216, t217)) else (if t214 = 0 then (some (0, t215, t216, t217)) else (if 0 ≤ t210 then (if t210 < (s0_5.length : Int) then (if 0 ≤ t214 then (if t214 < (s0_5.length : Int) then (if (wrap64 (t217 - 1)) = 0 then (none) else (if 0 ≤ (Int.tmod (wrap64 ((rd s0_5 t210) + (rd s0_5 t214))) (wrap64 (t217 - 1))) then (if (Int.tmod (wrap64 ((rd s0_5 t210) + (rd s0_5 t214))) (wrap64 (t217 - 1))) < (s0_4.length : Int) then (some (rd s0_4 (Int.tmod (wrap64 ((rd s0_5 t210) + (rd s0_5 t214))) (wrap64 (t217 - 1))), t215, t216, t217)) else (none)) else (none))) else (none)) else (none)) else (none)) else (none)))) = some (r1, r2, r3, r4) := H
 have A5 := Aside0.mk A50
 clear A50
 by_cases c6 : t210 = 0
 ·rw [if_pos c6] at H
  have c6b0 : (t210 == 0) = true := beq_iff_eq.mpr c6
  have c6b1 : (t210 != 0) = false := bne_eq_false_iff_eq.mpr c6
  clear c6
  simp only [Option.some.injEq, Prod.mk.injEq] at H
  obtain ⟨rfl, rfl, rfl, rfl⟩ := H
  go_enter Try.func54, Try.ntmps54
  go_wp2_with (first | (go_at_call 81; (with_reducible refine (field_GF_in.calls g s0_0 s0_1 s0_2 s0_3 s0_4 s0_5 a1 t210 t211 t212 t213 w0 _ ?side1 ?side2 A4.out).mono ?_); (case side1 => repeat ((with_reducible (exact HI0.out)))); (case side2 => repeat ((with_reducible (exact HB.out)))); rintro e w7 ⟨rfl, hi, hb, hk⟩; have n0_ := Aside0.mk (KeepBut.trans HK.out hk (.inl rfl)); have n1_ := Aside0.mk (hb); have n2_ := Aside0.mk (hi); clear HK; clear HB; clear HI0; have HK := n0_; have HB := n1_; have HI0 := n2_; clear n0_ n1_ n2_; ((clear hb)); (skip); ((clear hk)); ((clear hi))) | (go_at_call 81; (with_reducible refine (field_GF_in.calls g t211 t212 s0_2 t213 s0_4 s0_5 a2 t214 t215 t216 t217 w0 _ ?side1 ?side2 A5.out).mono ?_); (case side1 => repeat ((with_reducible (exact HI0.out)))); (case side2 => repeat ((with_reducible (exact HB.out)))); rintro e w8 ⟨rfl, hi, hb, hk⟩; have n0_ := Aside0.mk (KeepBut.trans HK.out hk (.inl rfl)); have n1_ := Aside0.mk (hb); have n2_ := Aside0.mk (hi); clear HK; clear HB; clear HI0; have HK := n0_; have HB := n1_; have HI0 := n2_; clear n0_ n1_ n2_; ((clear hb)); (skip); ((clear hk)); ((clear hi))))
  repeat (go_quiet (first | (go_at_call 81; (with_reducible refine (field_GF_in.calls g s0_0 s0_1 s0_2 s0_3 s0_4 s0_5 a1 t210 t211 t212 t213 w0 _ ?side1 ?side2 A4.out).mono ?_); (case side1 => repeat (first | (with_reducible first | exact HI0.out | apply IsS93.alloc | apply IsS93.drewN | apply IsS93.drew | apply IsS93.set_0 | apply IsS93.set_1 | apply IsS93.set_3) | exact HI0.out)); (case side2 => repeat (first | (with_reducible first | exact HB.out | apply below_alloc | apply pw_below_drewN | apply below_drew1 | refine below_set ?_ (IsS93.ge HI0.out)) | exact HB.out)); rintro e w7 ⟨rfl, hi, hb, hk⟩; have n0_ := Aside0.mk (KeepBut.trans (by repeat (first | (with_reducible first | exact HK.out | apply KeepBut.set_ | apply keep_drewN | apply keep_drew | apply keep_alloc) | exact HK.out)) hk (.inl rfl)); have n1_ := Aside0.mk (hb); have n2_ := Aside0.mk (hi); clear HK; clear HB; clear HI0; have HK := n0_; have HB := n1_; have HI0 := n2_; clear n0_ n1_ n2_; (try clear hb); (try clear hb2); (try clear hk); (try clear hi)) | (go_at_call 81; (with_reducible refine (field_GF_in.calls g t211 t212 s0_2 t213 s0_4 s0_5 a2 t214 t215 t216 t217 w0 _ ?side1 ?side2 A5.out).mono ?_); (case side1 => repeat (first | (with_reducible first | exact HI0.out | apply IsS93.alloc | apply IsS93.drewN | apply IsS93.drew | apply IsS93.set_0 | apply IsS93.set_1 | apply IsS93.set_3) | exact HI0.out)); (case side2 => repeat (first | (with_reducible first | exact HB.out | apply below_alloc | apply pw_below_drewN | apply below_drew1 | refine below_set ?_ (IsS93.ge HI0.out)) | exact HB.out)); rintro e w8 ⟨rfl, hi, hb, hk⟩; have n0_ := Aside0.mk (KeepBut.trans (by repeat (first | (with_reducible first | exact HK.out | apply KeepBut.set_ | apply keep_drewN | apply keep_drew | apply keep_alloc) | exact HK.out)) hk (.inl rfl)); have n1_ := Aside0.mk (hb); have n2_ := Aside0.mk (hi); clear HK; clear HB; clear HI0; have HK := n0_; have HB := n1_; have HI0 := n2_; clear n0_ n1_ n2_; (try clear hb); (try clear hb2); (try clear hk); (try clear hi))); try go_wp2_with (first | (go_at_call 81; (with_reducible refine (field_GF_in.calls g s0_0 s0_1 s0_2 s0_3 s0_4 s0_5 a1 t210 t211 t212 t213 w0 _ ?side1 ?side2 A4.out).mono ?_); (case side1 => repeat (first | (with_reducible first | exact HI0.out | apply IsS93.alloc | apply IsS93.drewN | apply IsS93.drew | apply IsS93.set_0 | apply IsS93.set_1 | apply IsS93.set_3) | exact HI0.out)); (case side2 => repeat (first | (with_reducible first | exact HB.out | apply below_alloc | apply pw_below_drewN | apply below_drew1 | refine below_set ?_ (IsS93.ge HI0.out)) | exact HB.out)); rintro e w7 ⟨rfl, hi, hb, hk⟩; have n0_ := Aside0.mk (KeepBut.trans (by repeat (first | (with_reducible first | exact HK.out | apply KeepBut.set_ | apply keep_drewN | apply keep_drew | apply keep_alloc) | exact HK.out)) hk (.inl rfl)); have n1_ := Aside0.mk (hb); have n2_ := Aside0.mk (hi); clear HK; clear HB; clear HI0; have HK := n0_; have HB := n1_; have HI0 := n2_; clear n0_ n1_ n2_; (try clear hb); (try clear hb2); (try clear hk); (try clear hi)) | (go_at_call 81; (with_reducible refine (field_GF_in.calls g t211 t212 s0_2 t213 s0_4 s0_5 a2 t214 t215 t216 t217 w0 _ ?side1 ?side2 A5.out).mono ?_); (case side1 => repeat (first | (with_reducible first | exact HI0.out | apply IsS93.alloc | apply IsS93.drewN | apply IsS93.drew | apply IsS93.set_0 | apply IsS93.set_1 | apply IsS93.set_3) | exact HI0.out)); (case side2 => repeat (first | (with_reducible first | exact HB.out | apply below_alloc | apply pw_below_drewN | apply below_drew1 | refine below_set ?_ (IsS93.ge HI0.out)) | exact HB.out)); rintro e w8 ⟨rfl, hi, hb, hk⟩; have n0_ := Aside0.mk (KeepBut.trans (by repeat (first | (with_reducible first | exact HK.out | apply KeepBut.set_ | apply keep_drewN | apply keep_drew | apply keep_alloc) | exact HK.out)) hk (.inl rfl)); have n1_ := Aside0.mk (hb); have n2_ := Aside0.mk (hi); clear HK; clear HB; clear HI0; have HK := n0_; have HB := n1_; have HI0 := n2_; clear n0_ n1_ n2_; (try clear hb); (try clear hb2); (try clear hk); (try clear hi))))
  go_ret
  exact ⟨by rfl, by exact HI0.out, by exact HB.out, by exact HK.out⟩
 ·rw [if_neg c6] at H
  have c6b0 : (t210 == 0) = false := beq_eq_false_iff_ne.mpr c6
  have c6b1 : (t210 != 0) = true := bne_iff_ne.mpr c6
  by_cases c9 : t214 = 0
  ·rw [if_pos c9] at H
   have c9b0 : (t214 == 0) = true := beq_iff_eq.mpr c9
   have c9b1 : (t214 != 0) = false := bne_eq_false_iff_eq.mpr c9
   clear c9
   simp only [Option.some.injEq, Prod.mk.injEq] at H
   obtain ⟨rfl, rfl, rfl, rfl⟩ := H
   go_enter Try.func54, Try.ntmps54
   go_wp2_with (first | (go_at_call 81; (with_reducible refine (field_GF_in.calls g s0_0 s0_1 s0_2 s0_3 s0_4 s0_5 a1 t210 t211 t212 t213 w0 _ ?side1 ?side2 A4.out).mono ?_); (case side1 => repeat ((with_reducible (exact HI0.out)))); (case side2 => repeat ((with_reducible (exact HB.out)))); rintro e w10 ⟨rfl, hi, hb, hk⟩; have n0_ := Aside0.mk (KeepBut.trans HK.out hk (.inl rfl)); have n1_ := Aside0.mk (hb); have n2_ := Aside0.mk (hi); clear HK; clear HB; clear HI0; have HK := n0_; have HB := n1_; have HI0 := n2_; clear n0_ n1_ n2_; ((clear hb)); (skip); ((clear hk)); ((clear hi))) | (go_at_call 81; (with_reducible refine (field_GF_in.calls g t211 t212 s0_2 t213 s0_4 s0_5 a2 t214 t215 t216 t217 w0 _ ?side1 ?side2 A5.out).mono ?_); (case side1 => repeat ((with_reducible (exact HI0.out)))); (case side2 => repeat ((with_reducible (exact HB.out)))); rintro e w11 ⟨rfl, hi, hb, hk⟩; have n0_ := Aside0.mk (KeepBut.trans HK.out hk (.inl rfl)); have n1_ := Aside0.mk (hb); have n2_ := Aside0.mk (hi); clear HK; clear HB; clear HI0; have HK := n0_; have HB := n1_; have HI0 := n2_; clear n0_ n1_ n2_; ((clear hb)); (skip); ((clear hk)); ((clear hi))))
   repeat (go_quiet (first | (go_at_call 81; (with_reducible refine (field_GF_in.calls g s0_0 s0_1 s0_2 s0_3 s0_4 s0_5 a1 t210 t211 t212 t213 w0 _ ?side1 ?side2 A4.out).mono ?_); (case side1 => repeat (first | (with_reducible first | exact HI0.out | apply IsS93.alloc | apply IsS93.drewN | apply IsS93.drew | apply IsS93.set_0 | apply IsS93.set_1 | apply IsS93.set_3) | exact HI0.out)); (case side2 => repeat (first | (with_reducible first | exact HB.out | apply below_alloc | apply pw_below_drewN | apply below_drew1 | refine below_set ?_ (IsS93.ge HI0.out)) | exact HB.out)); rintro e w10 ⟨rfl, hi, hb, hk⟩; have n0_ := Aside0.mk (KeepBut.trans (by repeat (first | (with_reducible first | exact HK.out | apply KeepBut.set_ | apply keep_drewN | apply keep_drew | apply keep_alloc) | exact HK.out)) hk (.inl rfl)); have n1_ := Aside0.mk (hb); have n2_ := Aside0.mk (hi); clear HK; clear HB; clear HI0; have HK := n0_; have HB := n1_; have HI0 := n2_; clear n0_ n1_ n2_; (try clear hb); (try clear hb2); (try clear hk); (try clear hi)) | (go_at_call 81; (with_reducible refine (field_GF_in.calls g t211 t212 s0_2 t213 s0_4 s0_5 a2 t214 t215 t216 t217 w0 _ ?side1 ?side2 A5.out).mono ?_); (case side1 => repeat (first | (with_reducible first | exact HI0.out | apply IsS93.alloc | apply IsS93.drewN | apply IsS93.drew | apply IsS93.set_0 | apply IsS93.set_1 | apply IsS93.set_3) | exact HI0.out)); (case side2 => repeat (first | (with_reducible first | exact HB.out | apply below_alloc | apply pw_below_drewN | apply below_drew1 | refine below_set ?_ (IsS93.ge HI0.out)) | exact HB.out)); rintro e w11 ⟨rfl, hi, hb, hk⟩; have n0_ := Aside0.mk (KeepBut.trans (by repeat (first | (with_reducible first | exact HK.out | apply KeepBut.set_ | apply keep_drewN | apply keep_drew | apply keep_alloc) | exact HK.out)) hk (.inl rfl)); have n1_ := Aside0.mk (hb); have n2_ := Aside0.mk (hi); clear HK; clear HB; clear HI0; have HK := n0_; have HB := n1_; have HI0 := n2_; clear n0_ n1_ n2_; (try clear hb); (try clear hb2); (try clear hk); (try clear hi))); try go_wp2_with (first | (go_at_call 81; (with_reducible refine (field_GF_in.calls g s0_0 s0_1 s0_2 s0_3 s0_4 s0_5 a1 t210 t211 t212 t213 w0 _ ?side1 ?side2 A4.out).mono ?_); (case side1 => repeat (first | (with_reducible first | exact HI0.out | apply IsS93.alloc | apply IsS93.drewN | apply IsS93.drew | apply IsS93.set_0 | apply IsS93.set_1 | apply IsS93.set_3) | exact HI0.out)); (case side2 => repeat (first | (with_reducible first | exact HB.out | apply below_alloc | apply pw_below_drewN | apply below_drew1 | refine below_set ?_ (IsS93.ge HI0.out)) | exact HB.out)); rintro e w10 ⟨rfl, hi, hb, hk⟩; have n0_ := Aside0.mk (KeepBut.trans (by repeat (first | (with_reducible first | exact HK.out | apply KeepBut.set_ | apply keep_drewN | apply keep_drew | apply keep_alloc) | exact HK.out)) hk (.inl rfl)); have n1_ := Aside0.mk (hb); have n2_ := Aside0.mk (hi); clear HK; clear HB; clear HI0; have HK := n0_; have HB := n1_; have HI0 := n2_; clear n0_ n1_ n2_; (try clear hb); (try clear hb2); (try clear hk); (try clear hi)) | (go_at_call 81; (with_reducible refine (field_GF_in.calls g t211 t212 s0_2 t213 s0_4 s0_5 a2 t214 t215 t216 t217 w0 _ ?side1 ?side2 A5.out).mono ?_); (case side1 => repeat (first | (with_reducible first | exact HI0.out | apply IsS93.alloc | apply IsS93.drewN | apply IsS93.drew | apply IsS93.set_0 | apply IsS93.set_1 | apply IsS93.set_3) | exact HI0.out)); (case side2 => repeat (first | (with_reducible first | exact HB.out | apply below_alloc | apply pw_below_drewN | apply below_drew1 | refine below_set ?_ (IsS93.ge HI0.out)) | exact HB.out)); rintro e w11 ⟨rfl, hi, hb, hk⟩; have n0_ := Aside0.mk (KeepBut.trans (by repeat (first | (with_reducible first | exact HK.out | apply KeepBut.set_ | apply keep_drewN | apply keep_drew | apply keep_alloc) | exact HK.out)) hk (.inl rfl)); have n1_ := Aside0.mk (hb); have n2_ := Aside0.mk (hi); clear HK; clear HB; clear HI0; have HK := n0_; have HB := n1_; have HI0 := n2_; clear n0_ n1_ n2_; (try clear hb); (try clear hb2); (try clear hk); (try clear hi))))
   go_ret
   exact ⟨by rfl, by exact HI0.out, by exact HB.out, by exact HK.out⟩
  ·rw [if_neg c9] at H
   have c9b0 : (t214 == 0) = false := beq_eq_false_iff_ne.mpr c9
   have c9b1 : (t214 != 0) = true := bne_iff_ne.mpr c9
   by_cases c12 : 0 ≤ t210
   ·rw [if_pos c12] at H
    have c12b0 : decide (0 ≤ t210) = true := decide_eq_true c12
    clear c12
    by_cases c13 : t210 < (s0_5.length : Int)
    ·rw [if_pos c13] at H
     have c13b0 : decide (t210 < (s0_5.length : Int)) = true := decide_eq_true c13
     clear c13
     by_cases c14 : 0 ≤ t214
     ·rw [if_pos c14] at H
      have c14b0 : decide (0 ≤ t214) = true := decide_eq_true c14
      clear c14
      by_cases c15 : t214 < (s0_5.length : Int)
      ·rw [if_pos c15] at H
       have c15b0 : decide (t214 < (s0_5.length : Int)) = true := decide_eq_true c15
       clear c15
       by_cases c16 : (wrap64 (t217 - 1)) = 0
       ·rw [if_pos c16] at H
        exact absurd H (by simp)
       ·rw [if_neg c16] at H
        have c16b0 : ((wrap64 (t217 - 1)) == 0) = false := beq_eq_false_iff_ne.mpr c16
        have c16b1 : ((wrap64 (t217 - 1)) != 0) = true := bne_iff_ne.mpr c16
        obtain ⟨ji17, hji17⟩ : ∃ j_ : Int, (Int.tmod (wrap64 ((rd s0_5 t210) + (rd s0_5 t214))) (wrap64 (t217 - 1))) = j_ := ⟨_, rfl⟩
        replace H : (if 0 ≤ (ji17) then (if (ji17) < (s0_4.length : Int) then (some (rd s0_4 (ji17), t215, t216, t217)) else (none)) else (none)) = some (r1, r2, r3, r4) := by (rw [hji17] at H; exact H)
        by_cases c18 : 0 ≤ (ji17)
        ·rw [if_pos c18] at H
         have c18b0 : decide (0 ≤ (ji17)) = true := decide_eq_true c18
         clear c18
         by_cases c19 : (ji17) < (s0_4.length : Int)
         ·rw [if_pos c19] at H
          have c19b0 : decide ((ji17) < (s0_4.length : Int)) = true := decide_eq_true c19
          clear c19
          simp only [Option.some.injEq, Prod.mk.injEq] at H
          obtain ⟨rfl, rfl, rfl, rfl⟩ := H
          go_enter Try.func54, Try.ntmps54
          go_wp2_with (first | (go_at_call 81; (with_reducible refine (field_GF_in.calls g s0_0 s0_1 s0_2 s0_3 s0_4 s0_5 a1 t210 t211 t212 t213 w0 _ ?side1 ?side2 A4.out).mono ?_); (case side1 => repeat ((with_reducible (exact HI0.out)))); (case side2 => repeat ((with_reducible (exact HB.out)))); rintro e w20 ⟨rfl, hi, hb, hk⟩; have n0_ := Aside0.mk (KeepBut.trans HK.out hk (.inl rfl)); have n1_ := Aside0.mk (hb); have n2_ := Aside0.mk (hi); clear HK; clear HB; clear HI0; have HK := n0_; have HB := n1_; have HI0 := n2_; clear n0_ n1_ n2_; ((clear hb)); (skip); ((clear hk)); ((clear hi))) | (go_at_call 81; (with_reducible refine (field_GF_in.calls g t211 t212 s0_2 t213 s0_4 s0_5 a2 t214 t215 t216 t217 w0 _ ?side1 ?side2 A5.out).mono ?_); (case side1 => repeat ((with_reducible (exact HI0.out)))); (case side2 => repeat ((with_reducible (exact HB.out)))); rintro e w21 ⟨rfl, hi, hb, hk⟩; have n0_ := Aside0.mk (KeepBut.trans HK.out hk (.inl rfl)); have n1_ := Aside0.mk (hb); have n2_ := Aside0.mk (hi); clear HK; clear HB; clear HI0; have HK := n0_; have HB := n1_; have HI0 := n2_; clear n0_ n1_ n2_; ((clear hb)); (skip); ((clear hk)); ((clear hi)); obtain ⟨ASz22_2, cSz22_2, ASz22_4, cSz22_4, ASz22_5, cSz22_5, HGz22, hgz22, HSz22_2, HSz22_4, HSz22_5⟩ := HI0.out; have hcz22_0 := cellS93_0 HGz22; have hcz22_1 := cellS93_1 HGz22; have hcz22_2 := cellS93_2 HGz22; have hcz22_3 := cellS93_3 HGz22; have hcz22_4 := cellS93_4 HGz22; have hcz22_5 := cellS93_5 HGz22; have hfz22_0 := blk_frozen HGz22 0; have hfz22_1 := blk_frozen HGz22 1; have hfz22_3 := blk_frozen HGz22 3; clear HGz22 hgz22; have p218 : 0 ≤ (t210 : Int) := of_decide_eq_true (by (with_reducible assumption)); have q218 : t210 < (s0_5.length : Int) := of_decide_eq_true (by (with_reducible assumption)); obtain ⟨ad218, e218, hx218_0⟩ := Kd.at_int HSz22_5 t210 p218 q218; cases e218; replace hx218_0 := pw_cell_below HB.out hx218_0; replace p218 := eq_true p218; replace q218 := eq_true q218; have p219 : 0 ≤ (t214 : Int) := of_decide_eq_true (by (with_reducible assumption)); have q219 : t214 < (s0_5.length : Int) := of_decide_eq_true (by (with_reducible assumption)); obtain ⟨ad219, e219, hx219_0⟩ := Kd.at_int HSz22_5 t214 p219 q219; obtain rfl : ad218 = ad219 := (by injection e219); replace hx219_0 := pw_cell_below HB.out hx219_0; replace p219 := eq_true p219; replace q219 := eq_true q219; have p220 : 0 ≤ ((ji17) : Int) := of_decide_eq_true (by (with_reducible assumption)); have q220 : (ji17) < (s0_4.length : Int) := of_decide_eq_true (by (with_reducible assumption)); obtain ⟨ad220, e220, hx220_0⟩ := Kd.at_int HSz22_4 (ji17) p220 q220; cases e220; replace hx220_0 := pw_cell_below HB.out hx220_0; replace p220 := eq_true p220; replace q220 := eq_true q220))
          repeat (go_quiet (first | (go_at_call 81; (with_reducible refine (field_GF_in.calls g s0_0 s0_1 s0_2 s0_3 s0_4 s0_5 a1 t210 t211 t212 t213 w0 _ ?side1 ?side2 A4.out).mono ?_); (case side1 => repeat (first | (with_reducible first | exact HI0.out | apply IsS93.alloc | apply IsS93.drewN | apply IsS93.drew | apply IsS93.set_0 | apply IsS93.set_1 | apply IsS93.set_3) | exact HI0.out)); (case side2 => repeat (first | (with_reducible first | exact HB.out | apply below_alloc | apply pw_below_drewN | apply below_drew1 | refine below_set ?_ (IsS93.ge HI0.out)) | exact HB.out)); rintro e w20 ⟨rfl, hi, hb, hk⟩; have n0_ := Aside0.mk (KeepBut.trans (by repeat (first | (with_reducible first | exact HK.out | apply KeepBut.set_ | apply keep_drewN | apply keep_drew | apply keep_alloc) | exact HK.out)) hk (.inl rfl)); have n1_ := Aside0.mk (hb); have n2_ := Aside0.mk (hi); clear HK; clear HB; clear HI0; have HK := n0_; have HB := n1_; have HI0 := n2_; clear n0_ n1_ n2_; (try clear hb); (try clear hb2); (try clear hk); (try clear hi)) | (go_at_call 81; (with_reducible refine (field_GF_in.calls g t211 t212 s0_2 t213 s0_4 s0_5 a2 t214 t215 t216 t217 w0 _ ?side1 ?side2 A5.out).mono ?_); (case side1 => repeat (first | (with_reducible first | exact HI0.out | apply IsS93.alloc | apply IsS93.drewN | apply IsS93.drew | apply IsS93.set_0 | apply IsS93.set_1 | apply IsS93.set_3) | exact HI0.out)); (case side2 => repeat (first | (with_reducible first | exact HB.out | apply below_alloc | apply pw_below_drewN | apply below_drew1 | refine below_set ?_ (IsS93.ge HI0.out)) | exact HB.out)); rintro e w21 ⟨rfl, hi, hb, hk⟩; have n0_ := Aside0.mk (KeepBut.trans (by repeat (first | (with_reducible first | exact HK.out | apply KeepBut.set_ | apply keep_drewN | apply keep_drew | apply keep_alloc) | exact HK.out)) hk (.inl rfl)); have n1_ := Aside0.mk (hb); have n2_ := Aside0.mk (hi); clear HK; clear HB; clear HI0; have HK := n0_; have HB := n1_; have HI0 := n2_; clear n0_ n1_ n2_; (try clear hb); (try clear hb2); (try clear hk); (try clear hi); obtain ⟨ASz22_2, cSz22_2, ASz22_4, cSz22_4, ASz22_5, cSz22_5, HGz22, hgz22, HSz22_2, HSz22_4, HSz22_5⟩ := HI0.out; have hcz22_0 := cellS93_0 HGz22; have hcz22_1 := cellS93_1 HGz22; have hcz22_2 := cellS93_2 HGz22; have hcz22_3 := cellS93_3 HGz22; have hcz22_4 := cellS93_4 HGz22; have hcz22_5 := cellS93_5 HGz22; have hfz22_0 := blk_frozen HGz22 0; have hfz22_1 := blk_frozen HGz22 1; have hfz22_3 := blk_frozen HGz22 3; clear HGz22 hgz22; have p218 : 0 ≤ (t210 : Int) := of_decide_eq_true (by first | (with_reducible assumption) | assumption); have q218 : t210 < (s0_5.length : Int) := of_decide_eq_true (by first | (with_reducible assumption) | assumption); obtain ⟨ad218, e218, hx218_0⟩ := Kd.at_int HSz22_5 t210 p218 q218; cases e218; replace hx218_0 := pw_cell_below HB.out hx218_0; replace p218 := eq_true p218; replace q218 := eq_true q218; have p219 : 0 ≤ (t214 : Int) := of_decide_eq_true (by first | (with_reducible assumption) | assumption); have q219 : t214 < (s0_5.length : Int) := of_decide_eq_true (by first | (with_reducible assumption) | assumption); obtain ⟨ad219, e219, hx219_0⟩ := Kd.at_int HSz22_5 t214 p219 q219; obtain rfl : ad218 = ad219 := (by injection e219); replace hx219_0 := pw_cell_below HB.out hx219_0; replace p219 := eq_true p219; replace q219 := eq_true q219; have p220 : 0 ≤ ((ji17) : Int) := of_decide_eq_true (by first | (with_reducible assumption) | assumption); have q220 : (ji17) < (s0_4.length : Int) := of_decide_eq_true (by first | (with_reducible assumption) | assumption); obtain ⟨ad220, e220, hx220_0⟩ := Kd.at_int HSz22_4 (ji17) p220 q220; cases e220; replace hx220_0 := pw_cell_below HB.out hx220_0; replace p220 := eq_true p220; replace q220 := eq_true q220)); (go_wp2_with (fail)))
          go_ret
          exact ⟨by rfl, by repeat ((with_reducible first | (exact HI0.out) | (apply IsS93.drewN))), by repeat ((with_reducible first | (exact HB.out) | (apply pw_below_drewN))), by repeat ((with_reducible first | (exact HK.out) | (apply keep_drewN)))⟩
         ·rw [if_neg c19] at H
          exact absurd H (by simp)
        ·rw [if_neg c18] at H
         exact absurd H (by simp)
      ·rw [if_neg c15] at H
       exact absurd H (by simp)
     ·rw [if_neg c14] at H
      exact absurd H (by simp)
    ·rw [if_neg c13] at H
     exact absurd H (by simp)
   ·rw [if_neg c12] at H
    exact absurd H (by simp)
def field_GF_Add.l0 : Nat → Int → Int → Int → Int → Int → Int → List Int → Int → List Int → List Int → Option (Int × Int × Int × Int)
 | 0, _, _, _, _, _, _, _, _, _, _ => none
 | k + 1, x1, x2, x7, x8, x1000, x1001, x1002, x1003, x1004, x1005 => if x1 > 0 then (if x1000 = 0 then (none) else (field_GF_Add.l0 k (wrap64 (Int.tdiv x1 x1000)) (wrap64 (Int.tdiv x2 x1000)) (wrap64 (x7 + (wrap64 ((Int.tmod (wrap64 ((Int.tmod x1 x1000) + (Int.tmod x2 x1000))) x1000) * x8)))) (wrap64 (x8 * x1000)) x1000 x1001 x1002 x1003 x1004 x1005)) else (if x2 > 0 then (if x1000 = 0 then (none) else (field_GF_Add.l0 k (wrap64 (Int.tdiv x1 x1000)) (wrap64 (Int.tdiv x2 x1000)) (wrap64 (x7 + (wrap64 ((Int.tmod (wrap64 ((Int.tmod x1 x1000) + (Int.tmod x2 x1000))) x1000) * x8)))) (wrap64 (x8 * x1000)) x1000 x1001 x1002 x1003 x1004 x1005)) else (some (x7, x1000, x1001, x1003)))
def field_GF_Add.f (k : Nat) (s0_0 : Int) (s0_1 : Int) (s0_2 : List Int) (s0_3 : Int) (s0_4 : List Int) (s0_5 : List Int) (a1 : Int) (a2 : Int) : Option (Int × Int × Int × Int) := (field_GF_in.f s0_0 s0_1 s0_2 s0_3 s0_4 s0_5 a1).bind fun bt221 => ((field_GF_in.f bt221.2.1 bt221.2.2.1 s0_2 bt221.2.2.2 s0_4 s0_5 a2).bind fun bt225 => (if bt225.2.1 = 2 then (some (Go.bits .xor .i64 bt221.1 bt225.1, bt225.2.1, bt225.2.2.1, bt225.2.2.2)) else (field_GF_Add.l0 k bt221.1 bt225.1 0 1 bt225.2.1 bt225.2.2.1 s0_2 bt225.2.2.2 s0_4 s0_5)))
set_option maxHeartbeats 8000000 in
set_option maxRecDepth 100000 in
theorem field_GF_Add.calls (k : Nat) (g : Nat) (s0_0 : Int) (s0_1 : Int) (s0_2 : List Int) (s0_3 : Int) (s0_4 : List Int) (s0_5 : List Int) (a1 : Int) (a2 : Int) (r1 : Int) (r2 : Int) (r3 : Int) (r4 : Int) (w0 w : World) (hI : IsS93 w0 w g s0_0 s0_1 s0_2 s0_3 s0_4 s0_5) (hB : Below w0.heap.size w0 w) (h : field_GF_Add.f k s0_0 s0_1 s0_2 s0_3 s0_4 s0_5 a1 a2 = some (r1, r2, r3, r4)) :
  Calls Try.prog 53 #[.pointer (some ⟨g, 0, none⟩), .int .i64 a1, .int .i64 a2] w fun e w' => e = .returned (.int .i64 r1) ∧ IsS93 w0 w' g r2 r3 s0_2 r4 s0_4 s0_5 ∧ Below w0.heap.size w0 w' ∧ KeepBut w w' g none := by
 have HI0 := Aside0.mk hI
 have HK := Aside0.mk (KeepBut.refl w g none)
 have HL := Aside0.mk hB.size
 clear hI
 have HW0 := Aside0.mk hB.size
 have HB := Aside0.mk hB
 clear hB
 have H : ((field_GF_in.f s0_0 s0_1 s0_2 s0_3 s0_4 s0_5 a1).bind fun bt221 => ((field_GF_in.f bt221.2.1 bt221.2.2.1 s0_2 bt221.2.2.2 s0_4 s0_5 a2).bind fun bt225 => (if bt225.2.1 = 2 then (some (Go.bits .xor .i64 bt221.1 bt225.1, bt225.2.1, bt225.2.2.1, bt225.2.2.2)) else (field_GF_Add.l0 k bt221.1 bt225.1 0 1 bt225.2.1 bt225.2.2.1 s0_2 bt225.2.2.2 s0_4 s0_5)))) = some (r1, r2, r3, r4) := h
 clear h
 replace H := Option.bind_eq_some_iff.mp H
 obtain ⟨⟨t221, t222, t223, t224⟩, A40, H⟩ := H
 replace H : ((field_GF_in.f t222 t223 s0_2 t224 s0_4 s0_5 a2).bind fun bt225 => (if bt225.2.1 = 2 then (some (Go.bits .xor .i64 t221 bt225.1, bt225.2.1, bt225.2.2.1, bt225.2.2.2)) else (field_GF_Add.l0 k t221 bt225.1 0 1 bt225.2.1 bt225.2.2.1 s0_2 bt225.2.2.2 s0_4 s0_5))) = some (r1, r2, r3, r4) := H
 have A4 := Aside0.mk A40
 clear A40
 replace H := Option.bind_eq_some_iff.mp H
 obtain ⟨⟨t225, t226, t227, t228⟩, A50, H⟩ := H
 replace H : (if t226 = 2 then (some (Go.bits .xor .i64 t221 t225, t226, t227, t228)) else (field_GF_Add.l0 k t221 t225 0 1 t226 t227 s0_2 t228 s0_4 s0_5)) = some (r1, r2, r3, r4) := H
 have A5 := Aside0.mk A50
 clear A50
 by_cases c6 : t226 = 2
 ·rw [if_pos c6] at H
  have c6b0 : (t226 == 2) = true := beq_iff_eq.mpr c6
  have c6b1 : (t226 != 2) = false := bne_eq_false_iff_eq.mpr c6
  clear c6
  simp only [Option.some.injEq, Prod.mk.injEq] at H
  obtain ⟨rfl, rfl, rfl, rfl⟩ := H
  go_enter Try.func53, Try.ntmps53
  go_wp2_with (first | (go_at_call 81; (with_reducible refine (field_GF_in.calls g s0_0 s0_1 s0_2 s0_3 s0_4 s0_5 a1 t221 t222 t223 t224 w0 _ ?side1 ?side2 A4.out).mono ?_); (case side1 => repeat ((with_reducible (exact HI0.out)))); (case side2 => repeat ((with_reducible (exact HB.out)))); rintro e w7 ⟨rfl, hi, hb, hk⟩; have n0_ := Aside0.mk (KeepBut.trans HK.out hk (.inl rfl)); have n1_ := Aside0.mk (hb); have n2_ := Aside0.mk (hi); clear HK; clear HB; clear HI0; have HK := n0_; have HB := n1_; have HI0 := n2_; clear n0_ n1_ n2_; ((clear hb)); (skip); ((clear hk)); ((clear hi))) | (go_at_call 81; (with_reducible refine (field_GF_in.calls g t222 t223 s0_2 t224 s0_4 s0_5 a2 t225 t226 t227 t228 w0 _ ?side1 ?side2 A5.out).mono ?_); (case side1 => repeat ((with_reducible (exact HI0.out)))); (case side2 => repeat ((with_reducible (exact HB.out)))); rintro e w8 ⟨rfl, hi, hb, hk⟩; have n0_ := Aside0.mk (KeepBut.trans HK.out hk (.inl rfl)); have n1_ := Aside0.mk (hb); have n2_ := Aside0.mk (hi); clear HK; clear HB; clear HI0; have HK := n0_; have HB := n1_; have HI0 := n2_; clear n0_ n1_ n2_; ((clear hb)); (skip); ((clear hk)); ((clear hi)); obtain ⟨ASz9_2, cSz9_2, ASz9_4, cSz9_4, ASz9_5, cSz9_5, HGz9, hgz9, HSz9_2, HSz9_4, HSz9_5⟩ := HI0.out; have hcz9_0 := cellS93_0 HGz9; have hcz9_1 := cellS93_1 HGz9; have hcz9_2 := cellS93_2 HGz9; have hcz9_3 := cellS93_3 HGz9; have hcz9_4 := cellS93_4 HGz9; have hcz9_5 := cellS93_5 HGz9; have hfz9_0 := blk_frozen HGz9 0; have hfz9_1 := blk_frozen HGz9 1; have hfz9_3 := blk_frozen HGz9 3; clear HGz9 hgz9))
  repeat (go_quiet (first | (go_at_call 81; (with_reducible refine (field_GF_in.calls g s0_0 s0_1 s0_2 s0_3 s0_4 s0_5 a1 t221 t222 t223 t224 w0 _ ?side1 ?side2 A4.out).mono ?_); (case side1 => repeat (first | (with_reducible first | exact HI0.out | apply IsS93.alloc | apply IsS93.drewN | apply IsS93.drew | apply IsS93.set_0 | apply IsS93.set_1 | apply IsS93.set_3) | exact HI0.out)); (case side2 => repeat (first | (with_reducible first | exact HB.out | apply below_alloc | apply pw_below_drewN | apply below_drew1 | refine below_set ?_ (IsS93.ge HI0.out)) | exact HB.out)); rintro e w7 ⟨rfl, hi, hb, hk⟩; have n0_ := Aside0.mk (KeepBut.trans (by repeat (first | (with_reducible first | exact HK.out | apply KeepBut.set_ | apply keep_drewN | apply keep_drew | apply keep_alloc) | exact HK.out)) hk (.inl rfl)); have n1_ := Aside0.mk (hb); have n2_ := Aside0.mk (hi); clear HK; clear HB; clear HI0; have HK := n0_; have HB := n1_; have HI0 := n2_; clear n0_ n1_ n2_; (try clear hb); (try clear hb2); (try clear hk); (try clear hi)) | (go_at_call 81; (with_reducible refine (field_GF_in.calls g t222 t223 s0_2 t224 s0_4 s0_5 a2 t225 t226 t227 t228 w0 _ ?side1 ?side2 A5.out).mono ?_); (case side1 => repeat (first | (with_reducible first | exact HI0.out | apply IsS93.alloc | apply IsS93.drewN | apply IsS93.drew | apply IsS93.set_0 | apply IsS93.set_1 | apply IsS93.set_3) | exact HI0.out)); (case side2 => repeat (first | (with_reducible first | exact HB.out | apply below_alloc | apply pw_below_drewN | apply below_drew1 | refine below_set ?_ (IsS93.ge HI0.out)) | exact HB.out)); rintro e w8 ⟨rfl, hi, hb, hk⟩; have n0_ := Aside0.mk (KeepBut.trans (by repeat (first | (with_reducible first | exact HK.out | apply KeepBut.set_ | apply keep_drewN | apply keep_drew | apply keep_alloc) | exact HK.out)) hk (.inl rfl)); have n1_ := Aside0.mk (hb); have n2_ := Aside0.mk (hi); clear HK; clear HB; clear HI0; have HK := n0_; have HB := n1_; have HI0 := n2_; clear n0_ n1_ n2_; (try clear hb); (try clear hb2); (try clear hk); (try clear hi); obtain ⟨ASz9_2, cSz9_2, ASz9_4, cSz9_4, ASz9_5, cSz9_5, HGz9, hgz9, HSz9_2, HSz9_4, HSz9_5⟩ := HI0.out; have hcz9_0 := cellS93_0 HGz9; have hcz9_1 := cellS93_1 HGz9; have hcz9_2 := cellS93_2 HGz9; have hcz9_3 := cellS93_3 HGz9; have hcz9_4 := cellS93_4 HGz9; have hcz9_5 := cellS93_5 HGz9; have hfz9_0 := blk_frozen HGz9 0; have hfz9_1 := blk_frozen HGz9 1; have hfz9_3 := blk_frozen HGz9 3; clear HGz9 hgz9)); try go_wp2_with (first | (go_at_call 81; (with_reducible refine (field_GF_in.calls g s0_0 s0_1 s0_2 s0_3 s0_4 s0_5 a1 t221 t222 t223 t224 w0 _ ?side1 ?side2 A4.out).mono ?_); (case side1 => repeat (first | (with_reducible first | exact HI0.out | apply IsS93.alloc | apply IsS93.drewN | apply IsS93.drew | apply IsS93.set_0 | apply IsS93.set_1 | apply IsS93.set_3) | exact HI0.out)); (case side2 => repeat (first | (with_reducible first | exact HB.out | apply below_alloc | apply pw_below_drewN | apply below_drew1 | refine below_set ?_ (IsS93.ge HI0.out)) | exact HB.out)); rintro e w7 ⟨rfl, hi, hb, hk⟩; have n0_ := Aside0.mk (KeepBut.trans (by repeat (first | (with_reducible first | exact HK.out | apply KeepBut.set_ | apply keep_drewN | apply keep_drew | apply keep_alloc) | exact HK.out)) hk (.inl rfl)); have n1_ := Aside0.mk (hb); have n2_ := Aside0.mk (hi); clear HK; clear HB; clear HI0; have HK := n0_; have HB := n1_; have HI0 := n2_; clear n0_ n1_ n2_; (try clear hb); (try clear hb2); (try clear hk); (try clear hi)) | (go_at_call 81; (with_reducible refine (field_GF_in.calls g t222 t223 s0_2 t224 s0_4 s0_5 a2 t225 t226 t227 t228 w0 _ ?side1 ?side2 A5.out).mono ?_); (case side1 => repeat (first | (with_reducible first | exact HI0.out | apply IsS93.alloc | apply IsS93.drewN | apply IsS93.drew | apply IsS93.set_0 | apply IsS93.set_1 | apply IsS93.set_3) | exact HI0.out)); (case side2 => repeat (first | (with_reducible first | exact HB.out | apply below_alloc | apply pw_below_drewN | apply below_drew1 | refine below_set ?_ (IsS93.ge HI0.out)) | exact HB.out)); rintro e w8 ⟨rfl, hi, hb, hk⟩; have n0_ := Aside0.mk (KeepBut.trans (by repeat (first | (with_reducible first | exact HK.out | apply KeepBut.set_ | apply keep_drewN | apply keep_drew | apply keep_alloc) | exact HK.out)) hk (.inl rfl)); have n1_ := Aside0.mk (hb); have n2_ := Aside0.mk (hi); clear HK; clear HB; clear HI0; have HK := n0_; have HB := n1_; have HI0 := n2_; clear n0_ n1_ n2_; (try clear hb); (try clear hb2); (try clear hk); (try clear hi); obtain ⟨ASz9_2, cSz9_2, ASz9_4, cSz9_4, ASz9_5, cSz9_5, HGz9, hgz9, HSz9_2, HSz9_4, HSz9_5⟩ := HI0.out; have hcz9_0 := cellS93_0 HGz9; have hcz9_1 := cellS93_1 HGz9; have hcz9_2 := cellS93_2 HGz9; have hcz9_3 := cellS93_3 HGz9; have hcz9_4 := cellS93_4 HGz9; have hcz9_5 := cellS93_5 HGz9; have hfz9_0 := blk_frozen HGz9 0; have hfz9_1 := blk_frozen HGz9 1; have hfz9_3 := blk_frozen HGz9 3; clear HGz9 hgz9)))
  go_ret
  exact ⟨by rfl, by exact HI0.out, by exact HB.out, by exact HK.out⟩
 ·rw [if_neg c6] at H
  have c6b0 : (t226 == 2) = false := beq_eq_false_iff_ne.mpr c6
  have c6b1 : (t226 != 2) = true := bne_iff_ne.mpr c6
  have H' := Aside0.mk H
  clear H
  go_enter Try.func53, Try.ntmps53
  go_wp2_with (first | (go_at_call 81; (with_reducible refine (field_GF_in.calls g s0_0 s0_1 s0_2 s0_3 s0_4 s0_5 a1 t221 t222 t223 t224 w0 _ ?side1 ?side2 A4.out).mono ?_); (case side1 => repeat ((with_reducible (exact HI0.out)))); (case side2 => repeat ((with_reducible (exact HB.out)))); rintro e w10 ⟨rfl, hi, hb, hk⟩; have n0_ := Aside0.mk (KeepBut.trans HK.out hk (.inl rfl)); have n1_ := Aside0.mk (hb); have n2_ := Aside0.mk (hi); clear HK; clear HB; clear HI0; have HK := n0_; have HB := n1_; have HI0 := n2_; clear n0_ n1_ n2_; ((clear hb)); (skip); ((clear hk)); ((clear hi))) | (go_at_call 81; (with_reducible refine (field_GF_in.calls g t222 t223 s0_2 t224 s0_4 s0_5 a2 t225 t226 t227 t228 w0 _ ?side1 ?side2 A5.out).mono ?_); (case side1 => repeat ((with_reducible (exact HI0.out)))); (case side2 => repeat ((with_reducible (exact HB.out)))); rintro e w11 ⟨rfl, hi, hb, hk⟩; have n0_ := Aside0.mk (KeepBut.trans HK.out hk (.inl rfl)); have n1_ := Aside0.mk (hb); have n2_ := Aside0.mk (hi); clear HK; clear HB; clear HI0; have HK := n0_; have HB := n1_; have HI0 := n2_; clear n0_ n1_ n2_; ((clear hb)); (skip); ((clear hk)); ((clear hi)); obtain ⟨ASz12_2, cSz12_2, ASz12_4, cSz12_4, ASz12_5, cSz12_5, HGz12, hgz12, HSz12_2, HSz12_4, HSz12_5⟩ := HI0.out; have hcz12_0 := cellS93_0 HGz12; have hcz12_1 := cellS93_1 HGz12; have hcz12_2 := cellS93_2 HGz12; have hcz12_3 := cellS93_3 HGz12; have hcz12_4 := cellS93_4 HGz12; have hcz12_5 := cellS93_5 HGz12; have hfz12_0 := blk_frozen HGz12 0; have hfz12_1 := blk_frozen HGz12 1; have hfz12_3 := blk_frozen HGz12 3; clear HGz12 hgz12))
  repeat (go_quiet (first | (go_at_call 81; (with_reducible refine (field_GF_in.calls g s0_0 s0_1 s0_2 s0_3 s0_4 s0_5 a1 t221 t222 t223 t224 w0 _ ?side1 ?side2 A4.out).mono ?_); (case side1 => repeat (first | (with_reducible first | exact HI0.out | apply IsS93.alloc | apply IsS93.drewN | apply IsS93.drew | apply IsS93.set_0 | apply IsS93.set_1 | apply IsS93.set_3) | exact HI0.out)); (case side2 => repeat (first | (with_reducible first | exact HB.out | apply below_alloc | apply pw_below_drewN | apply below_drew1 | refine below_set ?_ (IsS93.ge HI0.out)) | exact HB.out)); rintro e w10 ⟨rfl, hi, hb, hk⟩; have n0_ := Aside0.mk (KeepBut.trans (by repeat (first | (with_reducible first | exact HK.out | apply KeepBut.set_ | apply keep_drewN | apply keep_drew | apply keep_alloc) | exact HK.out)) hk (.inl rfl)); have n1_ := Aside0.mk (hb); have n2_ := Aside0.mk (hi); clear HK; clear HB; clear HI0; have HK := n0_; have HB := n1_; have HI0 := n2_; clear n0_ n1_ n2_; (try clear hb); (try clear hb2); (try clear hk); (try clear hi)) | (go_at_call 81; (with_reducible refine (field_GF_in.calls g t222 t223 s0_2 t224 s0_4 s0_5 a2 t225 t226 t227 t228 w0 _ ?side1 ?side2 A5.out).mono ?_); (case side1 => repeat (first | (with_reducible first | exact HI0.out | apply IsS93.alloc | apply IsS93.drewN | apply IsS93.drew | apply IsS93.set_0 | apply IsS93.set_1 | apply IsS93.set_3) | exact HI0.out)); (case side2 => repeat (first | (with_reducible first | exact HB.out | apply below_alloc | apply pw_below_drewN | apply below_drew1 | refine below_set ?_ (IsS93.ge HI0.out)) | exact HB.out)); rintro e w11 ⟨rfl, hi, hb, hk⟩; have n0_ := Aside0.mk (KeepBut.trans (by repeat (first | (with_reducible first | exact HK.out | apply KeepBut.set_ | apply keep_drewN | apply keep_drew | apply keep_alloc) | exact HK.out)) hk (.inl rfl)); have n1_ := Aside0.mk (hb); have n2_ := Aside0.mk (hi); clear HK; clear HB; clear HI0; have HK := n0_; have HB := n1_; have HI0 := n2_; clear n0_ n1_ n2_; (try clear hb); (try clear hb2); (try clear hk); (try clear hi); obtain ⟨ASz12_2, cSz12_2, ASz12_4, cSz12_4, ASz12_5, cSz12_5, HGz12, hgz12, HSz12_2, HSz12_4, HSz12_5⟩ := HI0.out; have hcz12_0 := cellS93_0 HGz12; have hcz12_1 := cellS93_1 HGz12; have hcz12_2 := cellS93_2 HGz12; have hcz12_3 := cellS93_3 HGz12; have hcz12_4 := cellS93_4 HGz12; have hcz12_5 := cellS93_5 HGz12; have hfz12_0 := blk_frozen HGz12 0; have hfz12_1 := blk_frozen HGz12 1; have hfz12_3 := blk_frozen HGz12 3; clear HGz12 hgz12)); try go_wp2_with (first | (go_at_call 81; (with_reducible refine (field_GF_in.calls g s0_0 s0_1 s0_2 s0_3 s0_4 s0_5 a1 t221 t222 t223 t224 w0 _ ?side1 ?side2 A4.out).mono ?_); (case side1 => repeat (first | (with_reducible first | exact HI0.out | apply IsS93.alloc | apply IsS93.drewN | apply IsS93.drew | apply IsS93.set_0 | apply IsS93.set_1 | apply IsS93.set_3) | exact HI0.out)); (case side2 => repeat (first | (with_reducible first | exact HB.out | apply below_alloc | apply pw_below_drewN | apply below_drew1 | refine below_set ?_ (IsS93.ge HI0.out)) | exact HB.out)); rintro e w10 ⟨rfl, hi, hb, hk⟩; have n0_ := Aside0.mk (KeepBut.trans (by repeat (first | (with_reducible first | exact HK.out | apply KeepBut.set_ | apply keep_drewN | apply keep_drew | apply keep_alloc) | exact HK.out)) hk (.inl rfl)); have n1_ := Aside0.mk (hb); have n2_ := Aside0.mk (hi); clear HK; clear HB; clear HI0; have HK := n0_; have HB := n1_; have HI0 := n2_; clear n0_ n1_ n2_; (try clear hb); (try clear hb2); (try clear hk); (try clear hi)) | (go_at_call 81; (with_reducible refine (field_GF_in.calls g t222 t223 s0_2 t224 s0_4 s0_5 a2 t225 t226 t227 t228 w0 _ ?side1 ?side2 A5.out).mono ?_); (case side1 => repeat (first | (with_reducible first | exact HI0.out | apply IsS93.alloc | apply IsS93.drewN | apply IsS93.drew | apply IsS93.set_0 | apply IsS93.set_1 | apply IsS93.set_3) | exact HI0.out)); (case side2 => repeat (first | (with_reducible first | exact HB.out | apply below_alloc | apply pw_below_drewN | apply below_drew1 | refine below_set ?_ (IsS93.ge HI0.out)) | exact HB.out)); rintro e w11 ⟨rfl, hi, hb, hk⟩; have n0_ := Aside0.mk (KeepBut.trans (by repeat (first | (with_reducible first | exact HK.out | apply KeepBut.set_ | apply keep_drewN | apply keep_drew | apply keep_alloc) | exact HK.out)) hk (.inl rfl)); have n1_ := Aside0.mk (hb); have n2_ := Aside0.mk (hi); clear HK; clear HB; clear HI0; have HK := n0_; have HB := n1_; have HI0 := n2_; clear n0_ n1_ n2_; (try clear hb); (try clear hb2); (try clear hk); (try clear hi); obtain ⟨ASz12_2, cSz12_2, ASz12_4, cSz12_4, ASz12_5, cSz12_5, HGz12, hgz12, HSz12_2, HSz12_4, HSz12_5⟩ := HI0.out; have hcz12_0 := cellS93_0 HGz12; have hcz12_1 := cellS93_1 HGz12; have hcz12_2 := cellS93_2 HGz12; have hcz12_3 := cellS93_3 HGz12; have hcz12_4 := cellS93_4 HGz12; have hcz12_5 := cellS93_5 HGz12; have hfz12_0 := blk_frozen HGz12 0; have hfz12_1 := blk_frozen HGz12 1; have hfz12_3 := blk_frozen HGz12 3; clear HGz12 hgz12)))
  go_loopg [1, 2, 7, 8] k (fun kq v1 v2 v7 v8 w' => ∃ (x1_1 : Int) (x2_1 : Int) (x7_1 : Int) (x8_1 : Int), v1 = .int .i64 x1_1 ∧ v2 = .int .i64 x2_1 ∧ v7 = .int .i64 x7_1 ∧ v8 = .int .i64 x8_1 ∧ Aside0 (field_GF_Add.l0 kq x1_1 x2_1 x7_1 x8_1 t226 t227 s0_2 t228 s0_4 s0_5 = some (r1, r2, r3, r4)) ∧ Aside0 (kq ≤ k) ∧ Aside0 (IsS93 w0 w' g t226 t227 s0_2 t228 s0_4 s0_5) ∧ Aside0 (KeepBut w w' g none) ∧ Aside0 (Below w0.heap.size w0 w'))
  case atStart => exact ⟨(t221), (t225), (0), (1), (by rfl), (by rfl), (by rfl), (by rfl), H', ⟨Nat.le_refl _⟩, ⟨HI0.out⟩, ⟨HK.out⟩, ⟨HB.out⟩⟩
  case round =>
   clear H' c6 c6b0 c6b1 hcz12_0 hcz12_1 hcz12_2 hcz12_3 hcz12_4 hcz12_5 hfz12_0 hfz12_1 hfz12_3
   obtain ⟨x1_1, x2_1, x7_1, x8_1, rfl, rfl, rfl, rfl, HA, HK1, HI0, HK, HB⟩ := hrel
   cases gk with
   | zero => exact absurd HA.out (by simp [field_GF_Add.l0])
   | succ k1 =>
    have H := HA.out
    clear HA
    simp only [field_GF_Add.l0] at H
    by_cases c13 : x1_1 > 0
    ·rw [if_pos c13] at H
     have c13b0 : decide (0 < x1_1) = true := decide_eq_true c13
     clear c13
     by_cases c14 : t226 = 0
     ·rw [if_pos c14] at H
      exact absurd H (by simp)
     ·rw [if_neg c14] at H
      have c14b0 : (t226 == 0) = false := beq_eq_false_iff_ne.mpr c14
      have c14b1 : (t226 != 0) = true := bne_iff_ne.mpr c14
      have H' := Aside0.mk H
      clear H
      obtain ⟨ASz15_2, cSz15_2, ASz15_4, cSz15_4, ASz15_5, cSz15_5, HGz15, hgz15, HSz15_2, HSz15_4, HSz15_5⟩ := HI0.out
      have hcz15_0 := cellS93_0 HGz15
      have hcz15_1 := cellS93_1 HGz15
      have hcz15_2 := cellS93_2 HGz15
      have hcz15_3 := cellS93_3 HGz15
      have hcz15_4 := cellS93_4 HGz15
      have hcz15_5 := cellS93_5 HGz15
      have hfz15_0 := blk_frozen HGz15 0
      have hfz15_1 := blk_frozen HGz15 1
      have hfz15_3 := blk_frozen HGz15 3
      clear HGz15 hgz15
      go_wp2
      repeat (go_quiet (fail); (go_wp2))
      go_roundg k1
      case measure => have := HK1.out; omega
      case rel => exact ⟨(wrap64 (Int.tdiv x1_1 t226)), (wrap64 (Int.tdiv x2_1 t226)), (wrap64 (x7_1 + (wrap64 ((Int.tmod (wrap64 ((Int.tmod x1_1 t226) + (Int.tmod x2_1 t226))) t226) * x8_1)))), (wrap64 (x8_1 * t226)), (by rfl), (by rfl), (by rfl), (by rfl), H', ⟨by have := HK1.out; omega⟩, ⟨by repeat ((with_reducible first | (exact HI0.out) | (apply IsS93.drewN)))⟩, ⟨by repeat ((with_reducible first | (exact HK.out) | (apply keep_drewN)))⟩, ⟨by repeat ((with_reducible first | (exact HB.out) | (apply pw_below_drewN)))⟩⟩
    ·rw [if_neg c13] at H
     have c13b0 : decide (0 < x1_1) = false := decide_eq_false c13
     clear c13
     by_cases c16 : x2_1 > 0
     ·rw [if_pos c16] at H
      have c16b0 : decide (0 < x2_1) = true := decide_eq_true c16
      clear c16
      by_cases c17 : t226 = 0
      ·rw [if_pos c17] at H
       exact absurd H (by simp)
      ·rw [if_neg c17] at H
       have c17b0 : (t226 == 0) = false := beq_eq_false_iff_ne.mpr c17
       have c17b1 : (t226 != 0) = true := bne_iff_ne.mpr c17
       have H' := Aside0.mk H
       clear H
       obtain ⟨ASz18_2, cSz18_2, ASz18_4, cSz18_4, ASz18_5, cSz18_5, HGz18, hgz18, HSz18_2, HSz18_4, HSz18_5⟩ := HI0.out
       have hcz18_0 := cellS93_0 HGz18
       have hcz18_1 := cellS93_1 HGz18
       have hcz18_2 := cellS93_2 HGz18
       have hcz18_3 := cellS93_3 HGz18
       have hcz18_4 := cellS93_4 HGz18
       have hcz18_5 := cellS93_5 HGz18
       have hfz18_0 := blk_frozen HGz18 0
       have hfz18_1 := blk_frozen HGz18 1
       have hfz18_3 := blk_frozen HGz18 3
       clear HGz18 hgz18
       go_wp2
       repeat (go_quiet (fail); (go_wp2))
       go_roundg k1
       case measure => have := HK1.out; omega
       case rel => exact ⟨(wrap64 (Int.tdiv x1_1 t226)), (wrap64 (Int.tdiv x2_1 t226)), (wrap64 (x7_1 + (wrap64 ((Int.tmod (wrap64 ((Int.tmod x1_1 t226) + (Int.tmod x2_1 t226))) t226) * x8_1)))), (wrap64 (x8_1 * t226)), (by rfl), (by rfl), (by rfl), (by rfl), H', ⟨by have := HK1.out; omega⟩, ⟨by repeat ((with_reducible first | (exact HI0.out) | (apply IsS93.drewN)))⟩, ⟨by repeat ((with_reducible first | (exact HK.out) | (apply keep_drewN)))⟩, ⟨by repeat ((with_reducible first | (exact HB.out) | (apply pw_below_drewN)))⟩⟩
     ·rw [if_neg c16] at H
      have c16b0 : decide (0 < x2_1) = false := decide_eq_false c16
      clear c16
      simp only [Option.some.injEq, Prod.mk.injEq] at H
      obtain ⟨rfl, rfl, rfl, rfl⟩ := H
      go_wp2
      repeat (go_quiet (fail); try go_wp2)
      go_ret
      exact ⟨by rfl, by exact HI0.out, by exact HB.out, by exact HK.out⟩
end Go.Proofs.Ytkdakjlopheefaa.PA
end
section
namespace Go.Proofs.Ytkdakjlopheefaa.PA
open Go.RowKit Go.Proofs.YtkdakjlopheefaaW.PrintWords Go.Proofs.YtkdakjlopheefaaW.PrintLast Go.Proofs.YtkdakjlopheefaaW.PrintMore
attribute [local go_sem] max2_int min2_int max_two min_two max_three min_three max_four min_four
set_option linter.unusedVariables false
set_option linter.unusedSimpArgs false
def field_GF_Neg.l0 : Nat → Int → Int → Int → Int → Int → List Int → Int → List Int → List Int → Option (Int × Int × Int × Int)
 | 0, _, _, _, _, _, _, _, _, _ => none
 | k + 1, x1, x5, x6, x1000, x1001, x1002, x1003, x1004, x1005 => if x1 > 0 then (if x1000 = 0 then (none) else (field_GF_Neg.l0 k (wrap64 (Int.tdiv x1 x1000)) (wrap64 (x5 + (wrap64 ((Int.tmod (wrap64 (x1000 - (Int.tmod x1 x1000))) x1000) * x6)))) (wrap64 (x6 * x1000)) x1000 x1001 x1002 x1003 x1004 x1005)) else (some (x5, x1000, x1001, x1003))
def field_GF_Neg.f (k : Nat) (s0_0 : Int) (s0_1 : Int) (s0_2 : List Int) (s0_3 : Int) (s0_4 : List Int) (s0_5 : List Int) (a1 : Int) : Option (Int × Int × Int × Int) := (field_GF_in.f s0_0 s0_1 s0_2 s0_3 s0_4 s0_5 a1).bind fun bt229 => (field_GF_Neg.l0 k bt229.1 0 1 bt229.2.1 bt229.2.2.1 s0_2 bt229.2.2.2 s0_4 s0_5)
set_option maxHeartbeats 8000000 in
set_option maxRecDepth 100000 in
theorem field_GF_Neg.calls (k : Nat) (g : Nat) (s0_0 : Int) (s0_1 : Int) (s0_2 : List Int) (s0_3 : Int) (s0_4 : List Int) (s0_5 : List Int) (a1 : Int) (r1 : Int) (r2 : Int) (r3 : Int) (r4 : Int) (w0 w : World) (hI : IsS93 w0 w g s0_0 s0_1 s0_2 s0_3 s0_4 s0_5) (hB : Below w0.heap.size w0 w) (h : field_GF_Neg.f k s0_0 s0_1 s0_2 s0_3 s0_4 s0_5 a1 = some (r1, r2, r3, r4)) :
  Calls Try.prog 62 #[.pointer (some ⟨g, 0, none⟩), .int .i64 a1] w fun e w' => e = .returned (.int .i64 r1) ∧ IsS93 w0 w' g r2 r3 s0_2 r4 s0_4 s0_5 ∧ Below w0.heap.size w0 w' ∧ KeepBut w w' g none := by
 have HI0 := Aside0.mk hI
 have HK := Aside0.mk (KeepBut.refl w g none)
 have HL := Aside0.mk hB.size
 clear hI
 have HW0 := Aside0.mk hB.size
 have HB := Aside0.mk hB
 clear hB
 have H : ((field_GF_in.f s0_0 s0_1 s0_2 s0_3 s0_4 s0_5 a1).bind fun bt229 => (field_GF_Neg.l0 k bt229.1 0 1 bt229.2.1 bt229.2.2.1 s0_2 bt229.2.2.2 s0_4 s0_5)) = some (r1, r2, r3, r4) := h
 clear h
 replace H := Option.bind_eq_some_iff.mp H
 obtain ⟨⟨t229, t230, t231, t232⟩, A30, H⟩ := H
 replace H : (field_GF_Neg.l0 k t229 0 1 t230 t231 s0_2 t232 s0_4 s0_5) = some (r1, r2, r3, r4) := H
 have A3 := Aside0.mk A30
 clear A30
 have H' := Aside0.mk H
 clear H
 go_enter Try.func62, Try.ntmps62
 go_wp2_with ((go_at_call 81; (with_reducible refine (field_GF_in.calls g s0_0 s0_1 s0_2 s0_3 s0_4 s0_5 a1 t229 t230 t231 t232 w0 _ ?side1 ?side2 A3.out).mono ?_); (case side1 => repeat ((with_reducible (exact HI0.out)))); (case side2 => repeat ((with_reducible (exact HB.out)))); rintro e w4 ⟨rfl, hi, hb, hk⟩; have n0_ := Aside0.mk (KeepBut.trans HK.out hk (.inl rfl)); have n1_ := Aside0.mk (hb); have n2_ := Aside0.mk (hi); clear HK; clear HB; clear HI0; have HK := n0_; have HB := n1_; have HI0 := n2_; clear n0_ n1_ n2_; ((clear hb)); (skip); ((clear hk)); ((clear hi))))
 repeat (go_quiet (first | (go_at_call 81; (with_reducible refine (field_GF_in.calls g s0_0 s0_1 s0_2 s0_3 s0_4 s0_5 a1 t229 t230 t231 t232 w0 _ ?side1 ?side2 A3.out).mono ?_); (case side1 => repeat (first | (with_reducible first | exact HI0.out | apply IsS93.alloc | apply IsS93.drewN | apply IsS93.drew | apply IsS93.set_0 | apply IsS93.set_1 | apply IsS93.set_3) | exact HI0.out)); (case side2 => repeat (first | (with_reducible first | exact HB.out | apply below_alloc | apply pw_below_drewN | apply below_drew1 | refine below_set ?_ (IsS93.ge HI0.out)) | exact HB.out)); rintro e w4 ⟨rfl, hi, hb, hk⟩; have n0_ := Aside0.mk (KeepBut.trans (by repeat (first | (with_reducible first | exact HK.out | apply KeepBut.set_ | apply keep_drewN | apply keep_drew | apply keep_alloc) | exact HK.out)) hk (.inl rfl)); have n1_ := Aside0.mk (hb); have n2_ := Aside0.mk (hi); clear HK; clear HB; clear HI0; have HK := n0_; have HB := n1_; have HI0 := n2_; clear n0_ n1_ n2_; (try clear hb); (try clear hb2); (try clear hk); (try clear hi))); try go_wp2_with (first | (go_at_call 81; (with_reducible refine (field_GF_in.calls g s0_0 s0_1 s0_2 s0_3 s0_4 s0_5 a1 t229 t230 t231 t232 w0 _ ?side1 ?side2 A3.out).mono ?_); (case side1 => repeat (first | (with_reducible first | exact HI0.out | apply IsS93.alloc | apply IsS93.drewN | apply IsS93.drew | apply IsS93.set_0 | apply IsS93.set_1 | apply IsS93.set_3) | exact HI0.out)); (case side2 => repeat (first | (with_reducible first | exact HB.out | apply below_alloc | apply pw_below_drewN | apply below_drew1 | refine below_set ?_ (IsS93.ge HI0.out)) | exact HB.out)); rintro e w4 ⟨rfl, hi, hb, hk⟩; have n0_ := Aside0.mk (KeepBut.trans (by repeat (first | (with_reducible first | exact HK.out | apply KeepBut.set_ | apply keep_drewN | apply keep_drew | apply keep_alloc) | exact HK.out)) hk (.inl rfl)); have n1_ := Aside0.mk (hb); have n2_ := Aside0.mk (hi); clear HK; clear HB; clear HI0; have HK := n0_; have HB := n1_; have HI0 := n2_; clear n0_ n1_ n2_; (try clear hb); (try clear hb2); (try clear hk); (try clear hi))))
 go_loopg [1, 5, 6] k (fun kq v1 v5 v6 w' => ∃ (x1_1 : Int) (x5_1 : Int) (x6_1 : Int), v1 = .int .i64 x1_1 ∧ v5 = .int .i64 x5_1 ∧ v6 = .int .i64 x6_1 ∧ Aside0 (field_GF_Neg.l0 kq x1_1 x5_1 x6_1 t230 t231 s0_2 t232 s0_4 s0_5 = some (r1, r2, r3, r4)) ∧ Aside0 (kq ≤ k) ∧ Aside0 (IsS93 w0 w' g t230 t231 s0_2 t232 s0_4 s0_5) ∧ Aside0 (KeepBut w w' g none) ∧ Aside0 (Below w0.heap.size w0 w'))
 case atStart => exact ⟨(t229), (0), (1), (by rfl), (by rfl), (by rfl), H', ⟨Nat.le_refl _⟩, ⟨HI0.out⟩, ⟨HK.out⟩, ⟨HB.out⟩⟩
 case round =>
  clear H'
  obtain ⟨x1_1, x5_1, x6_1, rfl, rfl, rfl, HA, HK1, HI0, HK, HB⟩ := hrel
  cases gk with
  | zero => exact absurd HA.out (by simp [field_GF_Neg.l0])
  | succ k1 =>
   have H := HA.out
   clear HA
   simp only [field_GF_Neg.l0] at H
   by_cases c5 : x1_1 > 0
   ·rw [if_pos c5] at H
    have c5b0 : decide (0 < x1_1) = true := decide_eq_true c5
    clear c5
    by_cases c6 : t230 = 0
    ·rw [if_pos c6] at H
     exact absurd H (by simp)
    ·rw [if_neg c6] at H
     have c6b0 : (t230 == 0) = false := beq_eq_false_iff_ne.mpr c6
     have c6b1 : (t230 != 0) = true := bne_iff_ne.mpr c6
     have H' := Aside0.mk H
     clear H
     obtain ⟨ASz7_2, cSz7_2, ASz7_4, cSz7_4, ASz7_5, cSz7_5, HGz7, hgz7, HSz7_2, HSz7_4, HSz7_5⟩ := HI0.out
     have hcz7_0 := cellS93_0 HGz7
     have hcz7_1 := cellS93_1 HGz7
     have hcz7_2 := cellS93_2 HGz7
     have hcz7_3 := cellS93_3 HGz7
     have hcz7_4 := cellS93_4 HGz7
     have hcz7_5 := cellS93_5 HGz7
     have hfz7_0 := blk_frozen HGz7 0
     have hfz7_1 := blk_frozen HGz7 1
     have hfz7_3 := blk_frozen HGz7 3
     clear HGz7 hgz7
     go_wp2
     repeat (go_quiet (fail); (go_wp2))
     go_roundg k1
     case measure => have := HK1.out; omega
     case rel => exact ⟨(wrap64 (Int.tdiv x1_1 t230)), (wrap64 (x5_1 + (wrap64 ((Int.tmod (wrap64 (t230 - (Int.tmod x1_1 t230))) t230) * x6_1)))), (wrap64 (x6_1 * t230)), (by rfl), (by rfl), (by rfl), H', ⟨by have := HK1.out; omega⟩, ⟨by repeat ((with_reducible first | (exact HI0.out) | (apply IsS93.drewN)))⟩, ⟨by repeat ((with_reducible first | (exact HK.out) | (apply keep_drewN)))⟩, ⟨by repeat ((with_reducible first | (exact HB.out) | (apply pw_below_drewN)))⟩⟩
   ·rw [if_neg c5] at H
    have c5b0 : decide (0 < x1_1) = false := decide_eq_false c5
    clear c5
    simp only [Option.some.injEq, Prod.mk.injEq] at H
    obtain ⟨rfl, rfl, rfl, rfl⟩ := H
    go_wp2
    repeat (go_quiet (fail); try go_wp2)
    go_ret
    exact ⟨by rfl, by exact HI0.out, by exact HB.out, by exact HK.out⟩
def field_GF_Sub.f (k : Nat) (s0_0 : Int) (s0_1 : Int) (s0_2 : List Int) (s0_3 : Int) (s0_4 : List Int) (s0_5 : List Int) (a1 : Int) (a2 : Int) : Option (Int × Int × Int × Int) := (field_GF_Neg.f k s0_0 s0_1 s0_2 s0_3 s0_4 s0_5 a2).bind fun bt233 => ((field_GF_Add.f k bt233.2.1 bt233.2.2.1 s0_2 bt233.2.2.2 s0_4 s0_5 a1 bt233.1).bind fun bt237 => (some (bt237.1, bt237.2.1, bt237.2.2.1, bt237.2.2.2)))
set_option maxHeartbeats 8000000 in
set_option maxRecDepth 100000 in
theorem field_GF_Sub.calls (k : Nat) (g : Nat) (s0_0 : Int) (s0_1 : Int) (s0_2 : List Int) (s0_3 : Int) (s0_4 : List Int) (s0_5 : List Int) (a1 : Int) (a2 : Int) (r1 : Int) (r2 : Int) (r3 : Int) (r4 : Int) (w0 w : World) (hI : IsS93 w0 w g s0_0 s0_1 s0_2 s0_3 s0_4 s0_5) (hB : Below w0.heap.size w0 w) (h : field_GF_Sub.f k s0_0 s0_1 s0_2 s0_3 s0_4 s0_5 a1 a2 = some (r1, r2, r3, r4)) :
  Calls Try.prog 83 #[.pointer (some ⟨g, 0, none⟩), .int .i64 a1, .int .i64 a2] w fun e w' => e = .returned (.int .i64 r1) ∧ IsS93 w0 w' g r2 r3 s0_2 r4 s0_4 s0_5 ∧ Below w0.heap.size w0 w' ∧ KeepBut w w' g none := by
 have HI0 := Aside0.mk hI
 have HK := Aside0.mk (KeepBut.refl w g none)
 have HL := Aside0.mk hB.size
 clear hI
 have HW0 := Aside0.mk hB.size
 have HB := Aside0.mk hB
 clear hB
 have H : ((field_GF_Neg.f k s0_0 s0_1 s0_2 s0_3 s0_4 s0_5 a2).bind fun bt233 => ((field_GF_Add.f k bt233.2.1 bt233.2.2.1 s0_2 bt233.2.2.2 s0_4 s0_5 a1 bt233.1).bind fun bt237 => (some (bt237.1, bt237.2.1, bt237.2.2.1, bt237.2.2.2)))) = some (r1, r2, r3, r4) := h
 clear h
 replace H := Option.bind_eq_some_iff.mp H
 obtain ⟨⟨t233, t234, t235, t236⟩, A40, H⟩ := H
 replace H : ((field_GF_Add.f k t234 t235 s0_2 t236 s0_4 s0_5 a1 t233).bind fun bt237 => (some (bt237.1, bt237.2.1, bt237.2.2.1, bt237.2.2.2))) = some (r1, r2, r3, r4) := H
 have A4 := Aside0.mk A40
 clear A40
 replace H := Option.bind_eq_some_iff.mp H
 obtain ⟨⟨t237, t238, t239, t240⟩, A50, H⟩ := H
 replace H : (some (t237, t238, t239, t240)) = some (r1, r2, r3, r4) := H
 have A5 := Aside0.mk A50
 clear A50
 simp only [Option.some.injEq, Prod.mk.injEq] at H
 obtain ⟨rfl, rfl, rfl, rfl⟩ := H
 go_enter Try.func83, Try.ntmps83
 go_wp2_with (first | ((with_reducible refine gate_callee (f := 62) rfl ?_); refine goesL_ (some 11) rfl rfl Try.func62 (by kernel_rfl) rfl #[.pointer (some ⟨g, 0, none⟩), .int .i64 a2] rfl (by ((simp only [List.map_toArray, List.map_cons, List.map_nil])); (rfl)) ?_; (with_reducible refine (field_GF_Neg.calls k g s0_0 s0_1 s0_2 s0_3 s0_4 s0_5 a2 t233 t234 t235 t236 w0 _ ?side1 ?side2 A4.out).mono ?_); (case side1 => repeat ((with_reducible (exact HI0.out)))); (case side2 => repeat ((with_reducible (exact HB.out)))); rintro e w6 ⟨rfl, hi, hb, hk⟩; refine ⟨_, rfl, ?_⟩; have n0_ := Aside0.mk (KeepBut.trans HK.out hk (.inl rfl)); have n1_ := Aside0.mk (hb); have n2_ := Aside0.mk (hi); clear HK; clear HB; clear HI0; have HK := n0_; have HB := n1_; have HI0 := n2_; clear n0_ n1_ n2_; ((clear hb)); (skip); ((clear hk)); ((clear hi))) | ((with_reducible refine gate_callee (f := 53) rfl ?_); refine goesL_ (some 12) rfl rfl Try.func53 (by kernel_rfl) rfl #[.pointer (some ⟨g, 0, none⟩), .int .i64 a1, .int .i64 t233] rfl (by ((simp only [List.map_toArray, List.map_cons, List.map_nil])); (rfl)) ?_; (with_reducible refine (field_GF_Add.calls k g t234 t235 s0_2 t236 s0_4 s0_5 a1 t233 t237 t238 t239 t240 w0 _ ?side1 ?side2 A5.out).mono ?_); (case side1 => repeat ((with_reducible (exact HI0.out)))); (case side2 => repeat ((with_reducible (exact HB.out)))); rintro e w7 ⟨rfl, hi, hb, hk⟩; refine ⟨_, rfl, ?_⟩; have n0_ := Aside0.mk (KeepBut.trans HK.out hk (.inl rfl)); have n1_ := Aside0.mk (hb); have n2_ := Aside0.mk (hi); clear HK; clear HB; clear HI0; have HK := n0_; have HB := n1_; have HI0 := n2_; clear n0_ n1_ n2_; ((clear hb)); (skip); ((clear hk)); ((clear hi))))
 go_ret
 exact ⟨by rfl, by exact HI0.out, by exact HB.out, by exact HK.out⟩
mutual
def poly_DivMod.l0 : Nat → List Int → List Int → List Int → Int → Int → Int → Int → List Int → Int → List Int → List Int → Option (List Int × List Int × Int × Int × Int × Int)
 | 0, _, _, _, _, _, _, _, _, _, _, _ => none
 | k + 1, x2, x6, x7, x9, x11, x1000, x1001, x1002, x1003, x1004, x1005 => if x11 ≥ 0 then (if 0 ≤ (wrap64 ((wrap64 (x11 + (x2.length : Int))) - 1)) then (if (wrap64 ((wrap64 (x11 + (x2.length : Int))) - 1)) < (x7.length : Int) then ((field_GF_Mul.f x1000 x1001 x1002 x1003 x1004 x1005 (rd x7 (wrap64 ((wrap64 (x11 + (x2.length : Int))) - 1))) x9).bind fun bt269 => (if 0 ≤ x11 then (if x11 < (x6.length : Int) then (poly_DivMod.l1 k x2 (x6.set (x11 : Int).toNat bt269.1) x7 x9 x11 bt269.1 x2 (x2.length : Int) 0 bt269.2.1 bt269.2.2.1 x1002 bt269.2.2.2 x1004 x1005) else (none)) else (none))) else (none)) else (none)) else ((poly_trim.f k x6).bind fun t262 => ((poly_trim.f k x7).bind fun t265 => (some (t262, t265, 0, x1000, x1001, x1003))))
def poly_DivMod.l1 : Nat → List Int → List Int → List Int → Int → Int → Int → List Int → Int → Int → Int → Int → List Int → Int → List Int → List Int → Option (List Int × List Int × Int × Int × Int × Int)
 | 0, _, _, _, _, _, _, _, _, _, _, _, _, _, _, _ => none
 | k + 1, x2, x6, x7, x9, x11, x12, x67, x68, x69, x1000, x1001, x1002, x1003, x1004, x1005 => if x69 < x68 then (if 0 ≤ x69 then (if x69 < (x67.length : Int) then (if 0 ≤ (wrap64 (x11 + x69)) then (if (wrap64 (x11 + x69)) < (x7.length : Int) then ((field_GF_Mul.f x1000 x1001 x1002 x1003 x1004 x1005 x12 (rd x67 x69)).bind fun bt276 => ((field_GF_Sub.f k bt276.2.1 bt276.2.2.1 x1002 bt276.2.2.2 x1004 x1005 (rd x7 (wrap64 (x11 + x69))) bt276.1).bind fun bt280 => (poly_DivMod.l1 k x2 x6 (x7.set ((wrap64 (x11 + x69)) : Int).toNat bt280.1) x9 x11 x12 x67 x68 (wrap64 (x69 + 1)) bt280.2.1 bt280.2.2.1 x1002 bt280.2.2.2 x1004 x1005))) else (none)) else (none)) else (none)) else (none)) else (poly_DivMod.l0 k x2 x6 x7 x9 (wrap64 (x11 - 1)) x1000 x1001 x1002 x1003 x1004 x1005)
end
def poly_DivMod.f (k : Nat) (s0_0 : Int) (s0_1 : Int) (s0_2 : List Int) (s0_3 : Int) (s0_4 : List Int) (s0_5 : List Int) (l1 : List Int) (l2 : List Int) : Option (List Int × List Int × Int × Int × Int × Int) := (poly_Canon.f k s0_0 s0_1 s0_2 s0_3 s0_4 s0_5 l1).bind fun bt241 => ((poly_Canon.f k bt241.2.1 bt241.2.2.1 s0_2 bt241.2.2.2 s0_4 s0_5 l2).bind fun bt247 => (if (bt247.1.length : Int) = 0 then (some (([] : List Int), ([] : List Int), 7, bt247.2.1, bt247.2.2.1, bt247.2.2.2)) else (if 0 ≤ (wrap64 ((bt247.1.length : Int) - 1)) then (if (wrap64 ((bt247.1.length : Int) - 1)) < (bt247.1.length : Int) then ((field_GF_Inv.f bt247.2.1 bt247.2.2.1 s0_2 bt247.2.2.2 s0_4 s0_5 (rd bt247.1 (wrap64 ((bt247.1.length : Int) - 1)))).bind fun bt254 => (if 0 ≤ (mx 0 (wrap64 ((wrap64 ((bt241.1.length : Int) - (bt247.1.length : Int))) + 1))) then (if (mx 0 (wrap64 ((wrap64 ((bt241.1.length : Int) - (bt247.1.length : Int))) + 1)) : Int).toNat ≤ 35184372088832 then (poly_DivMod.l0 k bt247.1 (List.replicate (mx 0 (wrap64 ((wrap64 ((bt241.1.length : Int) - (bt247.1.length : Int))) + 1)) : Int).toNat 0) bt241.1 bt254.1 (wrap64 ((bt241.1.length : Int) - (bt247.1.length : Int))) bt254.2.2.1 bt254.2.2.2.1 s0_2 bt254.2.2.2.2 s0_4 s0_5) else (none)) else (none))) else (none)) else (none))))
def poly_DivMod.T14 : Bool × List (List Nat × List Nat) := (true, [([], []), ([], []), ([], []), ([1, 2], [1, 2]), ([], []), ([], []), ([], []), ([], []), ([6, 7], [6, 7]), ([5, 8], [5, 8]), ([9], [9]), ([], []), ([], []), ([], []), ([11, 12, 13], [11, 12, 13]), ([4, 10, 14, 14], [4, 10, 14]), ([0, 3, 0, 1, 2, 3, 4, 5, 6, 7, 8, 9, 10, 11, 12, 13, 14, 15], [0, 3]), ([16, 15, 15, 0, 1, 2, 3, 4, 5, 6, 7, 8, 9, 10, 11, 12, 13, 14, 15], [15, 16])])
def poly_DivMod.B14 : List Nat := [0, 0, 0, 6, 0, 0, 0, 0, 192, 480, 992, 0, 0, 0, 14336, 32752, 65535, 131071]
theorem poly_DivMod.tab14 : rtab .any (opsOf Try.f51 14) = poly_DivMod.T14 := by kernel_rfl
theorem poly_DivMod.bits14 : waitsOk poly_DivMod.T14.2 poly_DivMod.B14 = true := by kernel_rfl
set_option maxHeartbeats 8000000 in
set_option maxRecDepth 100000 in
theorem poly_DivMod.calls (k : Nat) (g : Nat) (s0_0 : Int) (s0_1 : Int) (s0_2 : List Int) (s0_3 : Int) (s0_4 : List Int) (s0_5 : List Int) (A1 : Option Addr) (c1 : Nat) (l1 : List Int) (A2 : Option Addr) (c2 : Nat) (l2 : List Int) (r1 : List Int) (r2 : List Int) (r3 : Int) (r4 : Int) (r5 : Int) (r6 : Int) (w0 w : World) (hI : IsS93 w0 w g s0_0 s0_1 s0_2 s0_3 s0_4 s0_5) (hB : Below w0.heap.size w0 w) (hr1 : Kd.C (Kd.int .i64) w A1 l1.length l1) (hc1 : l1.length ≤ c1) (hf1 : ∀ ad, A1 = some ad → 0 < l1.length → ad.block ≠ g) (hr2 : Kd.C (Kd.int .i64) w A2 l2.length l2) (hc2 : l2.length ≤ c2) (hf2 : ∀ ad, A2 = some ad → 0 < l2.length → ad.block ≠ g) (h : poly_DivMod.f k s0_0 s0_1 s0_2 s0_3 s0_4 s0_5 l1 l2 = some (r1, r2, r3, r4, r5, r6)) :
  Calls Try.prog 51 #[.pointer (some ⟨g, 0, none⟩), .slice A1 l1.length c1, .slice A2 l2.length c2] w fun e w' => ∃ v0_ v1_ : Value, e = .returned (.tuple #[v0_, v1_, .int .i64 r3]) ∧ Kd.R (Kd.int .i64) 3 w' w.heap.size (fun k_ => some k_ ≠ (v1_ : Value).ownBlock) v0_ r1 ∧ Kd.R (Kd.int .i64) 3 w' w.heap.size (fun k_ => some k_ ≠ (v0_ : Value).ownBlock) v1_ r2 ∧ IsS93 w0 w' g r4 r5 s0_2 r6 s0_4 s0_5 ∧ Below w0.heap.size w0 w' ∧ KeepBut w w' g none := by
 have HR1 := Aside0.mk hr1
 have HC1 := Aside0.mk hc1
 clear hr1 hc1
 have HR2 := Aside0.mk hr2
 have HC2 := Aside0.mk hc2
 clear hr2 hc2
 have HI0 := Aside0.mk hI
 have HK := Aside0.mk (KeepBut.refl w g none)
 have HL := Aside0.mk hB.size
 clear hI
 have HW0 := Aside0.mk hB.size
 have HB := Aside0.mk hB
 clear hB
 have H : ((poly_Canon.f k s0_0 s0_1 s0_2 s0_3 s0_4 s0_5 l1).bind fun bt241 => ((poly_Canon.f k bt241.2.1 bt241.2.2.1 s0_2 bt241.2.2.2 s0_4 s0_5 l2).bind fun bt247 => (if (bt247.1.length : Int) = 0 then (some (([] : List Int), ([] : List Int), 7, bt247.2.1, bt247.2.2.1, bt247.2.2.2)) else (if 0 ≤ (wrap64 ((bt247.1.length : Int) - 1)) then (if (wrap64 ((bt247.1.length : Int) - 1)) < (bt247.1.length : Int) then ((field_GF_Inv.f bt247.2.1 bt247.2.2.1 s0_2 bt247.2.2.2 s0_4 s0_5 (rd bt247.1 (wrap64 ((bt247.1.length : Int) - 1)))).bind fun bt254 => (if 0 ≤ (mx 0 (wrap64 ((wrap64 ((bt241.1.length : Int) - (bt247.1.length : Int))) + 1))) then (if (mx 0 (wrap64 ((wrap64 ((bt241.1.length : Int) - (bt247.1.length : Int))) + 1)) : Int).toNat ≤ 35184372088832 then (poly_DivMod.l0 k bt247.1 (List.replicate (mx 0 (wrap64 ((wrap64 ((bt241.1.length : Int) - (bt247.1.length : Int))) + 1)) : Int).toNat 0) bt241.1 bt254.1 (wrap64 ((bt241.1.length : Int) - (bt247.1.length : Int))) bt254.2.2.1 bt254.2.2.2.1 s0_2 bt254.2.2.2.2 s0_4 s0_5) else (none)) else (none))) else (none)) else (none))))) = some (r1, r2, r3, r4, r5, r6) := h
 clear h
 replace H := Option.bind_eq_some_iff.mp H
 obtain ⟨⟨t241, t244, t245, t246⟩, A40, H⟩ := H
 replace H : ((poly_Canon.f k t244 t245 s0_2 t246 s0_4 s0_5 l2).bind fun bt247 => (if (bt247.1.length : Int) = 0 then (some (([] : List Int), ([] : List Int), 7, bt247.2.1, bt247.2.2.1, bt247.2.2.2)) else (if 0 ≤ (wrap64 ((bt247.1.length : Int) - 1)) then (if (wrap64 ((bt247.1.length : Int) - 1)) < (bt247.1.length : Int) then ((field_GF_Inv.f bt247.2.1 bt247.2.2.1 s0_2 bt247.2.2.2 s0_4 s0_5 (rd bt247.1 (wrap64 ((bt247.1.length : Int) - 1)))).bind fun bt254 => (if 0 ≤ (mx 0 (wrap64 ((wrap64 ((t241.length : Int) - (bt247.1.length : Int))) + 1))) then (if (mx 0 (wrap64 ((wrap64 ((t241.length : Int) - (bt247.1.length : Int))) + 1)) : Int).toNat ≤ 35184372088832 then (poly_DivMod.l0 k bt247.1 (List.replicate (mx 0 (wrap64 ((wrap64 ((t241.length : Int) - (bt247.1.length : Int))) + 1)) : Int).toNat 0) t241 bt254.1 (wrap64 ((t241.length : Int) - (bt247.1.length : Int))) bt254.2.2.1 bt254.2.2.2.1 s0_2 bt254.2.2.2.2 s0_4 s0_5) else (none)) else (none))) else (none)) else (none)))) = some (r1, r2, r3, r4, r5, r6) := H
 have A4 := Aside0.mk A40
 clear A40
 replace H := Option.bind_eq_some_iff.mp H
 obtain ⟨⟨t247, t250, t251, t252⟩, A50, H⟩ := H
 replace H : (if (t247.length : Int) = 0 then (some (([] : List Int), ([] : List Int), 7, t250, t251, t252)) else (if 0 ≤ (wrap64 ((t247.length : Int) - 1)) then (if (wrap64 ((t247.length : Int) - 1)) < (t247.length : Int) then ((field_GF_Inv.f t250 t251 s0_2 t252 s0_4 s0_5 (rd t247 (wrap64 ((t247.length : Int) - 1)))).bind fun bt254 => (if 0 ≤ (mx 0 (wrap64 ((wrap64 ((t241.length : Int) - (t247.length : Int))) + 1))) then (if (mx 0 (wrap64 ((wrap64 ((t241.length : Int) - (t247.length : Int))) + 1)) : Int).toNat ≤ 35184372088832 then (poly_DivMod.l0 k t247 (List.replicate (mx 0 (wrap64 ((wrap64 ((t241.length : Int) - (t247.length : Int))) + 1)) : Int).toNat 0) t241 bt254.1 (wrap64 ((t241.length : Int) - (t247.length : Int))) bt254.2.2.1 bt254.2.2.2.1 s0_2 bt254.2.2.2.2 s0_4 s0_5) else (none)) else (none))) else (none)) else (none))) = some (r1, r2, r3, r4, r5, r6) := H
 have A5 := Aside0.mk A50
 clear A50
 by_cases c6 : (t247.length : Int) = 0
 ·rw [if_pos c6] at H
  have c6b0 : ((t247.length : Int) == 0) = true := beq_iff_eq.mpr c6
  have c6b1 : ((t247.length : Int) != 0) = false := bne_eq_false_iff_eq.mpr c6
  clear c6
  simp only [Option.some.injEq, Prod.mk.injEq] at H
  obtain ⟨rfl, rfl, rfl, rfl, rfl, rfl⟩ := H
  go_enter Try.func51, Try.ntmps51
  go_wp2_with (first | ((with_reducible refine gate_callee (f := 45) rfl ?_); refine goesL_ (some 17) rfl rfl Try.func45 (by kernel_rfl) rfl #[.pointer (some ⟨g, 0, none⟩), .slice A1 l1.length c1] rfl (by ((simp only [List.map_toArray, List.map_cons, List.map_nil])); (rfl)) ?_; (with_reducible refine (poly_Canon.calls k g s0_0 s0_1 s0_2 s0_3 s0_4 s0_5 _ _ l1 t241 t244 t245 t246 w0 _ ?side1 ?side2 ?side3 ?side4 ?side5 A4.out).mono ?_); (case side1 => repeat ((with_reducible (exact HI0.out)))); (case side2 => repeat ((with_reducible (exact HB.out)))); (case side3 => exact Kd.C_keep 0 HR1.out HK.out hf1); (case side4 => exact HC1.out); (case side5 => exact hf1); rintro e w7 ⟨v242, rfl, ho0, hi, hb, hk⟩; refine ⟨_, rfl, ?_⟩; have n0_ := Aside0.mk (Kd.R_lower ho0 (keep_size (w := w) (g := g) (row := none) HK.out)); have n1_ := Aside0.mk (KeepBut.trans HK.out hk (.inl rfl)); have n2_ := Aside0.mk (hb); have n3_ := Aside0.mk (hi); clear HK; clear HB; clear HI0; have HO243 := n0_; have HK := n1_; have HB := n2_; have HI0 := n3_; clear n0_ n1_ n2_ n3_; ((clear hb)); (skip); ((clear hk)); ((clear hi)); ((clear ho0))) | ((with_reducible refine gate_callee (f := 45) rfl ?_); refine goesL_ (some 20) rfl rfl Try.func45 (by kernel_rfl) rfl #[.pointer (some ⟨g, 0, none⟩), .slice A2 l2.length c2] rfl (by ((simp only [List.map_toArray, List.map_cons, List.map_nil])); (rfl)) ?_; (with_reducible refine (poly_Canon.calls k g t244 t245 s0_2 t246 s0_4 s0_5 _ _ l2 t247 t250 t251 t252 w0 _ ?side1 ?side2 ?side3 ?side4 ?side5 A5.out).mono ?_); (case side1 => repeat ((with_reducible (exact HI0.out)))); (case side2 => repeat ((with_reducible (exact HB.out)))); (case side3 => exact Kd.C_keep 0 HR2.out HK.out hf2); (case side4 => exact HC2.out); (case side5 => exact hf2); rintro e w8 ⟨v248, rfl, ho0, hi, hb, hk⟩; refine ⟨_, rfl, ?_⟩; have n0_ := Aside0.mk (Kd.R_mono (Kd.R_told (Kd.R_oldK (IsS93.apart (show IsS93 w0 _ g t244 t245 s0_2 t246 s0_4 s0_5 from by exact HI0.out) HO243.out (by decide)) hk) (Kd.R_base ho0)) (fun _ h_ => h_.1)); have n1_ := Aside0.mk (Kd.R_lower (Kd.R_new' ho0 (Kd.R_lt HO243.out)) (keep_size (w := w) (g := g) (row := none) HK.out)); have n2_ := Aside0.mk (KeepBut.trans HK.out hk (.inl rfl)); have n3_ := Aside0.mk (hb); have n4_ := Aside0.mk (hi); clear HO243; clear HK; clear HB; clear HI0; have HO243 := n0_; have HO249 := n1_; have HK := n2_; have HB := n3_; have HI0 := n4_; clear n0_ n1_ n2_ n3_ n4_; ((clear hb)); (skip); ((clear hk)); ((clear hi)); ((clear ho0)); obtain ⟨Ao9, co9, eo9⟩ := Kd.R_slice HO249.out; subst eo9))
  go_ret3
  exact ⟨_, _, by rfl, by (exact Kd.R_nil _ _ _ _ _), by (exact Kd.R_nil _ _ _ _ _), by exact HI0.out, by exact HB.out, by exact HK.out⟩
 ·rw [if_neg c6] at H
  have c6b0 : ((t247.length : Int) == 0) = false := beq_eq_false_iff_ne.mpr c6
  have c6b1 : ((t247.length : Int) != 0) = true := bne_iff_ne.mpr c6
  have c6b2 : ¬ (t247 = []) := fun h_ => c6 (by rw [h_]; rfl)
  obtain ⟨ji10, hji10⟩ : ∃ j_ : Int, (wrap64 ((t247.length : Int) - 1)) = j_ := ⟨_, rfl⟩
  replace H : (if 0 ≤ (ji10) then (if (ji10) < (t247.length : Int) then ((field_GF_Inv.f t250 t251 s0_2 t252 s0_4 s0_5 (rd t247 (ji10))).bind fun bt254 => (if 0 ≤ (mx 0 (wrap64 ((wrap64 ((t241.length : Int) - (t247.length : Int))) + 1))) then (if (mx 0 (wrap64 ((wrap64 ((t241.length : Int) - (t247.length : Int))) + 1)) : Int).toNat ≤ 35184372088832 then (poly_DivMod.l0 k t247 (List.replicate (mx 0 (wrap64 ((wrap64 ((t241.length : Int) - (t247.length : Int))) + 1)) : Int).toNat 0) t241 bt254.1 (wrap64 ((t241.length : Int) - (t247.length : Int))) bt254.2.2.1 bt254.2.2.2.1 s0_2 bt254.2.2.2.2 s0_4 s0_5) else (none)) else (none))) else (none)) else (none)) = some (r1, r2, r3, r4, r5, r6) := by (rw [hji10] at H; exact H)
  have hji10w : (IntKind.i64.wrap ((t247.length : Int) - 1)) = ji10 := (i64_w _).trans hji10
  by_cases c11 : 0 ≤ (ji10)
  ·rw [if_pos c11] at H
   have c11b0 : decide (0 ≤ (ji10)) = true := decide_eq_true c11
   clear c11
   by_cases c12 : (ji10) < (t247.length : Int)
   ·rw [if_pos c12] at H
    have c12b0 : decide ((ji10) < (t247.length : Int)) = true := decide_eq_true c12
    clear c12
    replace H := Option.bind_eq_some_iff.mp H
    obtain ⟨⟨t254, t255, t256, t257, t258⟩, A130, H⟩ := H
    replace H : (if 0 ≤ (mx 0 (wrap64 ((wrap64 ((t241.length : Int) - (t247.length : Int))) + 1))) then (if (mx 0 (wrap64 ((wrap64 ((t241.length : Int) - (t247.length : Int))) + 1)) : Int).toNat ≤ 35184372088832 then (poly_DivMod.l0 k t247 (List.replicate (mx 0 (wrap64 ((wrap64 ((t241.length : Int) - (t247.length : Int))) + 1)) : Int).toNat 0) t241 t254 (wrap64 ((t241.length : Int) - (t247.length : Int))) t256 t257 s0_2 t258 s0_4 s0_5) else (none)) else (none)) = some (r1, r2, r3, r4, r5, r6) := H
    have A13 := Aside0.mk A130
    clear A130
    obtain ⟨ji14, hji14⟩ : ∃ j_ : Int, (mx 0 (wrap64 ((wrap64 ((t241.length : Int) - (t247.length : Int))) + 1))) = j_ := ⟨_, rfl⟩
    replace H : (if 0 ≤ (ji14) then (if (ji14 : Int).toNat ≤ 35184372088832 then (poly_DivMod.l0 k t247 (List.replicate (ji14 : Int).toNat 0) t241 t254 (wrap64 ((t241.length : Int) - (t247.length : Int))) t256 t257 s0_2 t258 s0_4 s0_5) else (none)) else (none)) = some (r1, r2, r3, r4, r5, r6) := by (rw [hji14] at H; exact H)
    ((have hji14l : 0 ≤ ji14 := by (rw [← hji14]; unfold mx; (repeat' split) <;> omega)))
    ((have hji14m : 0 ≤ ji14 := by omega))
    have hji14_ : (if 0 < (wrap64 ((wrap64 ((t241.length : Int) - (t247.length : Int))) + 1)) then (wrap64 ((wrap64 ((t241.length : Int) - (t247.length : Int))) + 1)) else 0) = ji14 := hji14
    by_cases c15 : 0 ≤ (ji14)
    ·rw [if_pos c15] at H
     have c15b0 := eq_true c15
     have c15b1 : decide (0 ≤ (ji14)) = true := decide_eq_true c15
     clear c15
     by_cases c16 : (ji14 : Int).toNat ≤ 35184372088832
     ·rw [if_pos c16] at H
      have c16b0 := eq_true c16
      have c16b1 : decide ((ji14 : Int).toNat ≤ 35184372088832) = true := decide_eq_true c16
      clear c16
      obtain ⟨y259, hy259⟩ : ∃ y_ : List Int, y_ = (List.replicate (ji14 : Int).toNat 0) := ⟨_, rfl⟩
      replace H : (poly_DivMod.l0 k t247 y259 t241 t254 (wrap64 ((t241.length : Int) - (t247.length : Int))) t256 t257 s0_2 t258 s0_4 s0_5) = some (r1, r2, r3, r4, r5, r6) := by (rw [hy259]; with_reducible exact H)
      have Ny259 := Aside0.mk hy259
      clear hy259
      have H' := Aside0.mk H
      clear H
      go_enter Try.func51, Try.ntmps51
      go_wp2_with (first | ((with_reducible refine gate_callee (f := 45) rfl ?_); refine goesL_ (some 17) rfl rfl Try.func45 (by kernel_rfl) rfl #[.pointer (some ⟨g, 0, none⟩), .slice A1 l1.length c1] rfl (by ((simp only [List.map_toArray, List.map_cons, List.map_nil])); (rfl)) ?_; (with_reducible refine (poly_Canon.calls k g s0_0 s0_1 s0_2 s0_3 s0_4 s0_5 _ _ l1 t241 t244 t245 t246 w0 _ ?side1 ?side2 ?side3 ?side4 ?side5 A4.out).mono ?_); (case side1 => repeat ((with_reducible (exact HI0.out)))); (case side2 => repeat ((with_reducible (exact HB.out)))); (case side3 => exact Kd.C_keep 0 HR1.out HK.out hf1); (case side4 => exact HC1.out); (case side5 => exact hf1); rintro e w17 ⟨v242, rfl, ho0, hi, hb, hk⟩; refine ⟨_, rfl, ?_⟩; have n0_ := Aside0.mk (Kd.R_lower ho0 (keep_size (w := w) (g := g) (row := none) HK.out)); have n1_ := Aside0.mk (KeepBut.trans HK.out hk (.inl rfl)); have n2_ := Aside0.mk (hb); have n3_ := Aside0.mk (hi); clear HK; clear HB; clear HI0; have HO243 := n0_; have HK := n1_; have HB := n2_; have HI0 := n3_; clear n0_ n1_ n2_ n3_; ((clear hb)); (skip); ((clear hk)); ((clear hi)); ((clear ho0))) | ((with_reducible refine gate_callee (f := 45) rfl ?_); refine goesL_ (some 20) rfl rfl Try.func45 (by kernel_rfl) rfl #[.pointer (some ⟨g, 0, none⟩), .slice A2 l2.length c2] rfl (by ((simp only [List.map_toArray, List.map_cons, List.map_nil])); (rfl)) ?_; (with_reducible refine (poly_Canon.calls k g t244 t245 s0_2 t246 s0_4 s0_5 _ _ l2 t247 t250 t251 t252 w0 _ ?side1 ?side2 ?side3 ?side4 ?side5 A5.out).mono ?_); (case side1 => repeat ((with_reducible (exact HI0.out)))); (case side2 => repeat ((with_reducible (exact HB.out)))); (case side3 => exact Kd.C_keep 0 HR2.out HK.out hf2); (case side4 => exact HC2.out); (case side5 => exact hf2); rintro e w18 ⟨v248, rfl, ho0, hi, hb, hk⟩; refine ⟨_, rfl, ?_⟩; have n0_ := Aside0.mk (Kd.R_mono (Kd.R_told (Kd.R_oldK (IsS93.apart (show IsS93 w0 _ g t244 t245 s0_2 t246 s0_4 s0_5 from by exact HI0.out) HO243.out (by decide)) hk) (Kd.R_base ho0)) (fun _ h_ => h_.1)); have n1_ := Aside0.mk (Kd.R_lower (Kd.R_new' ho0 (Kd.R_lt HO243.out)) (keep_size (w := w) (g := g) (row := none) HK.out)); have n2_ := Aside0.mk (KeepBut.trans HK.out hk (.inl rfl)); have n3_ := Aside0.mk (hb); have n4_ := Aside0.mk (hi); clear HO243; clear HK; clear HB; clear HI0; have HO243 := n0_; have HO249 := n1_; have HK := n2_; have HB := n3_; have HI0 := n4_; clear n0_ n1_ n2_ n3_ n4_; ((clear hb)); (skip); ((clear hk)); ((clear hi)); ((clear ho0)); obtain ⟨Ao19, co19, eo19⟩ := Kd.R_slice HO249.out; subst eo19; have p253 : 0 ≤ ((ji10) : Int) := of_decide_eq_true (by (with_reducible assumption)); have q253 : (ji10) < (t247.length : Int) := of_decide_eq_true (by (with_reducible assumption)); obtain ⟨ad253, e253, hx253_0⟩ := Kd.at_int (Kd.R_reads' HO249.out).2.2 (ji10) p253 q253; cases e253; replace p253 := eq_true p253; replace q253 := eq_true q253) | ((with_reducible refine gate_callee (f := 47) rfl ?_); refine goesL_ (some 32) rfl rfl Try.func47 (by kernel_rfl) rfl #[.pointer (some ⟨g, 0, none⟩), .int .i64 (rd t247 (ji10))] rfl (by ((simp only [List.map_toArray, List.map_cons, List.map_nil])); (rfl)) ?_; (with_reducible refine (field_GF_Inv.calls g t250 t251 s0_2 t252 s0_4 s0_5 (rd t247 (ji10)) t254 t255 t256 t257 t258 w0 _ ?side1 ?side2 A13.out).mono ?_); (case side1 => repeat ((with_reducible (exact HI0.out)))); (case side2 => repeat ((with_reducible (exact HB.out)))); rintro e w20 ⟨rfl, hi, hb, hk⟩; refine ⟨_, rfl, ?_⟩; have n0_ := Aside0.mk (Kd.R_mono (Kd.R_keep (IsS93.apart (show IsS93 w0 _ g t250 t251 s0_2 t252 s0_4 s0_5 from by exact HI0.out) HO243.out (by decide)) hk (fun _ h => h.2)) (fun _ h => h.1)); have n1_ := Aside0.mk (Kd.R_mono (Kd.R_keep (IsS93.apart (show IsS93 w0 _ g t250 t251 s0_2 t252 s0_4 s0_5 from by exact HI0.out) HO249.out (by decide)) hk (fun _ h => h.2)) (fun _ h => h.1)); have n2_ := Aside0.mk (KeepBut.trans HK.out hk (.inl rfl)); have n3_ := Aside0.mk (hb); have n4_ := Aside0.mk (hi); clear HO243; clear HO249; clear HK; clear HB; clear HI0; have HO243 := n0_; have HO249 := n1_; have HK := n2_; have HB := n3_; have HI0 := n4_; clear n0_ n1_ n2_ n3_ n4_; ((clear hb)); (skip); ((clear hk)); ((clear hi)); obtain ⟨Ao21, co21, eo21⟩ := Kd.R_slice HO243.out; subst eo21) | ((with_reducible refine gate_dst (N := 42) rfl ?_); refine Kd.R_make (Kd.int .i64) _ 3 rfl (N := 42) rfl 22 _ _ rfl ji14 rfl rfl Try.underlying22 (.int .i64 0) 8 info3 rfl (by decide) (by omega) 0 (ok := fun _ => True) (okp := fun _ => True) rfl (fun _ hk => hk) trivial (of_decide_eq_true (by (with_reducible assumption))) (Nat.le_trans (Nat.mul_le_mul_right _ (of_decide_eq_true (by (with_reducible assumption)) : ji14.toNat ≤ 35184372088832)) (by omega)) (Below.refl _ _) (Nat.le_refl _) ?_; intro v260 w22 ho23 hb hg_ hnew_; clear hg_ hnew_; ((rw [← Ny259.out] at ho23)); have n0_ := Aside0.mk (Kd.R_elder' HO243.out (Kd.R_base ho23) hb); have n1_ := Aside0.mk (Kd.R_elder' HO249.out (Kd.R_base ho23) hb); have n2_ := Aside0.mk (Kd.R_lower (Kd.R_new' (Kd.R_new' ho23 (Kd.R_lt HO243.out)) (Kd.R_lt HO249.out)) (keep_size (w := w) (g := g) (row := none) HK.out)); have n3_ := Aside0.mk (IsS93.below HI0.out hb); have n4_ := Aside0.mk (KeepBut.trans HK.out (KeepBut.of_below hb g none) (.inl rfl)); have n5_ := Aside0.mk (below_step HB.out hb); clear HO243; clear HO249; clear HI0; clear HK; clear HB; have HO243 := n0_; have HO249 := n1_; have HO261 := n2_; have HI0 := n3_; have HK := n4_; have HB := n5_; clear n0_ n1_ n2_ n3_ n4_ n5_; clear hb ho23))
      go_loopg [11] k (fun kq v11 w' => ∃ (x6_1 : List Int) (x7_1 : List Int) (x11_1 : Int) (x1000_1 : Int) (x1001_1 : Int) (x1003_1 : Int), v11 = .int .i64 x11_1 ∧ Aside0 (poly_DivMod.l0 kq t247 x6_1 x7_1 t254 x11_1 x1000_1 x1001_1 s0_2 x1003_1 s0_4 s0_5 = some (r1, r2, r3, r4, r5, r6)) ∧ Aside0 (kq ≤ k) ∧ Aside0 (Kd.R (Kd.int .i64) 3 w' w.heap.size (fun k_ => some k_ ≠ (v260 : Value).ownBlock ∧ some k_ ≠ ((.slice Ao21 t241.length co21) : Value).ownBlock) (.slice (some ad253) t247.length co19) t247) ∧ Aside0 (Kd.R (Kd.int .i64) 3 w' w.heap.size (fun k_ => some k_ ≠ ((.slice (some ad253) t247.length co19) : Value).ownBlock ∧ some k_ ≠ ((.slice Ao21 t241.length co21) : Value).ownBlock) v260 x6_1) ∧ Aside0 (Kd.R (Kd.int .i64) 3 w' w.heap.size (fun k_ => some k_ ≠ ((.slice (some ad253) t247.length co19) : Value).ownBlock ∧ some k_ ≠ (v260 : Value).ownBlock) (.slice Ao21 t241.length co21) x7_1) ∧ Aside0 (IsS93 w0 w' g x1000_1 x1001_1 s0_2 x1003_1 s0_4 s0_5) ∧ Aside0 (KeepBut w w' g none) ∧ Aside0 (Below w0.heap.size w0 w'))
      case atStart => exact ⟨(y259), (t241), (wrap64 ((t241.length : Int) - (t247.length : Int))), (t256), (t257), (t258), (by rfl), H', ⟨Nat.le_refl _⟩, ⟨by exact Kd.R_mono HO249.out (fun _ hk => ⟨hk.2, hk.1.2⟩)⟩, ⟨by exact Kd.R_mono HO261.out (fun _ hk => ⟨hk.2, hk.1.2⟩)⟩, ⟨by exact Kd.R_mono HO243.out (fun _ hk => ⟨hk.1.2, hk.2⟩)⟩, ⟨HI0.out⟩, ⟨HK.out⟩, ⟨HB.out⟩⟩
      case round =>
       clear H' c6 c6b0 c6b1 c6b2 c11b0 c12b0 c15b0 c15b1 c16b0 c16b1 hx253_0 p253 q253
       obtain ⟨x6_1, x7_1, x11_1, x1000_1, x1001_1, x1003_1, rfl, HA, HK1, HO_2, HO_6, HO_7, HI0, HK, HB⟩ := hrel
       have hl7_1 := (Kd.R_reads' HO_7.out).1
       rw [hl7_1] at HO_7
       ((simp only [hl7_1]))
       ((simp only [hl7_1] at HO_2))
       ((simp only [hl7_1] at HO_6))
       cases gk with
       | zero => exact absurd HA.out (by simp [poly_DivMod.l0])
       | succ k1 =>
        have H := HA.out
        clear HA
        simp only [poly_DivMod.l0] at H
        by_cases c24 : x11_1 ≥ 0
        ·rw [if_pos c24] at H
         have c24b0 : decide (0 ≤ x11_1) = true := decide_eq_true c24
         clear c24
         obtain ⟨ji25, hji25⟩ : ∃ j_ : Int, (wrap64 ((wrap64 (x11_1 + (t247.length : Int))) - 1)) = j_ := ⟨_, rfl⟩
         replace H : (if 0 ≤ (ji25) then (if (ji25) < (x7_1.length : Int) then ((field_GF_Mul.f x1000_1 x1001_1 s0_2 x1003_1 s0_4 s0_5 (rd x7_1 (ji25)) t254).bind fun bt269 => (if 0 ≤ x11_1 then (if x11_1 < (x6_1.length : Int) then (poly_DivMod.l1 k1 t247 (x6_1.set (x11_1 : Int).toNat bt269.1) x7_1 t254 x11_1 bt269.1 t247 (t247.length : Int) 0 bt269.2.1 bt269.2.2.1 s0_2 bt269.2.2.2 s0_4 s0_5) else (none)) else (none))) else (none)) else (none)) = some (r1, r2, r3, r4, r5, r6) := by (rw [hji25] at H; exact H)
         have hji25w : (IntKind.i64.wrap ((wrap64 (x11_1 + (t247.length : Int))) - 1)) = ji25 := (i64_w _).trans hji25
         by_cases c26 : 0 ≤ (ji25)
         ·rw [if_pos c26] at H
          have c26b0 : decide (0 ≤ (ji25)) = true := decide_eq_true c26
          clear c26
          by_cases c27 : (ji25) < (x7_1.length : Int)
          ·rw [if_pos c27] at H
           have c27b0 : decide ((ji25) < (x7_1.length : Int)) = true := decide_eq_true c27
           clear c27
           replace H := Option.bind_eq_some_iff.mp H
           obtain ⟨⟨t269, t270, t271, t272⟩, A280, H⟩ := H
           replace H : (if 0 ≤ x11_1 then (if x11_1 < (x6_1.length : Int) then (poly_DivMod.l1 k1 t247 (x6_1.set (x11_1 : Int).toNat t269) x7_1 t254 x11_1 t269 t247 (t247.length : Int) 0 t270 t271 s0_2 t272 s0_4 s0_5) else (none)) else (none)) = some (r1, r2, r3, r4, r5, r6) := H
           have A28 := Aside0.mk A280
           clear A280
           by_cases c29 : 0 ≤ x11_1
           ·rw [if_pos c29] at H
            have c29b0 : decide (0 ≤ x11_1) = true := decide_eq_true c29
            clear c29
            by_cases c30 : x11_1 < (x6_1.length : Int)
            ·rw [if_pos c30] at H
             have c30b0 : decide (x11_1 < (x6_1.length : Int)) = true := decide_eq_true c30
             clear c30
             obtain ⟨y273, hy273⟩ : ∃ y_ : List Int, y_ = (x6_1.set (x11_1 : Int).toNat t269) := ⟨_, rfl⟩
             replace H : (poly_DivMod.l1 k1 t247 y273 x7_1 t254 x11_1 t269 t247 (t247.length : Int) 0 t270 t271 s0_2 t272 s0_4 s0_5) = some (r1, r2, r3, r4, r5, r6) := by (rw [hy273]; with_reducible exact H)
             have Ny273 := Aside0.mk hy273
             clear hy273
             have H' := Aside0.mk H
             clear H
             have p268 : 0 ≤ ((ji25) : Int) := of_decide_eq_true (by (with_reducible assumption))
             have q268 : (ji25) < (x7_1.length : Int) := of_decide_eq_true (by (with_reducible assumption))
             obtain ⟨ad268, e268, hx268_0⟩ := Kd.at_int (Kd.R_reads' HO_7.out).2.2 (ji25) p268 q268
             cases e268
             replace p268 := eq_true p268
             replace q268 := eq_true q268
             go_wp2_with (first | ((with_reducible refine gate_callee (f := 54) rfl ?_); refine goesL_ (some 62) rfl rfl Try.func54 (by kernel_rfl) rfl #[.pointer (some ⟨g, 0, none⟩), .int .i64 (rd x7_1 (ji25)), .int .i64 t254] rfl (by ((simp only [List.map_toArray, List.map_cons, List.map_nil])); (rfl)) ?_; (with_reducible refine (field_GF_Mul.calls g x1000_1 x1001_1 s0_2 x1003_1 s0_4 s0_5 (rd x7_1 (ji25)) t254 t269 t270 t271 t272 w0 _ ?side1 ?side2 A28.out).mono ?_); (case side1 => repeat ((with_reducible (exact HI0.out)))); (case side2 => repeat ((with_reducible (exact HB.out)))); rintro e w32 ⟨rfl, hi, hb, hk⟩; refine ⟨_, rfl, ?_⟩; have n0_ := Aside0.mk (Kd.R_mono (Kd.R_keep (IsS93.apart (show IsS93 w0 _ g x1000_1 x1001_1 s0_2 x1003_1 s0_4 s0_5 from by exact HI0.out) HO_2.out (by decide)) hk (fun _ h => h.2)) (fun _ h => h.1)); have n1_ := Aside0.mk (Kd.R_mono (Kd.R_keep (IsS93.apart (show IsS93 w0 _ g x1000_1 x1001_1 s0_2 x1003_1 s0_4 s0_5 from by exact HI0.out) HO_6.out (by decide)) hk (fun _ h => h.2)) (fun _ h => h.1)); have n2_ := Aside0.mk (Kd.R_mono (Kd.R_keep (IsS93.apart (show IsS93 w0 _ g x1000_1 x1001_1 s0_2 x1003_1 s0_4 s0_5 from by exact HI0.out) HO_7.out (by decide)) hk (fun _ h => h.2)) (fun _ h => h.1)); have n3_ := Aside0.mk (KeepBut.trans HK.out hk (.inl rfl)); have n4_ := Aside0.mk (hb); have n5_ := Aside0.mk (hi); clear HO_2; clear HO_6; clear HO_7; clear HK; clear HB; clear HI0; have HO_2 := n0_; have HO_6 := n1_; have HO_7 := n2_; have HK := n3_; have HB := n4_; have HI0 := n5_; clear n0_ n1_ n2_ n3_ n4_ n5_; ((clear hb)); (skip); ((clear hk)); ((clear hi)); have p31 : 0 ≤ (x11_1 : Int) := of_decide_eq_true (by (with_reducible assumption)); have q31 : (x11_1 : Int) < ((x6_1.length : Int) : Int) := of_decide_eq_true (by (with_reducible assumption)); obtain ⟨go31, co31, eo31, gb31, gl31, cl31, HG31⟩ := Kd.R_form HO_6.out (by omega); ((cases eo31)); have GB31 := Aside0.mk gb31; have GG31 := Aside0.mk HG31; clear gb31 gl31 HG31; obtain ⟨hx31_0, hf31_0⟩ := Kd.R_celln 0 HO_6.out (x11_1 : Int) p31 q31; replace p31 := eq_true p31; replace q31 := eq_true q31; obtain ⟨hy33_, hz33_⟩ := Kd.R_celln 0 HO_6.out (x11_1 : Int) (of_decide_eq_true (by (with_reducible assumption))) (of_decide_eq_true (by (with_reducible assumption))); have HP33 := Kd.R_putg HO_6.out (x11_1 : Int) t269) | ((with_reducible refine gate_store (t := 3) (p := 66) rfl ?_); refine store_event (t := 3) (p := 66) (v := ?vo_w34) (w1 := (w32.setCell ⟨go31, (x11_1 : Int).toNat, none⟩ (.int .i64 t269))) ?hg ?ho ?hn ?hr ?_; (case ho => rfl); (case hg => rfl); (case hn => rfl); (case hr => (go_simp; done)); intro w34 hw; have hg : w32.grownBy w34 (some go31) := (by rw [hw]; exact HP33.2); have hp_ : Kd.R (Kd.int .i64) 3 w34 w.heap.size (fun k_ => some k_ ≠ (.slice (some ad253) t247.length co19 : Value).ownBlock ∧ some k_ ≠ (.slice (some ad268) x7_1.length co21 : Value).ownBlock) (.slice (some ⟨go31, 0, none⟩) x6_1.length co31) y273 := (by rw [hw, Ny273.out]; exact HP33.1); clear HP33; have n0_ := Aside0.mk (Kd.R_after (v := (.slice (some ⟨go31, 0, none⟩) x6_1.length co31)) (v1 := (.slice (some ⟨go31, 0, none⟩) x6_1.length co31)) (ok := (fun k_ => some k_ ≠ (.slice (some ad268) x7_1.length co21 : Value).ownBlock)) (by exact Kd.R_mono HO_2.out (fun _ hk => ⟨hk.2, hk.1⟩)) hg (.inl rfl)); have n1_ := Aside0.mk (hp_); have n2_ := Aside0.mk (Kd.R_after (v := (.slice (some ⟨go31, 0, none⟩) x6_1.length co31)) (v1 := (.slice (some ⟨go31, 0, none⟩) x6_1.length co31)) (ok := (fun k_ => some k_ ≠ (.slice (some ad253) t247.length co19 : Value).ownBlock)) HO_7.out hg (.inl rfl)); have n3_ := Aside0.mk (IsS93.grown HI0.out hg (IsS93.own_ne HI0.out HO_6.out (by decide))); have n4_ := Aside0.mk ((by rw [hw]; exact below_set (HB.out) (Nat.le_trans HL.out GB31.out) : Below w0.heap.size w0 w34)); have n5_ := Aside0.mk (KeepBut.trans HK.out (KeepBut.of_grown hg g) (Kd.R_base2 HO_6.out)); clear HO_2; clear HO_6; clear HO_7; clear HI0; clear HB; clear HK; have HO_2 := n0_; have HO_6 := n1_; have HO_7 := n2_; have HI0 := n3_; have HB := n4_; have HK := n5_; clear n0_ n1_ n2_ n3_ n4_ n5_; clear hg hw hp_))
             go_loopg [69] k1 (fun kq v69 w' => ∃ (x7_2 : List Int) (x69_2 : Int) (x1000_2 : Int) (x1001_2 : Int) (x1003_2 : Int), v69 = .int .i64 x69_2 ∧ Aside0 (poly_DivMod.l1 kq t247 y273 x7_2 t254 x11_1 t269 t247 (t247.length : Int) x69_2 x1000_2 x1001_2 s0_2 x1003_2 s0_4 s0_5 = some (r1, r2, r3, r4, r5, r6)) ∧ Aside0 (kq ≤ k1) ∧ Aside0 (Kd.R (Kd.int .i64) 3 w' w.heap.size (fun k_ => some k_ ≠ ((.slice (some ⟨go31, 0, none⟩) x6_1.length co31) : Value).ownBlock ∧ some k_ ≠ ((.slice (some ad268) x7_1.length co21) : Value).ownBlock) (.slice (some ad253) t247.length co19) t247) ∧ Aside0 (Kd.R (Kd.int .i64) 3 w' w.heap.size (fun k_ => some k_ ≠ ((.slice (some ad253) t247.length co19) : Value).ownBlock ∧ some k_ ≠ ((.slice (some ad268) x7_1.length co21) : Value).ownBlock ∧ some k_ ≠ ((.slice (some ad253) t247.length co19) : Value).ownBlock) (.slice (some ⟨go31, 0, none⟩) x6_1.length co31) y273) ∧ Aside0 (Kd.R (Kd.int .i64) 3 w' w.heap.size (fun k_ => some k_ ≠ ((.slice (some ad253) t247.length co19) : Value).ownBlock ∧ some k_ ≠ ((.slice (some ⟨go31, 0, none⟩) x6_1.length co31) : Value).ownBlock ∧ some k_ ≠ ((.slice (some ad253) t247.length co19) : Value).ownBlock) (.slice (some ad268) x7_1.length co21) x7_2) ∧ Aside0 (Kd.R (Kd.int .i64) 3 w' w.heap.size (fun k_ => some k_ ≠ ((.slice (some ⟨go31, 0, none⟩) x6_1.length co31) : Value).ownBlock ∧ some k_ ≠ ((.slice (some ad268) x7_1.length co21) : Value).ownBlock) (.slice (some ad253) t247.length co19) t247) ∧ Aside0 (IsS93 w0 w' g x1000_2 x1001_2 s0_2 x1003_2 s0_4 s0_5) ∧ Aside0 (KeepBut w w' g none) ∧ Aside0 (Below w0.heap.size w0 w'))
             case atStart => exact ⟨(x7_1), (0), (t270), (t271), (t272), (by rfl), H', ⟨Nat.le_refl _⟩, ⟨by (skip); (with_reducible repeat (fail)); exact Kd.R_mono HO_2.out (fun _ hk => ⟨hk.2, hk.1⟩)⟩, ⟨by (skip); (with_reducible repeat (fail)); exact Kd.R_mono HO_6.out (fun _ hk => ⟨hk.1, ⟨hk.2, hk.1⟩⟩)⟩, ⟨by (skip); (with_reducible repeat (fail)); exact Kd.R_mono HO_7.out (fun _ hk => ⟨hk.1, ⟨hk.2, hk.1⟩⟩)⟩, ⟨by (skip); (with_reducible repeat (fail)); exact Kd.R_mono HO_2.out (fun _ hk => ⟨hk.2, hk.1⟩)⟩, ⟨HI0.out⟩, ⟨HK.out⟩, ⟨HB.out⟩⟩
             case round =>
              clear H' c24b0 c26b0 c27b0 c29b0 c30b0 p31 q31 hx268_0 hx31_0 p268 q268
              obtain ⟨x7_2, x69_2, x1000_2, x1001_2, x1003_2, rfl, HA, HK2, HO_2, HO_6, HO_7, HO_67, HI0, HK, HB⟩ := hrel
              have hl6_2 := (Kd.R_reads' HO_6.out).1
              rw [hl6_2] at HO_6
              ((simp only [hl6_2]))
              ((simp only [hl6_2] at HO_2))
              ((simp only [hl6_2] at HO_7))
              ((simp only [hl6_2] at HO_67))
              have hl7_2 := (Kd.R_reads' HO_7.out).1
              rw [hl7_2] at HO_7
              ((simp only [hl7_2]))
              ((simp only [hl7_2] at HO_2))
              ((simp only [hl7_2] at HO_6))
              ((simp only [hl7_2] at HO_67))
              cases gk with
              | zero => exact absurd HA.out (by simp [poly_DivMod.l1])
              | succ k2 =>
               have H := HA.out
               clear HA
               simp only [poly_DivMod.l1] at H
               by_cases c35 : x69_2 < (t247.length : Int)
               ·rw [if_pos c35] at H
                have c35b0 : decide (x69_2 < (t247.length : Int)) = true := decide_eq_true c35
                clear c35
                by_cases c36 : 0 ≤ x69_2
                ·rw [if_pos c36] at H
                 have c36b0 : decide (0 ≤ x69_2) = true := decide_eq_true c36
                 clear c36
                 by_cases c37 : x69_2 < (t247.length : Int)
                 ·rw [if_pos c37] at H
                  have c37b0 : decide (x69_2 < (t247.length : Int)) = true := decide_eq_true c37
                  clear c37
                  obtain ⟨ji38, hji38⟩ : ∃ j_ : Int, (wrap64 (x11_1 + x69_2)) = j_ := ⟨_, rfl⟩
                  replace H : (if 0 ≤ (ji38) then (if (ji38) < (x7_2.length : Int) then ((field_GF_Mul.f x1000_2 x1001_2 s0_2 x1003_2 s0_4 s0_5 t269 (rd t247 x69_2)).bind fun bt276 => ((field_GF_Sub.f k2 bt276.2.1 bt276.2.2.1 s0_2 bt276.2.2.2 s0_4 s0_5 (rd x7_2 (ji38)) bt276.1).bind fun bt280 => (poly_DivMod.l1 k2 t247 y273 (x7_2.set ((ji38) : Int).toNat bt280.1) t254 x11_1 t269 t247 (t247.length : Int) (wrap64 (x69_2 + 1)) bt280.2.1 bt280.2.2.1 s0_2 bt280.2.2.2 s0_4 s0_5))) else (none)) else (none)) = some (r1, r2, r3, r4, r5, r6) := by (rw [hji38] at H; exact H)
                  have hji38w : (IntKind.i64.wrap (x11_1 + x69_2)) = ji38 := (i64_w _).trans hji38
                  by_cases c39 : 0 ≤ (ji38)
                  ·rw [if_pos c39] at H
                   have c39b0 : decide (0 ≤ (ji38)) = true := decide_eq_true c39
                   clear c39
                   by_cases c40 : (ji38) < (x7_2.length : Int)
                   ·rw [if_pos c40] at H
                    have c40b0 : decide ((ji38) < (x7_2.length : Int)) = true := decide_eq_true c40
                    clear c40
                    replace H := Option.bind_eq_some_iff.mp H
                    obtain ⟨⟨t276, t277, t278, t279⟩, A410, H⟩ := H
                    replace H : ((field_GF_Sub.f k2 t277 t278 s0_2 t279 s0_4 s0_5 (rd x7_2 (ji38)) t276).bind fun bt280 => (poly_DivMod.l1 k2 t247 y273 (x7_2.set ((ji38) : Int).toNat bt280.1) t254 x11_1 t269 t247 (t247.length : Int) (wrap64 (x69_2 + 1)) bt280.2.1 bt280.2.2.1 s0_2 bt280.2.2.2 s0_4 s0_5)) = some (r1, r2, r3, r4, r5, r6) := H
                    have A41 := Aside0.mk A410
                    clear A410
                    replace H := Option.bind_eq_some_iff.mp H
                    obtain ⟨⟨t280, t281, t282, t283⟩, A420, H⟩ := H
                    replace H : (poly_DivMod.l1 k2 t247 y273 (x7_2.set ((ji38) : Int).toNat t280) t254 x11_1 t269 t247 (t247.length : Int) (wrap64 (x69_2 + 1)) t281 t282 s0_2 t283 s0_4 s0_5) = some (r1, r2, r3, r4, r5, r6) := H
                    have A42 := Aside0.mk A420
                    clear A420
                    obtain ⟨y284, hy284⟩ : ∃ y_ : List Int, y_ = (x7_2.set ((ji38) : Int).toNat t280) := ⟨_, rfl⟩
                    replace H : (poly_DivMod.l1 k2 t247 y273 y284 t254 x11_1 t269 t247 (t247.length : Int) (wrap64 (x69_2 + 1)) t281 t282 s0_2 t283 s0_4 s0_5) = some (r1, r2, r3, r4, r5, r6) := by (rw [hy284]; with_reducible exact H)
                    have Ny284 := Aside0.mk hy284
                    clear hy284
                    have H' := Aside0.mk H
                    clear H
                    have p274 : 0 ≤ (x69_2 : Int) := of_decide_eq_true (by (with_reducible assumption))
                    have q274 : x69_2 < (t247.length : Int) := of_decide_eq_true (by (with_reducible assumption))
                    obtain ⟨ad274, e274, hx274_0⟩ := Kd.at_int (Kd.R_reads' HO_67.out).2.2 x69_2 p274 q274
                    obtain rfl : ad253 = ad274 := (by injection e274)
                    replace p274 := eq_true p274
                    replace q274 := eq_true q274
                    (go_wp2)
                    have n0_ := Aside0.mk (Kd.R_drew HO_2.out)
                    have n1_ := Aside0.mk (Kd.R_drew HO_6.out)
                    have n2_ := Aside0.mk (Kd.R_drew HO_7.out)
                    have n3_ := Aside0.mk (Kd.R_drew HO_67.out)
                    have n4_ := Aside0.mk (IsS93.drew HI0.out)
                    have n5_ := Aside0.mk (keep_drew HK.out)
                    have n6_ := Aside0.mk (below_drew1 HB.out)
                    clear HO_2 HO_6 HO_7 HO_67 HI0 HK HB
                    have HO_2 := n0_
                    have HO_6 := n1_
                    have HO_7 := n2_
                    have HO_67 := n3_
                    have HI0 := n4_
                    have HK := n5_
                    have HB := n6_
                    clear n0_ n1_ n2_ n3_ n4_ n5_ n6_
                    have p275 : 0 ≤ ((ji38) : Int) := of_decide_eq_true (by (with_reducible assumption))
                    have q275 : (ji38) < (x7_2.length : Int) := of_decide_eq_true (by (with_reducible assumption))
                    obtain ⟨ad275, e275, hx275_0⟩ := Kd.at_int (Kd.R_reads' HO_7.out).2.2 (ji38) p275 q275
                    obtain rfl : ad268 = ad275 := (by injection e275)
                    replace p275 := eq_true p275
                    replace q275 := eq_true q275
                    refine start_ (n := 18) (S := fun w' => w'.cell? (ad268.add ((ji38)).toNat) = some (.int .i64 (rd x7_2 (ji38)))) (ds := [17]) (bm 18 0) (by kernel_rfl) rfl rfl (hx275_0) (fun hHeld => ?_); refine with_tabW poly_DivMod.tab14 poly_DivMod.bits14 (fun HT_ HW_ => ?_)
                    generalize wr.drew = w44 at HO_2 HO_6 HO_7 HO_67 HI0 HK HB hx275_0 hHeld ⊢
                    refine pure_ (i := 0) (N := some 74) (v := ?_) (a' := ?_) (bm 18 1) rfl rfl (any_of HT_.out (by kernel_rfl)) (fun _ _ _ h => h) (Or.inl ⟨by rfl, ?_⟩) ?_ ?_;rotate_left;(intro w';go_simp;with_reducible rfl);rotate_left;(simp only [ps_];rfl)
                    refine pure_ (i := 1) (N := some 75) (v := ?_) (a' := ?_) (bm 18 3) rfl rfl (any_of HT_.out (by kernel_rfl)) (fun _ _ _ h => h) (Or.inl ⟨by rfl, ?_⟩) ?_ ?_;rotate_left;(intro w';go_simp;with_reducible rfl);rotate_left;(simp only [ps_];rfl)
                    refine pure_ (i := 2) (N := some 76) (v := ?_) (a' := ?_) (bm 18 7) rfl rfl (any_of HT_.out (by kernel_rfl)) (fun _ _ _ h => h) (Or.inl ⟨by rfl, ?_⟩) ?_ ?_;rotate_left;(intro w';go_simp;with_reducible rfl);rotate_left;(simp only [ps_];rfl)
                    refine pure_ (i := 3) (N := some 77) (v := ?_) (a' := ?_) (bm 18 15) rfl rfl (any_of HT_.out (by kernel_rfl)) (fun _ _ _ h => h) (Or.inl ⟨by rfl, ?_⟩) ?_ ?_;rotate_left;(intro w';go_simp;with_reducible rfl);rotate_left;(simp only [ps_];rfl)
                    refine pure_ (i := 4) (N := some 78) (v := ?_) (a' := ?_) (bm 18 31) rfl rfl (any_of HT_.out (by kernel_rfl)) (fun _ _ _ h => h) (Or.inl ⟨by rfl, ?_⟩) ?_ ?_;rotate_left;(intro w';go_simp;with_reducible rfl);rotate_left;(simp only [ps_];rfl)
                    refine pure_ (i := 5) (N := some 79) (v := ?_) (a' := ?_) (bm 18 63) rfl rfl (any_of HT_.out (by kernel_rfl)) (fun _ _ _ h => h) (Or.inl ⟨by rfl, ?_⟩) ?_ ?_;rotate_left;(intro w';go_simp;with_reducible rfl);rotate_left;(simp only [ps_];rfl)
                    refine pure_ (i := 6) (N := some 80) (v := ?_) (a' := ?_) (bm 18 127) rfl rfl (any_of HT_.out (by kernel_rfl)) (fun _ _ _ h => h) (Or.inl ⟨by rfl, ?_⟩) ?_ ?_;rotate_left;(intro w';go_simp;with_reducible rfl);rotate_left;(simp only [ps_];rfl)
                    refine pure_ (i := 7) (N := some 81) (v := ?_) (a' := ?_) (bm 18 255) rfl rfl (any_of HT_.out (by kernel_rfl)) (fun _ _ _ h => h) (Or.inl ⟨by rfl, ?_⟩) ?_ ?_;rotate_left;(intro w';go_simp;with_reducible rfl);rotate_left;(simp only [ps_];rfl)
                    refine pure_ (i := 8) (N := some 82) (v := ?_) (a' := ?_) (bm 18 511) rfl rfl (any_of HT_.out (by kernel_rfl)) (fun _ _ _ h => h) (Or.inl ⟨by rfl, ?_⟩) ?_ ?_;rotate_left;(intro w';go_simp;with_reducible rfl);rotate_left;(simp only [ps_];rfl)
                    refine pure_ (i := 9) (N := some 83) (v := ?_) (a' := ?_) (bm 18 1023) rfl rfl (any_of HT_.out (by kernel_rfl)) (fun _ _ _ h => h) (Or.inl ⟨by rfl, ?_⟩) ?_ ?_;rotate_left;(intro w';go_simp;with_reducible rfl);rotate_left;(simp only [ps_];rfl)
                    refine pure_ (i := 11) (N := some 85) (v := ?_) (a' := ?_) (bm 18 3071) rfl rfl (any_of HT_.out (by kernel_rfl)) (fun _ _ _ h => h) (Or.inl ⟨by rfl, ?_⟩) ?_ ?_;rotate_left;(intro w';go_simp;with_reducible rfl);rotate_left;(simp only [ps_];rfl)
                    refine pure_ (i := 12) (N := some 86) (v := ?_) (a' := ?_) (bm 18 7167) rfl rfl (any_of HT_.out (by kernel_rfl)) (fun _ _ _ h => h) (Or.inl ⟨by rfl, ?_⟩) ?_ ?_;rotate_left;(intro w';go_simp;with_reducible rfl);rotate_left;(simp only [ps_];rfl)
                    refine pure_ (i := 13) (N := some 87) (v := ?_) (a' := ?_) (bm 18 15359) rfl rfl (any_of HT_.out (by kernel_rfl)) (fun _ _ _ h => h) (Or.inl ⟨by rfl, ?_⟩) ?_ ?_;rotate_left;(intro w';go_simp;with_reducible rfl);rotate_left;(simp only [ps_];rfl)
                    refine take_ (i := 10) (N := some 84) (v := ?_) (a' := ?_) (bm 18 16383) rfl rfl (take_ofW HT_.out HW_.out (by kernel_rfl)) (fun _ _ _ h => h) (Or.inl ⟨by rfl, ?_⟩) hHeld ?_ ?_
                    rotate_left
                    ·intro w' s0
                     go_simp
                     with_reducible rfl
                    rotate_left
                    ·simp only [Act.put, List.setIfInBounds_toArray, List.set_cons_zero, List.set_cons_succ, i64_w, i32_w]
                     rfl
                    refine one_ (i := 14) (N := some 88) (bm 18 32767) rfl rfl (one_of HT_.out (by kernel_rfl)) (by decide) (fun K hK => ?_)
                    refine goes_ Try.func54 (by kernel_rfl) rfl #[.pointer (some ⟨g, 0, none⟩), .int .i64 t269, .int .i64 (rd t247 x69_2)] (by rfl) rfl rfl (by ((simp only [List.map_toArray, List.map_cons, List.map_nil])); (rfl)) ?_
                    with_reducible refine (field_GF_Mul.calls g x1000_2 x1001_2 s0_2 x1003_2 s0_4 s0_5 t269 (rd t247 x69_2) t276 t277 t278 t279 w0 _ ?side1 ?side2 A41.out).mono ?_
                    (case side1 => repeat ((with_reducible (exact HI0.out))))
                    (case side2 => repeat ((with_reducible (exact HB.out))))
                    rintro e w45 ⟨rfl, hi, hb, hk⟩
                    have HS0_ := keep_cell hk (hHeld) (by (rw [add_block]; exact Kd.own_blk (IsS93.own_ne HI0.out HO_7.out (by decide))))
                    refine ⟨_, rfl, ?_⟩
                    have n0_ := Aside0.mk (Kd.R_mono (Kd.R_keep (IsS93.apart (show IsS93 w0 _ g x1000_2 x1001_2 s0_2 x1003_2 s0_4 s0_5 from by exact HI0.out) HO_2.out (by decide)) hk (fun _ h => h.2)) (fun _ h => h.1))
                    have n1_ := Aside0.mk (Kd.R_mono (Kd.R_keep (IsS93.apart (show IsS93 w0 _ g x1000_2 x1001_2 s0_2 x1003_2 s0_4 s0_5 from by exact HI0.out) HO_6.out (by decide)) hk (fun _ h => h.2)) (fun _ h => h.1))
                    have n2_ := Aside0.mk (Kd.R_mono (Kd.R_keep (IsS93.apart (show IsS93 w0 _ g x1000_2 x1001_2 s0_2 x1003_2 s0_4 s0_5 from by exact HI0.out) HO_7.out (by decide)) hk (fun _ h => h.2)) (fun _ h => h.1))
                    have n3_ := Aside0.mk (Kd.R_mono (Kd.R_keep (IsS93.apart (show IsS93 w0 _ g x1000_2 x1001_2 s0_2 x1003_2 s0_4 s0_5 from by exact HI0.out) HO_67.out (by decide)) hk (fun _ h => h.2)) (fun _ h => h.1))
                    have n4_ := Aside0.mk (KeepBut.trans HK.out hk (.inl rfl))
                    have n5_ := Aside0.mk (hb)
                    have n6_ := Aside0.mk (hi)
                    clear HO_2 HO_6 HO_7 HO_67 HK HB HI0
                    have HO_2 := n0_
                    have HO_6 := n1_
                    have HO_7 := n2_
                    have HO_67 := n3_
                    have HK := n4_
                    have HB := n5_
                    have HI0 := n6_
                    clear n0_ n1_ n2_ n3_ n4_ n5_ n6_
                    ((clear hb))
                    ((clear hk))
                    ((clear hi))
                    refine hK.out _ _ (HS0_) (fun hHeld => ?_)
                    clear hK K
                    refine norm_ (a' := ?_) ?_ ?_
                    rotate_left
                    ·show Act.put _ (some 88) _ = _
                     simp only [Act.put, List.setIfInBounds_toArray, List.set_cons_zero, List.set_cons_succ, i64_w, i32_w]
                     rfl
                    refine one_ (i := 15) (N := some 89) (bm 18 65535) rfl rfl (one_of HT_.out (by kernel_rfl)) (by decide) (fun K hK => ?_)
                    refine goes_ Try.func83 (by kernel_rfl) rfl #[.pointer (some ⟨g, 0, none⟩), .int .i64 (rd x7_2 (ji38)), .int .i64 t276] (by rfl) rfl rfl (by ((simp only [List.map_toArray, List.map_cons, List.map_nil])); (rfl)) ?_
                    with_reducible refine (field_GF_Sub.calls k2 g t277 t278 s0_2 t279 s0_4 s0_5 (rd x7_2 (ji38)) t276 t280 t281 t282 t283 w0 _ ?side1 ?side2 A42.out).mono ?_
                    (case side1 => repeat ((with_reducible (exact HI0.out))))
                    (case side2 => repeat ((with_reducible (exact HB.out))))
                    rintro e w46 ⟨rfl, hi, hb, hk⟩
                    have HS0_ := keep_cell hk (hHeld) (by (rw [add_block]; exact Kd.own_blk (IsS93.own_ne HI0.out HO_7.out (by decide))))
                    refine ⟨_, rfl, ?_⟩
                    have n0_ := Aside0.mk (Kd.R_mono (Kd.R_keep (IsS93.apart (show IsS93 w0 _ g t277 t278 s0_2 t279 s0_4 s0_5 from by exact HI0.out) HO_2.out (by decide)) hk (fun _ h => h.2)) (fun _ h => h.1))
                    have n1_ := Aside0.mk (Kd.R_mono (Kd.R_keep (IsS93.apart (show IsS93 w0 _ g t277 t278 s0_2 t279 s0_4 s0_5 from by exact HI0.out) HO_6.out (by decide)) hk (fun _ h => h.2)) (fun _ h => h.1))
                    have n2_ := Aside0.mk (Kd.R_mono (Kd.R_keep (IsS93.apart (show IsS93 w0 _ g t277 t278 s0_2 t279 s0_4 s0_5 from by exact HI0.out) HO_7.out (by decide)) hk (fun _ h => h.2)) (fun _ h => h.1))
                    have n3_ := Aside0.mk (Kd.R_mono (Kd.R_keep (IsS93.apart (show IsS93 w0 _ g t277 t278 s0_2 t279 s0_4 s0_5 from by exact HI0.out) HO_67.out (by decide)) hk (fun _ h => h.2)) (fun _ h => h.1))
                    have n4_ := Aside0.mk (KeepBut.trans HK.out hk (.inl rfl))
                    have n5_ := Aside0.mk (hb)
                    have n6_ := Aside0.mk (hi)
                    clear HO_2 HO_6 HO_7 HO_67 HK HB HI0
                    have HO_2 := n0_
                    have HO_6 := n1_
                    have HO_7 := n2_
                    have HO_67 := n3_
                    have HK := n4_
                    have HB := n5_
                    have HI0 := n6_
                    clear n0_ n1_ n2_ n3_ n4_ n5_ n6_
                    ((clear hb))
                    ((clear hk))
                    ((clear hi))
                    have p43 : 0 ≤ ((ji38) : Int) := of_decide_eq_true (by (with_reducible assumption))
                    have q43 : ((ji38) : Int) < ((x7_2.length : Int) : Int) := of_decide_eq_true (by (with_reducible assumption))
                    obtain ⟨go43, co43, eo43, gb43, gl43, cl43, HG43⟩ := Kd.R_form HO_7.out (by omega)
                    ((cases eo43))
                    have GB43 := Aside0.mk gb43
                    have GG43 := Aside0.mk HG43
                    clear gb43 gl43 HG43
                    ((skip))
                    ((simp only [add_plain] at hx275_0))
                    obtain ⟨hx43_0, hf43_0⟩ := Kd.R_celln 0 HO_7.out ((ji38) : Int) p43 q43
                    replace p43 := eq_true p43
                    replace q43 := eq_true q43
                    have HN0_go43 := Aside0.mk (show g ≠ go43 from by have h_ := IsS93.own_ne HI0.out HO_7.out (by decide); intro e_; exact h_ (by rw [e_]; rfl))
                    have HP47 := Kd.R_putn HO_7.out ((ji38) : Int) t280
                    rw [← Ny284.out] at HP47
                    have HQ47 := Aside0.mk HP47
                    clear HP47
                    refine hK.out _ _ (HS0_) (fun hHeld => ?_)
                    clear hK K
                    refine norm_ (a' := ?_) ?_ ?_
                    rotate_left
                    ·show Act.put _ (some 89) _ = _
                     simp only [Act.put, List.setIfInBounds_toArray, List.set_cons_zero, List.set_cons_succ, i64_w, i32_w]
                     rfl
                    refine pure_ (i := 16) (N := some 90) (v := ?_) (a' := ?_) (bm 18 131071) rfl rfl (any_of HT_.out (by kernel_rfl)) (fun _ _ _ h => h) (Or.inl ⟨by rfl, ?_⟩) ?_ ?_;rotate_left;(intro w';go_simp;with_reducible rfl);rotate_left;(simp only [ps_];rfl)
                    refine last_ (i := 17) (N := none) (bm 18 262143) rfl rfl (one_of HT_.out (by kernel_rfl)) (by decide) (fun K hK => ?_)
                    refine skip_ (w1 := ?_) (by rfl) rfl ?_ ?_
                    rotate_left
                    ·go_simp
                     rfl
                    refine hK.out _ _ ?_
                    clear hK K
                    refine done_ (done_of HT_.out (by kernel_rfl)) ?_
                    (go_wp2)
                    ((simp only [← hl6_2, ← hl7_2]))
                    (simp only [add_plain] at *)
                    go_roundg k2
                    case measure => have := HK1.out; have := HK2.out; omega
                    case rel => exact ⟨(y284), (wrap64 (x69_2 + 1)), (t281), (t282), (t283), (by rfl), H', ⟨by have := HK1.out; have := HK2.out; omega⟩, ⟨by (skip); ((simp only [hl6_2])); ((simp only [hl7_2])); (with_reducible repeat (fail)); exact Kd.R_mono (Kd.R_far (p := ⟨go43, ((ji38) : Int).toNat, none⟩) (Kd.R_mono HO_2.out (fun k_ hk => (⟨hk, fun e_ => hk.2 (by rw [e_]; rfl)⟩ : _ ∧ k_ ≠ go43))) (fun _ hk => hk.2) (.int .i64 t280)) (fun _ hk => ⟨hk.1.1, hk.1.2⟩)⟩, ⟨by (skip); ((simp only [hl6_2])); ((simp only [hl7_2])); (with_reducible repeat (fail)); exact Kd.R_mono (Kd.R_far (p := ⟨go43, ((ji38) : Int).toNat, none⟩) (Kd.R_mono HO_6.out (fun k_ hk => (⟨hk, fun e_ => hk.2.1 (by rw [e_]; rfl)⟩ : _ ∧ k_ ≠ go43))) (fun _ hk => hk.2) (.int .i64 t280)) (fun _ hk => ⟨hk.1.1, ⟨hk.1.2.1, hk.1.2.2⟩⟩)⟩, ⟨by (skip); ((simp only [hl6_2])); ((simp only [hl7_2])); (with_reducible repeat (fail)); exact HQ47.out⟩, ⟨by (skip); ((simp only [hl6_2])); ((simp only [hl7_2])); (with_reducible repeat (fail)); exact Kd.R_mono (Kd.R_far (p := ⟨go43, ((ji38) : Int).toNat, none⟩) (Kd.R_mono HO_67.out (fun k_ hk => (⟨hk, fun e_ => hk.2 (by rw [e_]; rfl)⟩ : _ ∧ k_ ≠ go43))) (fun _ hk => hk.2) (.int .i64 t280)) (fun _ hk => ⟨hk.1.1, hk.1.2⟩)⟩, ⟨by repeat ((with_reducible first | (exact HI0.out) | (refine IsS93.far ?_ HN0_go43.out _)))⟩, ⟨by repeat ((with_reducible first | (exact HK.out) | (refine keep_far ?_ GB43.out _)))⟩, ⟨by repeat ((with_reducible first | (exact HB.out) | (refine below_set ?_ (Nat.le_trans HL.out GB43.out))))⟩⟩
                   ·rw [if_neg c40] at H
                    exact absurd H (by simp)
                  ·rw [if_neg c39] at H
                   exact absurd H (by simp)
                 ·rw [if_neg c37] at H
                  exact absurd H (by simp)
                ·rw [if_neg c36] at H
                 exact absurd H (by simp)
               ·rw [if_neg c35] at H
                have c35b0 : decide (x69_2 < (t247.length : Int)) = false := decide_eq_false c35
                clear c35
                have H' := Aside0.mk H
                clear H
                go_wp2
                ((simp only [← hl7_1, ← hl6_2, ← hl7_2]))
                go_roundg k2
                case measure => have := HK1.out; have := HK2.out; omega
                case rel => exact ⟨(y273), (x7_2), (wrap64 (x11_1 - 1)), (x1000_2), (x1001_2), (x1003_2), (by rfl), H', ⟨by have := HK1.out; have := HK2.out; omega⟩, ⟨by ((simp only [hl7_1])); ((simp only [hl6_2])); ((simp only [hl7_2])); (with_reducible repeat (fail)); exact HO_2.out⟩, ⟨by ((simp only [hl7_1])); ((simp only [hl6_2])); ((simp only [hl7_2])); (with_reducible repeat (fail)); exact Kd.R_mono HO_6.out (fun _ hk => ⟨hk.1, hk.2.1⟩)⟩, ⟨by ((simp only [hl7_1])); ((simp only [hl6_2])); ((simp only [hl7_2])); (with_reducible repeat (fail)); exact Kd.R_mono HO_7.out (fun _ hk => ⟨hk.1, hk.2.1⟩)⟩, ⟨HI0.out⟩, ⟨HK.out⟩, ⟨HB.out⟩⟩
            ·rw [if_neg c30] at H
             exact absurd H (by simp)
           ·rw [if_neg c29] at H
            exact absurd H (by simp)
          ·rw [if_neg c27] at H
           exact absurd H (by simp)
         ·rw [if_neg c26] at H
          exact absurd H (by simp)
        ·rw [if_neg c24] at H
         have c24b0 : decide (0 ≤ x11_1) = false := decide_eq_false c24
         clear c24
         obtain ⟨t262, A480, H⟩ := Option.bind_eq_some_iff.mp H
         replace H : ((poly_trim.f k1 x7_1).bind fun t265 => (some (t262, t265, 0, x1000_1, x1001_1, x1003_1))) = some (r1, r2, r3, r4, r5, r6) := H
         have A48 := Aside0.mk A480
         clear A480
         obtain ⟨t265, A490, H⟩ := Option.bind_eq_some_iff.mp H
         replace H : (some (t262, t265, 0, x1000_1, x1001_1, x1003_1)) = some (r1, r2, r3, r4, r5, r6) := H
         have A49 := Aside0.mk A490
         clear A490
         simp only [Option.some.injEq, Prod.mk.injEq] at H
         obtain ⟨rfl, rfl, rfl, rfl, rfl, rfl⟩ := H
         obtain ⟨Ao50, co50, eo50⟩ := Kd.R_slice HO_6.out
         subst eo50
         go_wp2_with (first | ((with_reducible refine gate_callee (f := 80) rfl ?_); refine goesL_ (some 93) rfl rfl Try.func80 (by kernel_rfl) rfl #[.slice Ao50 x6_1.length co50] rfl (by ((simp only [List.map_toArray, List.map_cons, List.map_nil])); (rfl)) ?_; (with_reducible refine (poly_trim.calls k1 (fun k_ => some k_ = (.slice Ao50 x6_1.length co50 : Value).ownBlock) (.slice Ao50 x6_1.length co50) x6_1 t262 w0 _ ?side1 ?side2 A48.out).mono ?_); (case side1 => repeat ((with_reducible (exact HB.out)))); (case side2 => exact Kd.R_lower (Kd.R_tight rfl HO_6.out) HL.out); rintro e w51 ⟨v263, rfl, ho0, hb, hkp⟩; refine ⟨_, rfl, ?_⟩; have n0_ := Aside0.mk (Kd.R_mono (ok' := fun k_ => some k_ ≠ (.slice Ao21 x7_1.length co21 : Value).ownBlock ∧ some k_ ≠ (v263 : Value).ownBlock) (Kd.R_keptB (HO_2.out) hkp (fun k_ hk_ hs_ => (hk_.1) hs_)) (fun k_ hk_ => ⟨hk_.1.2, fun e_ => Or.elim (ho0.1 k_ e_.symm) (fun hs_ => hk_.2.1 hs_) (fun hn_ => Nat.not_le.2 hk_.2.2 hn_)⟩)); have n1_ := Aside0.mk (Kd.R_mono (ok' := fun k_ => some k_ ≠ (.slice (some ad253) t247.length co19 : Value).ownBlock ∧ some k_ ≠ (v263 : Value).ownBlock) (Kd.R_keptB (HO_7.out) hkp (fun k_ hk_ hs_ => (hk_.2) hs_)) (fun k_ hk_ => ⟨hk_.1.1, fun e_ => Or.elim (ho0.1 k_ e_.symm) (fun hs_ => hk_.2.1 hs_) (fun hn_ => Nat.not_le.2 hk_.2.2 hn_)⟩)); have n2_ := Aside0.mk (IsS93.kept HI0.out hkp (fun hs_ => (fun e_ => (IsS93.own_ne HI0.out HO_6.out (by decide)) e_) hs_)); have n3_ := Aside0.mk (Kd.R_mono (ok' := fun k_ => some k_ ≠ (.slice (some ad253) t247.length co19 : Value).ownBlock ∧ some k_ ≠ (.slice Ao21 x7_1.length co21 : Value).ownBlock) (Kd.R_raise (d := (Kd.int .i64)) (b := w0.heap.size) (b' := w.heap.size) (fun _ _ _ _ h_ => h_) ho0 (fun k_ e_ => Or.elim (ho0.1 k_ e_) (fun hs_ => (fun e_ => Kd.R_base HO_6.out k_ e_.symm) hs_) (fun hn_ => Nat.le_trans (keep_size (w := w) (g := g) (row := none) HK.out) hn_))) (fun k_ hk_ => ⟨Or.elim hk_ (fun hs_ => fun e_ => (((HO_2.out).1 k_ e_.symm).1) hs_) (fun hn_ => (Kd.fresh' (Kd.R_lt HO_2.out) k_ hn_)), Or.elim hk_ (fun hs_ => fun e_ => (((HO_7.out).1 k_ e_.symm).2) hs_) (fun hn_ => (Kd.fresh' (Kd.R_lt HO_7.out) k_ hn_))⟩)); have n4_ := Aside0.mk (Kept.keepG HK.out hkp (fun k_ hs_ => (fun e_ => .inr (Kd.R_base HO_6.out k_ e_.symm)) hs_)); have n5_ := Aside0.mk (hb); clear HO_2; clear HO_7; clear HI0; clear HK; clear HB; clear HO_6; have HO_2 := n0_; have HO_7 := n1_; have HI0 := n2_; have HO264 := n3_; have HK := n4_; have HB := n5_; clear n0_ n1_ n2_ n3_ n4_ n5_; ((clear hb)); ((clear hkp)); ((clear ho0))) | ((with_reducible refine gate_callee (f := 80) rfl ?_); refine goesL_ (some 95) rfl rfl Try.func80 (by kernel_rfl) rfl #[.slice Ao21 x7_1.length co21] rfl (by ((simp only [List.map_toArray, List.map_cons, List.map_nil])); (rfl)) ?_; (with_reducible refine (poly_trim.calls k1 (fun k_ => some k_ = (.slice Ao21 x7_1.length co21 : Value).ownBlock) (.slice Ao21 x7_1.length co21) x7_1 t265 w0 _ ?side1 ?side2 A49.out).mono ?_); (case side1 => repeat ((with_reducible (exact HB.out)))); (case side2 => exact Kd.R_lower (Kd.R_tight rfl HO_7.out) HL.out); rintro e w52 ⟨v266, rfl, ho0, hb, hkp⟩; refine ⟨_, rfl, ?_⟩; have n0_ := Aside0.mk (Kd.R_mono (ok' := fun k_ => some k_ ≠ (v263 : Value).ownBlock ∧ some k_ ≠ (v266 : Value).ownBlock) (Kd.R_keptB (HO_2.out) hkp (fun k_ hk_ hs_ => (hk_.1) hs_)) (fun k_ hk_ => ⟨hk_.1.2, fun e_ => Or.elim (ho0.1 k_ e_.symm) (fun hs_ => hk_.2.1 hs_) (fun hn_ => Nat.not_le.2 hk_.2.2 hn_)⟩)); have n1_ := Aside0.mk (IsS93.kept HI0.out hkp (fun hs_ => (fun e_ => (IsS93.own_ne HI0.out HO_7.out (by decide)) e_) hs_)); have n2_ := Aside0.mk (Kd.R_mono (ok' := fun k_ => some k_ ≠ (.slice (some ad253) t247.length co19 : Value).ownBlock ∧ some k_ ≠ (v266 : Value).ownBlock) (Kd.R_keptB (HO264.out) hkp (fun k_ hk_ hs_ => (hk_.2) hs_)) (fun k_ hk_ => ⟨hk_.1.1, fun e_ => Or.elim (ho0.1 k_ e_.symm) (fun hs_ => hk_.2.1 hs_) (fun hn_ => Nat.not_le.2 hk_.2.2 hn_)⟩)); have n3_ := Aside0.mk (Kd.R_mono (ok' := fun k_ => some k_ ≠ (.slice (some ad253) t247.length co19 : Value).ownBlock ∧ some k_ ≠ (v263 : Value).ownBlock) (Kd.R_raise (d := (Kd.int .i64)) (b := w0.heap.size) (b' := w.heap.size) (fun _ _ _ _ h_ => h_) ho0 (fun k_ e_ => Or.elim (ho0.1 k_ e_) (fun hs_ => (fun e_ => Kd.R_base HO_7.out k_ e_.symm) hs_) (fun hn_ => Nat.le_trans (keep_size (w := w) (g := g) (row := none) HK.out) hn_))) (fun k_ hk_ => ⟨Or.elim hk_ (fun hs_ => fun e_ => (((HO_2.out).1 k_ e_.symm).1) hs_) (fun hn_ => (Kd.fresh' (Kd.R_lt HO_2.out) k_ hn_)), Or.elim hk_ (fun hs_ => fun e_ => (((HO264.out).1 k_ e_.symm).2) hs_) (fun hn_ => (Kd.fresh' (Kd.R_lt HO264.out) k_ hn_))⟩)); have n4_ := Aside0.mk (Kept.keepG HK.out hkp (fun k_ hs_ => (fun e_ => .inr (Kd.R_base HO_7.out k_ e_.symm)) hs_)); have n5_ := Aside0.mk (hb); clear HO_2; clear HI0; clear HO264; clear HK; clear HB; clear HO_7; have HO_2 := n0_; have HI0 := n1_; have HO264 := n2_; have HO267 := n3_; have HK := n4_; have HB := n5_; clear n0_ n1_ n2_ n3_ n4_ n5_; ((clear hb)); ((clear hkp)); ((clear ho0))))
         go_ret3
         exact ⟨_, _, by rfl, by exact Kd.R_mono HO264.out (fun _ hk => hk.2), by exact Kd.R_mono HO267.out (fun _ hk => hk.2), by exact HI0.out, by exact HB.out, by exact HK.out⟩
     ·rw [if_neg c16] at H
      exact absurd H (by simp)
    ·rw [if_neg c15] at H
     exact absurd H (by simp)
   ·rw [if_neg c12] at H
    exact absurd H (by simp)
  ·rw [if_neg c11] at H
   exact absurd H (by simp)
def poly_Degree.f (k : Nat) (s0_0 : Int) (s0_1 : Int) (s0_2 : List Int) (s0_3 : Int) (s0_4 : List Int) (s0_5 : List Int) (l1 : List Int) : Option (Int × Int × Int × Int) := (poly_Canon.f k s0_0 s0_1 s0_2 s0_3 s0_4 s0_5 l1).bind fun bt285 => (some (wrap64 ((bt285.1.length : Int) - 1), bt285.2.1, bt285.2.2.1, bt285.2.2.2))
set_option maxHeartbeats 8000000 in
set_option maxRecDepth 100000 in
theorem poly_Degree.calls (k : Nat) (g : Nat) (s0_0 : Int) (s0_1 : Int) (s0_2 : List Int) (s0_3 : Int) (s0_4 : List Int) (s0_5 : List Int) (A1 : Option Addr) (c1 : Nat) (l1 : List Int) (r1 : Int) (r2 : Int) (r3 : Int) (r4 : Int) (w0 w : World) (hI : IsS93 w0 w g s0_0 s0_1 s0_2 s0_3 s0_4 s0_5) (hB : Below w0.heap.size w0 w) (hr1 : Kd.C (Kd.int .i64) w A1 l1.length l1) (hc1 : l1.length ≤ c1) (hf1 : ∀ ad, A1 = some ad → 0 < l1.length → ad.block ≠ g) (h : poly_Degree.f k s0_0 s0_1 s0_2 s0_3 s0_4 s0_5 l1 = some (r1, r2, r3, r4)) :
  Calls Try.prog 66 #[.pointer (some ⟨g, 0, none⟩), .slice A1 l1.length c1] w fun e w' => e = .returned (.int .i64 r1) ∧ IsS93 w0 w' g r2 r3 s0_2 r4 s0_4 s0_5 ∧ Below w0.heap.size w0 w' ∧ KeepBut w w' g none := by
 have HR1 := Aside0.mk hr1
 have HC1 := Aside0.mk hc1
 clear hr1 hc1
 have HI0 := Aside0.mk hI
 have HK := Aside0.mk (KeepBut.refl w g none)
 have HL := Aside0.mk hB.size
 clear hI
 have HW0 := Aside0.mk hB.size
 have HB := Aside0.mk hB
 clear hB
 have H : ((poly_Canon.f k s0_0 s0_1 s0_2 s0_3 s0_4 s0_5 l1).bind fun bt285 => (some (wrap64 ((bt285.1.length : Int) - 1), bt285.2.1, bt285.2.2.1, bt285.2.2.2))) = some (r1, r2, r3, r4) := h
 clear h
 replace H := Option.bind_eq_some_iff.mp H
 obtain ⟨⟨t285, t288, t289, t290⟩, A30, H⟩ := H
 replace H : (some (wrap64 ((t285.length : Int) - 1), t288, t289, t290)) = some (r1, r2, r3, r4) := H
 have A3 := Aside0.mk A30
 clear A30
 simp only [Option.some.injEq, Prod.mk.injEq] at H
 obtain ⟨rfl, rfl, rfl, rfl⟩ := H
 go_enter Try.func66, Try.ntmps66
 go_wp2_with (((with_reducible refine gate_callee (f := 45) rfl ?_); refine goesL_ (some 7) rfl rfl Try.func45 (by kernel_rfl) rfl #[.pointer (some ⟨g, 0, none⟩), .slice A1 l1.length c1] rfl (by ((simp only [List.map_toArray, List.map_cons, List.map_nil])); (rfl)) ?_; (with_reducible refine (poly_Canon.calls k g s0_0 s0_1 s0_2 s0_3 s0_4 s0_5 _ _ l1 t285 t288 t289 t290 w0 _ ?side1 ?side2 ?side3 ?side4 ?side5 A3.out).mono ?_); (case side1 => repeat ((with_reducible (exact HI0.out)))); (case side2 => repeat ((with_reducible (exact HB.out)))); (case side3 => exact Kd.C_keep 0 HR1.out HK.out hf1); (case side4 => exact HC1.out); (case side5 => exact hf1); rintro e w4 ⟨v286, rfl, ho0, hi, hb, hk⟩; refine ⟨_, rfl, ?_⟩; have n0_ := Aside0.mk (Kd.R_lower ho0 (keep_size (w := w) (g := g) (row := none) HK.out)); have n1_ := Aside0.mk (KeepBut.trans HK.out hk (.inl rfl)); have n2_ := Aside0.mk (hb); have n3_ := Aside0.mk (hi); clear HK; clear HB; clear HI0; have HO287 := n0_; have HK := n1_; have HB := n2_; have HI0 := n3_; clear n0_ n1_ n2_ n3_; ((clear hb)); (skip); ((clear hk)); ((clear hi)); ((clear ho0)); obtain ⟨Ao5, co5, eo5⟩ := Kd.R_slice HO287.out; subst eo5))
 go_ret
 exact ⟨by rfl, by exact HI0.out, by exact HB.out, by exact HK.out⟩
end Go.Proofs.Ytkdakjlopheefaa.PA
end
section
namespace Go.Proofs.Ytkdakjlopheefaa.PA
open Go.RowKit Go.Proofs.YtkdakjlopheefaaW.PrintWords Go.Proofs.YtkdakjlopheefaaW.PrintLast Go.Proofs.YtkdakjlopheefaaW.PrintMore
attribute [local go_sem] max2_int min2_int max_two min_two max_three min_three max_four min_four
set_option linter.unusedVariables false
set_option linter.unusedSimpArgs false
mutual
def poly_combine.l0 : Nat → Int → List Int → List Int → List Int → Int → Int → Int → Int → List Int → Int → List Int → List Int → Option (List Int × Int × Int × Int)
 | 0, _, _, _, _, _, _, _, _, _, _, _, _ => none
 | k + 1, x2, x3, x9, x20, x21, x22, x1000, x1001, x1002, x1003, x1004, x1005 => if x22 < x21 then (if 0 ≤ x22 then (if x22 < (x20.length : Int) then ((field_GF_Add.f k x1000 x1001 x1002 x1003 x1004 x1005 (rd x20 x22) 0).bind fun bt295 => (if x22 < (x9.length : Int) then (poly_combine.l0 k x2 x3 (x9.set (x22 : Int).toNat bt295.1) x20 x21 (wrap64 (x22 + 1)) bt295.2.1 bt295.2.2.1 x1002 bt295.2.2.2 x1004 x1005) else (none))) else (none)) else (none)) else (poly_combine.l1 k x2 x9 x3 (x3.length : Int) 0 x1000 x1001 x1002 x1003 x1004 x1005)
def poly_combine.l1 : Nat → Int → List Int → List Int → Int → Int → Int → Int → List Int → Int → List Int → List Int → Option (List Int × Int × Int × Int)
 | 0, _, _, _, _, _, _, _, _, _, _, _ => none
 | k + 1, x2, x9, x34, x35, x36, x1000, x1001, x1002, x1003, x1004, x1005 => if x36 < x35 then (if 0 ≤ x36 then (if x36 < (x34.length : Int) then (if x36 < (x9.length : Int) then ((field_GF_Mul.f x1000 x1001 x1002 x1003 x1004 x1005 x2 (rd x34 x36)).bind fun bt302 => ((field_GF_Add.f k bt302.2.1 bt302.2.2.1 x1002 bt302.2.2.2 x1004 x1005 (rd x9 x36) bt302.1).bind fun bt306 => (poly_combine.l1 k x2 (x9.set (x36 : Int).toNat bt306.1) x34 x35 (wrap64 (x36 + 1)) bt306.2.1 bt306.2.2.1 x1002 bt306.2.2.2 x1004 x1005))) else (none)) else (none)) else (none)) else ((poly_trim.f k x9).bind fun t311 => (some (t311, x1000, x1001, x1003)))
end
def poly_combine.f (k : Nat) (s0_0 : Int) (s0_1 : Int) (s0_2 : List Int) (s0_3 : Int) (s0_4 : List Int) (s0_5 : List Int) (l1 : List Int) (a2 : Int) (l3 : List Int) : Option (List Int × Int × Int × Int) := if 0 ≤ (mx (l1.length : Int) (l3.length : Int)) then (if (mx (l1.length : Int) (l3.length : Int) : Int).toNat ≤ 35184372088832 then (poly_combine.l0 k a2 l3 (List.replicate (mx (l1.length : Int) (l3.length : Int) : Int).toNat 0) l1 (l1.length : Int) 0 s0_0 s0_1 s0_2 s0_3 s0_4 s0_5) else (none)) else (none)
def poly_combine.T10 : Bool × List (List Nat × List Nat) := (true, [([], []), ([], []), ([], []), ([], []), ([], []), ([3, 4], [3, 4]), ([5], [5]), ([], []), ([], []), ([], []), ([7, 8, 9], [7, 8, 9]), ([2, 6, 10, 10], [2, 6, 10]), ([0, 1, 0, 1, 2, 3, 4, 5, 6, 7, 8, 9, 10, 11], [0, 1]), ([12, 11, 11, 0, 1, 2, 3, 4, 5, 6, 7, 8, 9, 10, 11], [11, 12])])
def poly_combine.B10 : List Nat := [0, 0, 0, 0, 0, 24, 56, 0, 0, 0, 896, 2044, 4095, 8191]
theorem poly_combine.tab10 : rtab .any (opsOf Try.f84 10) = poly_combine.T10 := by kernel_rfl
theorem poly_combine.bits10 : waitsOk poly_combine.T10.2 poly_combine.B10 = true := by kernel_rfl
set_option maxHeartbeats 8000000 in
set_option maxRecDepth 100000 in
theorem poly_combine.calls (k : Nat) (g : Nat) (s0_0 : Int) (s0_1 : Int) (s0_2 : List Int) (s0_3 : Int) (s0_4 : List Int) (s0_5 : List Int) (A1 : Option Addr) (c1 : Nat) (l1 : List Int) (a2 : Int) (A3 : Option Addr) (c3 : Nat) (l3 : List Int) (r1 : List Int) (r2 : Int) (r3 : Int) (r4 : Int) (w0 w : World) (hI : IsS93 w0 w g s0_0 s0_1 s0_2 s0_3 s0_4 s0_5) (hB : Below w0.heap.size w0 w) (hr1 : Kd.C (Kd.int .i64) w A1 l1.length l1) (hc1 : l1.length ≤ c1) (hf1 : ∀ ad, A1 = some ad → 0 < l1.length → ad.block ≠ g) (hr3 : Kd.C (Kd.int .i64) w A3 l3.length l3) (hc3 : l3.length ≤ c3) (hf3 : ∀ ad, A3 = some ad → 0 < l3.length → ad.block ≠ g) (h : poly_combine.f k s0_0 s0_1 s0_2 s0_3 s0_4 s0_5 l1 a2 l3 = some (r1, r2, r3, r4)) :
  Calls Try.prog 84 #[.pointer (some ⟨g, 0, none⟩), .slice A1 l1.length c1, .int .i64 a2, .slice A3 l3.length c3] w fun e w' => ∃ v0_ : Value, e = .returned (v0_) ∧ Kd.R (Kd.int .i64) 3 w' w.heap.size (fun _ => True) v0_ r1 ∧ IsS93 w0 w' g r2 r3 s0_2 r4 s0_4 s0_5 ∧ Below w0.heap.size w0 w' ∧ KeepBut w w' g none := by
 have HR1 := Aside0.mk hr1
 have HC1 := Aside0.mk hc1
 clear hr1 hc1
 have HR3 := Aside0.mk hr3
 have HC3 := Aside0.mk hc3
 clear hr3 hc3
 have HI0 := Aside0.mk hI
 have HK := Aside0.mk (KeepBut.refl w g none)
 have HL := Aside0.mk hB.size
 clear hI
 have HW0 := Aside0.mk hB.size
 have HB := Aside0.mk hB
 clear hB
 have H : (if 0 ≤ (mx (l1.length : Int) (l3.length : Int)) then (if (mx (l1.length : Int) (l3.length : Int) : Int).toNat ≤ 35184372088832 then (poly_combine.l0 k a2 l3 (List.replicate (mx (l1.length : Int) (l3.length : Int) : Int).toNat 0) l1 (l1.length : Int) 0 s0_0 s0_1 s0_2 s0_3 s0_4 s0_5) else (none)) else (none)) = some (r1, r2, r3, r4) := h
 clear h
 obtain ⟨ji5, hji5⟩ : ∃ j_ : Int, (mx (l1.length : Int) (l3.length : Int)) = j_ := ⟨_, rfl⟩
 replace H : (if 0 ≤ (ji5) then (if (ji5 : Int).toNat ≤ 35184372088832 then (poly_combine.l0 k a2 l3 (List.replicate (ji5 : Int).toNat 0) l1 (l1.length : Int) 0 s0_0 s0_1 s0_2 s0_3 s0_4 s0_5) else (none)) else (none)) = some (r1, r2, r3, r4) := by (rw [hji5] at H; exact H)
 ((have hji5l : 0 ≤ ji5 := by (rw [← hji5]; unfold mx; (repeat' split) <;> omega)))
 ((have hji5m : 0 ≤ ji5 := by omega))
 have hji5_ : (if (l1.length : Int) < (l3.length : Int) then (l3.length : Int) else (l1.length : Int)) = ji5 := hji5
 have hji5n : (if l1.length < l3.length then (l3.length : Int) else (l1.length : Int)) = ji5 := by rw [← hji5_]; simp only [Int.ofNat_lt]
 by_cases c6 : 0 ≤ (ji5)
 ·rw [if_pos c6] at H
  have c6b0 := eq_true c6
  have c6b1 : decide (0 ≤ (ji5)) = true := decide_eq_true c6
  clear c6
  by_cases c7 : (ji5 : Int).toNat ≤ 35184372088832
  ·rw [if_pos c7] at H
   have c7b0 := eq_true c7
   have c7b1 : decide ((ji5 : Int).toNat ≤ 35184372088832) = true := decide_eq_true c7
   clear c7
   obtain ⟨y291, hy291⟩ : ∃ y_ : List Int, y_ = (List.replicate (ji5 : Int).toNat 0) := ⟨_, rfl⟩
   replace H : (poly_combine.l0 k a2 l3 y291 l1 (l1.length : Int) 0 s0_0 s0_1 s0_2 s0_3 s0_4 s0_5) = some (r1, r2, r3, r4) := by (rw [hy291]; with_reducible exact H)
   have Ny291 := Aside0.mk hy291
   clear hy291
   have H' := Aside0.mk H
   clear H
   go_enter Try.func84, Try.ntmps84
   go_wp2_with (((with_reducible refine gate_dst (N := 19) rfl ?_); refine Kd.R_make (Kd.int .i64) _ 3 rfl (N := 19) rfl 22 _ _ rfl ji5 rfl rfl Try.underlying22 (.int .i64 0) 8 info3 rfl (by decide) (by omega) 0 (ok := fun _ => True) (okp := fun _ => True) rfl (fun _ hk => hk) trivial (of_decide_eq_true (by (with_reducible assumption))) (Nat.le_trans (Nat.mul_le_mul_right _ (of_decide_eq_true (by (with_reducible assumption)) : ji5.toNat ≤ 35184372088832)) (by omega)) (Below.refl _ _) (Nat.le_refl _) ?_; intro v292 w8 ho9 hb hg_ hnew_; clear hg_ hnew_; ((rw [← Ny291.out] at ho9)); have n0_ := Aside0.mk (Kd.R_lower ho9 (keep_size (w := w) (g := g) (row := none) HK.out)); have n1_ := Aside0.mk (IsS93.below HI0.out hb); have n2_ := Aside0.mk (KeepBut.trans HK.out (KeepBut.of_below hb g none) (.inl rfl)); have n3_ := Aside0.mk (below_step HB.out hb); clear HI0; clear HK; clear HB; have HO293 := n0_; have HI0 := n1_; have HK := n2_; have HB := n3_; clear n0_ n1_ n2_ n3_; clear hb ho9))
   go_loopg [22] k (fun kq v22 w' => ∃ (x9_1 : List Int) (x22_1 : Int) (x1000_1 : Int) (x1001_1 : Int) (x1003_1 : Int), v22 = .int .i64 x22_1 ∧ Aside0 (poly_combine.l0 kq a2 l3 x9_1 l1 (l1.length : Int) x22_1 x1000_1 x1001_1 s0_2 x1003_1 s0_4 s0_5 = some (r1, r2, r3, r4)) ∧ Aside0 (kq ≤ k) ∧ Aside0 (Kd.R (Kd.int .i64) 3 w' w.heap.size (fun _ => True) v292 x9_1) ∧ Aside0 (IsS93 w0 w' g x1000_1 x1001_1 s0_2 x1003_1 s0_4 s0_5) ∧ Aside0 (KeepBut w w' g none) ∧ Aside0 (Below w0.heap.size w0 w'))
   case atStart => exact ⟨(y291), (0), (s0_0), (s0_1), (s0_3), (by rfl), H', ⟨Nat.le_refl _⟩, ⟨HO293.out⟩, ⟨HI0.out⟩, ⟨HK.out⟩, ⟨HB.out⟩⟩
   case round =>
    clear H' c6b0 c6b1 c7b0 c7b1
    obtain ⟨x9_1, x22_1, x1000_1, x1001_1, x1003_1, rfl, HA, HK1, HO_9, HI0, HK, HB⟩ := hrel
    cases gk with
    | zero => exact absurd HA.out (by simp [poly_combine.l0])
    | succ k1 =>
     have H := HA.out
     clear HA
     simp only [poly_combine.l0] at H
     by_cases c10 : x22_1 < (l1.length : Int)
     ·rw [if_pos c10] at H
      have c10b0 : decide (x22_1 < (l1.length : Int)) = true := decide_eq_true c10
      clear c10
      by_cases c11 : 0 ≤ x22_1
      ·rw [if_pos c11] at H
       have c11b0 : decide (0 ≤ x22_1) = true := decide_eq_true c11
       clear c11
       by_cases c12 : x22_1 < (l1.length : Int)
       ·rw [if_pos c12] at H
        have c12b0 : decide (x22_1 < (l1.length : Int)) = true := decide_eq_true c12
        clear c12
        replace H := Option.bind_eq_some_iff.mp H
        obtain ⟨⟨t295, t296, t297, t298⟩, A130, H⟩ := H
        replace H : (if x22_1 < (x9_1.length : Int) then (poly_combine.l0 k1 a2 l3 (x9_1.set (x22_1 : Int).toNat t295) l1 (l1.length : Int) (wrap64 (x22_1 + 1)) t296 t297 s0_2 t298 s0_4 s0_5) else (none)) = some (r1, r2, r3, r4) := H
        have A13 := Aside0.mk A130
        clear A130
        by_cases c14 : x22_1 < (x9_1.length : Int)
        ·rw [if_pos c14] at H
         have c14b0 : decide (x22_1 < (x9_1.length : Int)) = true := decide_eq_true c14
         clear c14
         obtain ⟨y299, hy299⟩ : ∃ y_ : List Int, y_ = (x9_1.set (x22_1 : Int).toNat t295) := ⟨_, rfl⟩
         replace H : (poly_combine.l0 k1 a2 l3 y299 l1 (l1.length : Int) (wrap64 (x22_1 + 1)) t296 t297 s0_2 t298 s0_4 s0_5) = some (r1, r2, r3, r4) := by (rw [hy299]; with_reducible exact H)
         have Ny299 := Aside0.mk hy299
         clear hy299
         have H' := Aside0.mk H
         clear H
         have p294 : 0 ≤ (x22_1 : Int) := of_decide_eq_true (by (with_reducible assumption))
         have q294 : x22_1 < (l1.length : Int) := of_decide_eq_true (by (with_reducible assumption))
         obtain ⟨ad294, e294, hx294_0⟩ := Kd.at_int HR1.out x22_1 p294 q294
         cases e294
         replace hx294_0 := keep_cell HK.out hx294_0 (by (rw [add_block]; exact hf1 _ rfl (by omega)))
         replace p294 := eq_true p294
         replace q294 := eq_true q294
         go_wp2_with (first | ((with_reducible refine gate_callee (f := 53) rfl ?_); refine goesL_ (some 31) rfl rfl Try.func53 (by kernel_rfl) rfl #[.pointer (some ⟨g, 0, none⟩), .int .i64 (rd l1 x22_1), .int .i64 0] rfl (by ((simp only [List.map_toArray, List.map_cons, List.map_nil])); (rfl)) ?_; (with_reducible refine (field_GF_Add.calls k1 g x1000_1 x1001_1 s0_2 x1003_1 s0_4 s0_5 (rd l1 x22_1) 0 t295 t296 t297 t298 w0 _ ?side1 ?side2 A13.out).mono ?_); (case side1 => repeat ((with_reducible (exact HI0.out)))); (case side2 => repeat ((with_reducible (exact HB.out)))); rintro e w16 ⟨rfl, hi, hb, hk⟩; refine ⟨_, rfl, ?_⟩; have n0_ := Aside0.mk (Kd.R_mono (Kd.R_keep (IsS93.apart (show IsS93 w0 _ g x1000_1 x1001_1 s0_2 x1003_1 s0_4 s0_5 from by exact HI0.out) HO_9.out (by decide)) hk (fun _ h => h.2)) (fun _ h => h.1)); have n1_ := Aside0.mk (KeepBut.trans HK.out hk (.inl rfl)); have n2_ := Aside0.mk (hb); have n3_ := Aside0.mk (hi); clear HO_9; clear HK; clear HB; clear HI0; have HO_9 := n0_; have HK := n1_; have HB := n2_; have HI0 := n3_; clear n0_ n1_ n2_ n3_; ((clear hb)); (skip); ((clear hk)); ((clear hi)); have p15 : 0 ≤ (x22_1 : Int) := of_decide_eq_true (by (with_reducible assumption)); have q15 : (x22_1 : Int) < ((x9_1.length : Int) : Int) := of_decide_eq_true (by (with_reducible assumption)); obtain ⟨go15, co15, eo15, gb15, gl15, cl15, HG15⟩ := Kd.R_form HO_9.out (by omega); ((cases eo15)); have GB15 := Aside0.mk gb15; have GG15 := Aside0.mk HG15; clear gb15 gl15 HG15; obtain ⟨hx15_0, hf15_0⟩ := Kd.R_celln 0 HO_9.out (x22_1 : Int) p15 q15; replace p15 := eq_true p15; replace q15 := eq_true q15; obtain ⟨hy17_, hz17_⟩ := Kd.R_celln 0 HO_9.out (x22_1 : Int) (of_decide_eq_true (by (with_reducible assumption))) (of_decide_eq_true (by (with_reducible assumption))); have HP17 := Kd.R_putg HO_9.out (x22_1 : Int) t295) | ((with_reducible refine gate_store (t := 3) (p := 32) rfl ?_); refine store_event (t := 3) (p := 32) (v := ?vo_w18) (w1 := (w16.setCell ⟨go15, (x22_1 : Int).toNat, none⟩ (.int .i64 t295))) ?hg ?ho ?hn ?hr ?_; (case ho => rfl); (case hg => rfl); (case hn => rfl); (case hr => (go_simp; done)); intro w18 hw; have hg : w16.grownBy w18 (some go15) := (by rw [hw]; exact HP17.2); have hp_ : Kd.R (Kd.int .i64) 3 w18 w.heap.size (fun _ => True) (.slice (some ⟨go15, 0, none⟩) x9_1.length co15) y299 := (by rw [hw, Ny299.out]; exact HP17.1); clear HP17; have n0_ := Aside0.mk (hp_); have n1_ := Aside0.mk (IsS93.grown HI0.out hg (IsS93.own_ne HI0.out HO_9.out (by decide))); have n2_ := Aside0.mk ((by rw [hw]; exact below_set (HB.out) (Nat.le_trans HL.out GB15.out) : Below w0.heap.size w0 w18)); have n3_ := Aside0.mk (KeepBut.trans HK.out (KeepBut.of_grown hg g) (Kd.R_base2 HO_9.out)); clear HO_9; clear HI0; clear HB; clear HK; have HO_9 := n0_; have HI0 := n1_; have HB := n2_; have HK := n3_; clear n0_ n1_ n2_ n3_; clear hg hw hp_))
         go_roundg k1
         case measure => have := HK1.out; omega
         case rel => exact ⟨(y299), (wrap64 (x22_1 + 1)), (t296), (t297), (t298), (by rfl), H', ⟨by have := HK1.out; omega⟩, ⟨HO_9.out⟩, ⟨HI0.out⟩, ⟨HK.out⟩, ⟨HB.out⟩⟩
        ·rw [if_neg c14] at H
         exact absurd H (by simp)
       ·rw [if_neg c12] at H
        exact absurd H (by simp)
      ·rw [if_neg c11] at H
       exact absurd H (by simp)
     ·rw [if_neg c10] at H
      have c10b0 : decide (x22_1 < (l1.length : Int)) = false := decide_eq_false c10
      clear c10
      have H' := Aside0.mk H
      clear H
      go_wp2
      go_loopg [36] k1 (fun kq v36 w' => ∃ (x9_2 : List Int) (x36_2 : Int) (x1000_2 : Int) (x1001_2 : Int) (x1003_2 : Int), v36 = .int .i64 x36_2 ∧ Aside0 (poly_combine.l1 kq a2 x9_2 l3 (l3.length : Int) x36_2 x1000_2 x1001_2 s0_2 x1003_2 s0_4 s0_5 = some (r1, r2, r3, r4)) ∧ Aside0 (kq ≤ k1) ∧ Aside0 (Kd.R (Kd.int .i64) 3 w' w.heap.size (fun _ => True) v292 x9_2) ∧ Aside0 (IsS93 w0 w' g x1000_2 x1001_2 s0_2 x1003_2 s0_4 s0_5) ∧ Aside0 (KeepBut w w' g none) ∧ Aside0 (Below w0.heap.size w0 w'))
      case atStart => exact ⟨(x9_1), (0), (x1000_1), (x1001_1), (x1003_1), (by rfl), H', ⟨Nat.le_refl _⟩, ⟨HO_9.out⟩, ⟨HI0.out⟩, ⟨HK.out⟩, ⟨HB.out⟩⟩
      case round =>
       clear H' c10b0
       obtain ⟨x9_2, x36_2, x1000_2, x1001_2, x1003_2, rfl, HA, HK2, HO_9, HI0, HK, HB⟩ := hrel
       cases gk with
       | zero => exact absurd HA.out (by simp [poly_combine.l1])
       | succ k2 =>
        have H := HA.out
        clear HA
        simp only [poly_combine.l1] at H
        by_cases c19 : x36_2 < (l3.length : Int)
        ·rw [if_pos c19] at H
         have c19b0 : decide (x36_2 < (l3.length : Int)) = true := decide_eq_true c19
         clear c19
         by_cases c20 : 0 ≤ x36_2
         ·rw [if_pos c20] at H
          have c20b0 : decide (0 ≤ x36_2) = true := decide_eq_true c20
          clear c20
          by_cases c21 : x36_2 < (l3.length : Int)
          ·rw [if_pos c21] at H
           have c21b0 : decide (x36_2 < (l3.length : Int)) = true := decide_eq_true c21
           clear c21
           by_cases c22 : x36_2 < (x9_2.length : Int)
           ·rw [if_pos c22] at H
            have c22b0 : decide (x36_2 < (x9_2.length : Int)) = true := decide_eq_true c22
            clear c22
            replace H := Option.bind_eq_some_iff.mp H
            obtain ⟨⟨t302, t303, t304, t305⟩, A230, H⟩ := H
            replace H : ((field_GF_Add.f k2 t303 t304 s0_2 t305 s0_4 s0_5 (rd x9_2 x36_2) t302).bind fun bt306 => (poly_combine.l1 k2 a2 (x9_2.set (x36_2 : Int).toNat bt306.1) l3 (l3.length : Int) (wrap64 (x36_2 + 1)) bt306.2.1 bt306.2.2.1 s0_2 bt306.2.2.2 s0_4 s0_5)) = some (r1, r2, r3, r4) := H
            have A23 := Aside0.mk A230
            clear A230
            replace H := Option.bind_eq_some_iff.mp H
            obtain ⟨⟨t306, t307, t308, t309⟩, A240, H⟩ := H
            replace H : (poly_combine.l1 k2 a2 (x9_2.set (x36_2 : Int).toNat t306) l3 (l3.length : Int) (wrap64 (x36_2 + 1)) t307 t308 s0_2 t309 s0_4 s0_5) = some (r1, r2, r3, r4) := H
            have A24 := Aside0.mk A240
            clear A240
            obtain ⟨y310, hy310⟩ : ∃ y_ : List Int, y_ = (x9_2.set (x36_2 : Int).toNat t306) := ⟨_, rfl⟩
            replace H : (poly_combine.l1 k2 a2 y310 l3 (l3.length : Int) (wrap64 (x36_2 + 1)) t307 t308 s0_2 t309 s0_4 s0_5) = some (r1, r2, r3, r4) := by (rw [hy310]; with_reducible exact H)
            have Ny310 := Aside0.mk hy310
            clear hy310
            have H' := Aside0.mk H
            clear H
            have p300 : 0 ≤ (x36_2 : Int) := of_decide_eq_true (by (with_reducible assumption))
            have q300 : x36_2 < (l3.length : Int) := of_decide_eq_true (by (with_reducible assumption))
            obtain ⟨ad300, e300, hx300_0⟩ := Kd.at_int HR3.out x36_2 p300 q300
            cases e300
            replace hx300_0 := keep_cell HK.out hx300_0 (by (rw [add_block]; exact hf3 _ rfl (by omega)))
            replace p300 := eq_true p300
            replace q300 := eq_true q300
            (go_wp2)
            have n0_ := Aside0.mk (Kd.R_drew HO_9.out)
            have n1_ := Aside0.mk (IsS93.drew HI0.out)
            have n2_ := Aside0.mk (keep_drew HK.out)
            have n3_ := Aside0.mk (below_drew1 HB.out)
            clear HO_9 HI0 HK HB
            have HO_9 := n0_
            have HI0 := n1_
            have HK := n2_
            have HB := n3_
            clear n0_ n1_ n2_ n3_
            obtain ⟨Ao27, co27, eo27⟩ := Kd.R_slice HO_9.out
            ((subst eo27))
            have p301 : 0 ≤ (x36_2 : Int) := of_decide_eq_true (by (with_reducible assumption))
            have q301 : x36_2 < (x9_2.length : Int) := of_decide_eq_true (by (with_reducible assumption))
            obtain ⟨ad301, e301, hx301_0⟩ := Kd.at_int (Kd.R_reads' HO_9.out).2.2 x36_2 p301 q301
            cases e301
            replace p301 := eq_true p301
            replace q301 := eq_true q301
            refine start_ (n := 14) (S := fun w' => w'.cell? (ad301.add (x36_2).toNat) = some (.int .i64 (rd x9_2 x36_2))) (ds := [13]) (bm 14 0) (by kernel_rfl) rfl rfl (hx301_0) (fun hHeld => ?_); refine with_tabW poly_combine.tab10 poly_combine.bits10 (fun HT_ HW_ => ?_)
            generalize wr.drew = w26 at HO_9 HI0 HK HB hx301_0 hHeld ⊢
            refine pure_ (i := 0) (N := some 41) (v := ?_) (a' := ?_) (bm 14 1) rfl rfl (any_of HT_.out (by kernel_rfl)) (fun _ _ _ h => h) (Or.inl ⟨by rfl, ?_⟩) ?_ ?_;rotate_left;(intro w';go_simp;with_reducible rfl);rotate_left;(simp only [ps_];rfl)
            refine pure_ (i := 1) (N := some 42) (v := ?_) (a' := ?_) (bm 14 3) rfl rfl (any_of HT_.out (by kernel_rfl)) (fun _ _ _ h => h) (Or.inl ⟨by rfl, ?_⟩) ?_ ?_;rotate_left;(intro w';go_simp;with_reducible rfl);rotate_left;(simp only [ps_];rfl)
            refine pure_ (i := 2) (N := some 43) (v := ?_) (a' := ?_) (bm 14 7) rfl rfl (any_of HT_.out (by kernel_rfl)) (fun _ _ _ h => h) (Or.inl ⟨by rfl, ?_⟩) ?_ ?_;rotate_left;(intro w';go_simp;with_reducible rfl);rotate_left;(simp only [ps_];rfl)
            refine pure_ (i := 3) (N := some 44) (v := ?_) (a' := ?_) (bm 14 15) rfl rfl (any_of HT_.out (by kernel_rfl)) (fun _ _ _ h => h) (Or.inl ⟨by rfl, ?_⟩) ?_ ?_;rotate_left;(intro w';go_simp;with_reducible rfl);rotate_left;(simp only [ps_];rfl)
            refine pure_ (i := 4) (N := some 45) (v := ?_) (a' := ?_) (bm 14 31) rfl rfl (any_of HT_.out (by kernel_rfl)) (fun _ _ _ h => h) (Or.inl ⟨by rfl, ?_⟩) ?_ ?_;rotate_left;(intro w';go_simp;with_reducible rfl);rotate_left;(simp only [ps_];rfl)
            refine pure_ (i := 5) (N := some 46) (v := ?_) (a' := ?_) (bm 14 63) rfl rfl (any_of HT_.out (by kernel_rfl)) (fun _ _ _ h => h) (Or.inl ⟨by rfl, ?_⟩) ?_ ?_;rotate_left;(intro w';go_simp;with_reducible rfl);rotate_left;(simp only [ps_];rfl)
            refine pure_ (i := 7) (N := some 48) (v := ?_) (a' := ?_) (bm 14 191) rfl rfl (any_of HT_.out (by kernel_rfl)) (fun _ _ _ h => h) (Or.inl ⟨by rfl, ?_⟩) ?_ ?_;rotate_left;(intro w';go_simp;with_reducible rfl);rotate_left;(simp only [ps_];rfl)
            refine pure_ (i := 8) (N := some 49) (v := ?_) (a' := ?_) (bm 14 447) rfl rfl (any_of HT_.out (by kernel_rfl)) (fun _ _ _ h => h) (Or.inl ⟨by rfl, ?_⟩) ?_ ?_;rotate_left;(intro w';go_simp;with_reducible rfl);rotate_left;(simp only [ps_];rfl)
            refine pure_ (i := 9) (N := some 50) (v := ?_) (a' := ?_) (bm 14 959) rfl rfl (any_of HT_.out (by kernel_rfl)) (fun _ _ _ h => h) (Or.inl ⟨by rfl, ?_⟩) ?_ ?_;rotate_left;(intro w';go_simp;with_reducible rfl);rotate_left;(simp only [ps_];rfl)
            refine take_ (i := 6) (N := some 47) (v := ?_) (a' := ?_) (bm 14 1023) rfl rfl (take_ofW HT_.out HW_.out (by kernel_rfl)) (fun _ _ _ h => h) (Or.inl ⟨by rfl, ?_⟩) hHeld ?_ ?_
            rotate_left
            ·intro w' s0
             go_simp
             with_reducible rfl
            rotate_left
            ·simp only [Act.put, List.setIfInBounds_toArray, List.set_cons_zero, List.set_cons_succ, i64_w, i32_w]
             rfl
            refine one_ (i := 10) (N := some 51) (bm 14 2047) rfl rfl (one_of HT_.out (by kernel_rfl)) (by decide) (fun K hK => ?_)
            refine goes_ Try.func54 (by kernel_rfl) rfl #[.pointer (some ⟨g, 0, none⟩), .int .i64 a2, .int .i64 (rd l3 x36_2)] (by rfl) rfl rfl (by ((simp only [List.map_toArray, List.map_cons, List.map_nil])); (rfl)) ?_
            with_reducible refine (field_GF_Mul.calls g x1000_2 x1001_2 s0_2 x1003_2 s0_4 s0_5 a2 (rd l3 x36_2) t302 t303 t304 t305 w0 _ ?side1 ?side2 A23.out).mono ?_
            (case side1 => repeat ((with_reducible (exact HI0.out))))
            (case side2 => repeat ((with_reducible (exact HB.out))))
            rintro e w28 ⟨rfl, hi, hb, hk⟩
            have HS0_ := keep_cell hk (hHeld) (by (rw [add_block]; exact Kd.own_blk (IsS93.own_ne HI0.out HO_9.out (by decide))))
            refine ⟨_, rfl, ?_⟩
            have n0_ := Aside0.mk (Kd.R_mono (Kd.R_keep (IsS93.apart (show IsS93 w0 _ g x1000_2 x1001_2 s0_2 x1003_2 s0_4 s0_5 from by exact HI0.out) HO_9.out (by decide)) hk (fun _ h => h.2)) (fun _ h => h.1))
            have n1_ := Aside0.mk (KeepBut.trans HK.out hk (.inl rfl))
            have n2_ := Aside0.mk (hb)
            have n3_ := Aside0.mk (hi)
            clear HO_9 HK HB HI0
            have HO_9 := n0_
            have HK := n1_
            have HB := n2_
            have HI0 := n3_
            clear n0_ n1_ n2_ n3_
            ((clear hb))
            ((clear hk))
            ((clear hi))
            refine hK.out _ _ (HS0_) (fun hHeld => ?_)
            clear hK K
            refine norm_ (a' := ?_) ?_ ?_
            rotate_left
            ·show Act.put _ (some 51) _ = _
             simp only [Act.put, List.setIfInBounds_toArray, List.set_cons_zero, List.set_cons_succ, i64_w, i32_w]
             rfl
            refine one_ (i := 11) (N := some 52) (bm 14 4095) rfl rfl (one_of HT_.out (by kernel_rfl)) (by decide) (fun K hK => ?_)
            refine goes_ Try.func53 (by kernel_rfl) rfl #[.pointer (some ⟨g, 0, none⟩), .int .i64 (rd x9_2 x36_2), .int .i64 t302] (by rfl) rfl rfl (by ((simp only [List.map_toArray, List.map_cons, List.map_nil])); (rfl)) ?_
            with_reducible refine (field_GF_Add.calls k2 g t303 t304 s0_2 t305 s0_4 s0_5 (rd x9_2 x36_2) t302 t306 t307 t308 t309 w0 _ ?side1 ?side2 A24.out).mono ?_
            (case side1 => repeat ((with_reducible (exact HI0.out))))
            (case side2 => repeat ((with_reducible (exact HB.out))))
            rintro e w29 ⟨rfl, hi, hb, hk⟩
            have HS0_ := keep_cell hk (hHeld) (by (rw [add_block]; exact Kd.own_blk (IsS93.own_ne HI0.out HO_9.out (by decide))))
            refine ⟨_, rfl, ?_⟩
            have n0_ := Aside0.mk (Kd.R_mono (Kd.R_keep (IsS93.apart (show IsS93 w0 _ g t303 t304 s0_2 t305 s0_4 s0_5 from by exact HI0.out) HO_9.out (by decide)) hk (fun _ h => h.2)) (fun _ h => h.1))
            have n1_ := Aside0.mk (KeepBut.trans HK.out hk (.inl rfl))
            have n2_ := Aside0.mk (hb)
            have n3_ := Aside0.mk (hi)
            clear HO_9 HK HB HI0
            have HO_9 := n0_
            have HK := n1_
            have HB := n2_
            have HI0 := n3_
            clear n0_ n1_ n2_ n3_
            ((clear hb))
            ((clear hk))
            ((clear hi))
            have p25 : 0 ≤ (x36_2 : Int) := of_decide_eq_true (by (with_reducible assumption))
            have q25 : (x36_2 : Int) < ((x9_2.length : Int) : Int) := of_decide_eq_true (by (with_reducible assumption))
            obtain ⟨go25, co25, eo25, gb25, gl25, cl25, HG25⟩ := Kd.R_form HO_9.out (by omega)
            ((cases eo25))
            have GB25 := Aside0.mk gb25
            have GG25 := Aside0.mk HG25
            clear gb25 gl25 HG25
            ((simp only [add_plain] at hx301_0))
            obtain ⟨hx25_0, hf25_0⟩ := Kd.R_celln 0 HO_9.out (x36_2 : Int) p25 q25
            replace p25 := eq_true p25
            replace q25 := eq_true q25
            have HN0_go25 := Aside0.mk (show g ≠ go25 from by have h_ := IsS93.own_ne HI0.out HO_9.out (by decide); intro e_; exact h_ (by rw [e_]; rfl))
            have HP30 := Kd.R_putn HO_9.out (x36_2 : Int) t306
            rw [← Ny310.out] at HP30
            have HQ30 := Aside0.mk HP30
            clear HP30
            refine hK.out _ _ (HS0_) (fun hHeld => ?_)
            clear hK K
            refine norm_ (a' := ?_) ?_ ?_
            rotate_left
            ·show Act.put _ (some 52) _ = _
             simp only [Act.put, List.setIfInBounds_toArray, List.set_cons_zero, List.set_cons_succ, i64_w, i32_w]
             rfl
            refine pure_ (i := 12) (N := some 53) (v := ?_) (a' := ?_) (bm 14 8191) rfl rfl (any_of HT_.out (by kernel_rfl)) (fun _ _ _ h => h) (Or.inl ⟨by rfl, ?_⟩) ?_ ?_;rotate_left;(intro w';go_simp;with_reducible rfl);rotate_left;(simp only [ps_];rfl)
            refine last_ (i := 13) (N := none) (bm 14 16383) rfl rfl (one_of HT_.out (by kernel_rfl)) (by decide) (fun K hK => ?_)
            refine skip_ (w1 := ?_) (by rfl) rfl ?_ ?_
            rotate_left
            ·go_simp
             rfl
            refine hK.out _ _ ?_
            clear hK K
            refine done_ (done_of HT_.out (by kernel_rfl)) ?_
            (go_wp2)
            go_roundg k2
            case measure => have := HK1.out; have := HK2.out; omega
            case rel => exact ⟨(y310), (wrap64 (x36_2 + 1)), (t307), (t308), (t309), (by rfl), H', ⟨by have := HK1.out; have := HK2.out; omega⟩, ⟨HQ30.out⟩, ⟨by repeat ((with_reducible first | (exact HI0.out) | (refine IsS93.far ?_ HN0_go25.out _)))⟩, ⟨by repeat ((with_reducible first | (exact HK.out) | (refine keep_far ?_ GB25.out _)))⟩, ⟨by repeat ((with_reducible first | (exact HB.out) | (refine below_set ?_ (Nat.le_trans HL.out GB25.out))))⟩⟩
           ·rw [if_neg c22] at H
            exact absurd H (by simp)
          ·rw [if_neg c21] at H
           exact absurd H (by simp)
         ·rw [if_neg c20] at H
          exact absurd H (by simp)
        ·rw [if_neg c19] at H
         have c19b0 : decide (x36_2 < (l3.length : Int)) = false := decide_eq_false c19
         clear c19
         obtain ⟨t311, A310, H⟩ := Option.bind_eq_some_iff.mp H
         replace H : (some (t311, x1000_2, x1001_2, x1003_2)) = some (r1, r2, r3, r4) := H
         have A31 := Aside0.mk A310
         clear A310
         simp only [Option.some.injEq, Prod.mk.injEq] at H
         obtain ⟨rfl, rfl, rfl, rfl⟩ := H
         obtain ⟨Ao32, co32, eo32⟩ := Kd.R_slice HO_9.out
         subst eo32
         go_wp2_with (((with_reducible refine gate_callee (f := 80) rfl ?_); refine goesL_ (some 56) rfl rfl Try.func80 (by kernel_rfl) rfl #[.slice Ao32 x9_2.length co32] rfl (by ((simp only [List.map_toArray, List.map_cons, List.map_nil])); (rfl)) ?_; (with_reducible refine (poly_trim.calls k2 (fun k_ => some k_ = (.slice Ao32 x9_2.length co32 : Value).ownBlock) (.slice Ao32 x9_2.length co32) x9_2 t311 w0 _ ?side1 ?side2 A31.out).mono ?_); (case side1 => repeat ((with_reducible (exact HB.out)))); (case side2 => exact Kd.R_lower (Kd.R_tight rfl HO_9.out) HL.out); rintro e w33 ⟨v312, rfl, ho0, hb, hkp⟩; refine ⟨_, rfl, ?_⟩; have n0_ := Aside0.mk (IsS93.kept HI0.out hkp (fun hs_ => (fun e_ => (IsS93.own_ne HI0.out HO_9.out (by decide)) e_) hs_)); have n1_ := Aside0.mk (Kd.R_mono (ok' := fun k_ => True) (Kd.R_raise (d := (Kd.int .i64)) (b := w0.heap.size) (b' := w.heap.size) (fun _ _ _ _ h_ => h_) ho0 (fun k_ e_ => Or.elim (ho0.1 k_ e_) (fun hs_ => (fun e_ => Kd.R_base HO_9.out k_ e_.symm) hs_) (fun hn_ => Nat.le_trans (keep_size (w := w) (g := g) (row := none) HK.out) hn_))) (fun k_ hk_ => trivial)); have n2_ := Aside0.mk (Kept.keepG HK.out hkp (fun k_ hs_ => (fun e_ => .inr (Kd.R_base HO_9.out k_ e_.symm)) hs_)); have n3_ := Aside0.mk (hb); clear HI0; clear HK; clear HB; clear HO_9; have HI0 := n0_; have HO313 := n1_; have HK := n2_; have HB := n3_; clear n0_ n1_ n2_ n3_; ((clear hb)); ((clear hkp)); ((clear ho0))))
         go_ret
         exact ⟨_, by rfl, by exact HO313.out, by exact HI0.out, by exact HB.out, by exact HK.out⟩
  ·rw [if_neg c7] at H
   exact absurd H (by simp)
 ·rw [if_neg c6] at H
  exact absurd H (by simp)
def poly_Sub.f (k : Nat) (s0_0 : Int) (s0_1 : Int) (s0_2 : List Int) (s0_3 : Int) (s0_4 : List Int) (s0_5 : List Int) (l1 : List Int) (l2 : List Int) : Option (List Int × Int × Int × Int) := (field_GF_Neg.f k s0_0 s0_1 s0_2 s0_3 s0_4 s0_5 1).bind fun bt314 => ((poly_combine.f k bt314.2.1 bt314.2.2.1 s0_2 bt314.2.2.2 s0_4 s0_5 l1 bt314.1 l2).bind fun bt318 => (some (bt318.1, bt318.2.1, bt318.2.2.1, bt318.2.2.2)))
set_option maxHeartbeats 8000000 in
set_option maxRecDepth 100000 in
theorem poly_Sub.calls (k : Nat) (g : Nat) (s0_0 : Int) (s0_1 : Int) (s0_2 : List Int) (s0_3 : Int) (s0_4 : List Int) (s0_5 : List Int) (A1 : Option Addr) (c1 : Nat) (l1 : List Int) (A2 : Option Addr) (c2 : Nat) (l2 : List Int) (r1 : List Int) (r2 : Int) (r3 : Int) (r4 : Int) (w0 w : World) (hI : IsS93 w0 w g s0_0 s0_1 s0_2 s0_3 s0_4 s0_5) (hB : Below w0.heap.size w0 w) (hr1 : Kd.C (Kd.int .i64) w A1 l1.length l1) (hc1 : l1.length ≤ c1) (hf1 : ∀ ad, A1 = some ad → 0 < l1.length → ad.block ≠ g) (hr2 : Kd.C (Kd.int .i64) w A2 l2.length l2) (hc2 : l2.length ≤ c2) (hf2 : ∀ ad, A2 = some ad → 0 < l2.length → ad.block ≠ g) (h : poly_Sub.f k s0_0 s0_1 s0_2 s0_3 s0_4 s0_5 l1 l2 = some (r1, r2, r3, r4)) :
  Calls Try.prog 67 #[.pointer (some ⟨g, 0, none⟩), .slice A1 l1.length c1, .slice A2 l2.length c2] w fun e w' => ∃ v0_ : Value, e = .returned (v0_) ∧ Kd.R (Kd.int .i64) 3 w' w.heap.size (fun _ => True) v0_ r1 ∧ IsS93 w0 w' g r2 r3 s0_2 r4 s0_4 s0_5 ∧ Below w0.heap.size w0 w' ∧ KeepBut w w' g none := by
 have HR1 := Aside0.mk hr1
 have HC1 := Aside0.mk hc1
 clear hr1 hc1
 have HR2 := Aside0.mk hr2
 have HC2 := Aside0.mk hc2
 clear hr2 hc2
 have HI0 := Aside0.mk hI
 have HK := Aside0.mk (KeepBut.refl w g none)
 have HL := Aside0.mk hB.size
 clear hI
 have HW0 := Aside0.mk hB.size
 have HB := Aside0.mk hB
 clear hB
 have H : ((field_GF_Neg.f k s0_0 s0_1 s0_2 s0_3 s0_4 s0_5 1).bind fun bt314 => ((poly_combine.f k bt314.2.1 bt314.2.2.1 s0_2 bt314.2.2.2 s0_4 s0_5 l1 bt314.1 l2).bind fun bt318 => (some (bt318.1, bt318.2.1, bt318.2.2.1, bt318.2.2.2)))) = some (r1, r2, r3, r4) := h
 clear h
 replace H := Option.bind_eq_some_iff.mp H
 obtain ⟨⟨t314, t315, t316, t317⟩, A40, H⟩ := H
 replace H : ((poly_combine.f k t315 t316 s0_2 t317 s0_4 s0_5 l1 t314 l2).bind fun bt318 => (some (bt318.1, bt318.2.1, bt318.2.2.1, bt318.2.2.2))) = some (r1, r2, r3, r4) := H
 have A4 := Aside0.mk A40
 clear A40
 replace H := Option.bind_eq_some_iff.mp H
 obtain ⟨⟨t318, t321, t322, t323⟩, A50, H⟩ := H
 replace H : (some (t318, t321, t322, t323)) = some (r1, r2, r3, r4) := H
 have A5 := Aside0.mk A50
 clear A50
 simp only [Option.some.injEq, Prod.mk.injEq] at H
 obtain ⟨rfl, rfl, rfl, rfl⟩ := H
 go_enter Try.func67, Try.ntmps67
 go_wp2_with (first | ((with_reducible refine gate_callee (f := 62) rfl ?_); refine goesL_ (some 10) rfl rfl Try.func62 (by kernel_rfl) rfl #[.pointer (some ⟨g, 0, none⟩), .int .i64 1] rfl (by ((simp only [List.map_toArray, List.map_cons, List.map_nil])); (rfl)) ?_; (with_reducible refine (field_GF_Neg.calls k g s0_0 s0_1 s0_2 s0_3 s0_4 s0_5 1 t314 t315 t316 t317 w0 _ ?side1 ?side2 A4.out).mono ?_); (case side1 => repeat ((with_reducible (exact HI0.out)))); (case side2 => repeat ((with_reducible (exact HB.out)))); rintro e w6 ⟨rfl, hi, hb, hk⟩; refine ⟨_, rfl, ?_⟩; have n0_ := Aside0.mk (KeepBut.trans HK.out hk (.inl rfl)); have n1_ := Aside0.mk (hb); have n2_ := Aside0.mk (hi); clear HK; clear HB; clear HI0; have HK := n0_; have HB := n1_; have HI0 := n2_; clear n0_ n1_ n2_; ((clear hb)); (skip); ((clear hk)); ((clear hi))) | ((with_reducible refine gate_callee (f := 84) rfl ?_); refine goesL_ (some 12) rfl rfl Try.func84 (by kernel_rfl) rfl #[.pointer (some ⟨g, 0, none⟩), .slice A1 l1.length c1, .int .i64 t314, .slice A2 l2.length c2] rfl (by ((simp only [List.map_toArray, List.map_cons, List.map_nil])); (rfl)) ?_; (with_reducible refine (poly_combine.calls k g t315 t316 s0_2 t317 s0_4 s0_5 _ _ l1 t314 _ _ l2 t318 t321 t322 t323 w0 _ ?side1 ?side2 ?side3 ?side4 ?side5 ?side6 ?side7 ?side8 A5.out).mono ?_); (case side1 => repeat ((with_reducible (exact HI0.out)))); (case side2 => repeat ((with_reducible (exact HB.out)))); (case side3 => exact Kd.C_keep 0 HR1.out HK.out hf1); (case side4 => exact HC1.out); (case side5 => exact hf1); (case side6 => exact Kd.C_keep 0 HR2.out HK.out hf2); (case side7 => exact HC2.out); (case side8 => exact hf2); rintro e w7 ⟨v319, rfl, ho0, hi, hb, hk⟩; refine ⟨_, rfl, ?_⟩; have n0_ := Aside0.mk (Kd.R_lower ho0 (keep_size (w := w) (g := g) (row := none) HK.out)); have n1_ := Aside0.mk (KeepBut.trans HK.out hk (.inl rfl)); have n2_ := Aside0.mk (hb); have n3_ := Aside0.mk (hi); clear HK; clear HB; clear HI0; have HO320 := n0_; have HK := n1_; have HB := n2_; have HI0 := n3_; clear n0_ n1_ n2_ n3_; ((clear hb)); (skip); ((clear hk)); ((clear hi)); ((clear ho0))))
 go_ret
 exact ⟨_, by rfl, by exact HO320.out, by exact HI0.out, by exact HB.out, by exact HK.out⟩
end Go.Proofs.Ytkdakjlopheefaa.PA
end
section
namespace Go.Proofs.Ytkdakjlopheefaa.PA
open Go.RowKit Go.Proofs.YtkdakjlopheefaaW.PrintWords Go.Proofs.YtkdakjlopheefaaW.PrintLast Go.Proofs.YtkdakjlopheefaaW.PrintMore
attribute [local go_sem] max2_int min2_int max_two min_two max_three min_three max_four min_four
set_option linter.unusedVariables false
set_option linter.unusedSimpArgs false
mutual
def poly_product.j0 : Nat → List Int → List Int → Bool → Int → Int → List Int → Int → List Int → List Int → Option (List Int × Int × Int × Int)
 | 0, _, _, _, _, _, _, _, _, _ => none
 | k + 1, x1, x2, x25, x1000, x1001, x1002, x1003, x1004, x1005 => if x25 = true then (some (([] : List Int), x1000, x1001, x1003)) else (if 0 ≤ (wrap64 ((wrap64 ((x1.length : Int) + (x2.length : Int))) - 1)) then (if (wrap64 ((wrap64 ((x1.length : Int) + (x2.length : Int))) - 1) : Int).toNat ≤ 35184372088832 then (poly_product.l0 k x2 (List.replicate (wrap64 ((wrap64 ((x1.length : Int) + (x2.length : Int))) - 1) : Int).toNat 0) x1 (x1.length : Int) 0 x1000 x1001 x1002 x1003 x1004 x1005) else (none)) else (none))
def poly_product.l0 : Nat → List Int → List Int → List Int → Int → Int → Int → Int → List Int → Int → List Int → List Int → Option (List Int × Int × Int × Int)
 | 0, _, _, _, _, _, _, _, _, _, _, _ => none
 | k + 1, x2, x7, x33, x34, x35, x1000, x1001, x1002, x1003, x1004, x1005 => if x35 < x34 then (if 0 ≤ x35 then (if x35 < (x33.length : Int) then (poly_product.l1 k x2 x7 x35 (rd x33 x35) x33 x34 x35 x2 (x2.length : Int) 0 x1000 x1001 x1002 x1003 x1004 x1005) else (none)) else (none)) else (some (x7, x1000, x1001, x1003))
def poly_product.l1 : Nat → List Int → List Int → Int → Int → List Int → Int → Int → List Int → Int → Int → Int → Int → List Int → Int → List Int → List Int → Option (List Int × Int × Int × Int)
 | 0, _, _, _, _, _, _, _, _, _, _, _, _, _, _, _, _ => none
 | k + 1, x2, x7, x8, x9, x33, x34, x35, x40, x41, x42, x1000, x1001, x1002, x1003, x1004, x1005 => if x42 < x41 then (if 0 ≤ x42 then (if x42 < (x40.length : Int) then (if 0 ≤ (wrap64 (x8 + x42)) then (if (wrap64 (x8 + x42)) < (x7.length : Int) then ((field_GF_Mul.f x1000 x1001 x1002 x1003 x1004 x1005 x9 (rd x40 x42)).bind fun bt342 => ((field_GF_Add.f k bt342.2.1 bt342.2.2.1 x1002 bt342.2.2.2 x1004 x1005 (rd x7 (wrap64 (x8 + x42))) bt342.1).bind fun bt346 => (poly_product.l1 k x2 (x7.set ((wrap64 (x8 + x42)) : Int).toNat bt346.1) x8 x9 x33 x34 x35 x40 x41 (wrap64 (x42 + 1)) bt346.2.1 bt346.2.2.1 x1002 bt346.2.2.2 x1004 x1005))) else (none)) else (none)) else (none)) else (none)) else (poly_product.l0 k x2 x7 x33 x34 (wrap64 (x35 + 1)) x1000 x1001 x1002 x1003 x1004 x1005)
end
def poly_product.f (k : Nat) (s0_0 : Int) (s0_1 : Int) (s0_2 : List Int) (s0_3 : Int) (s0_4 : List Int) (s0_5 : List Int) (l1 : List Int) (l2 : List Int) : Option (List Int × Int × Int × Int) := (poly_Canon.f k s0_0 s0_1 s0_2 s0_3 s0_4 s0_5 l1).bind fun bt324 => ((poly_Canon.f k bt324.2.1 bt324.2.2.1 s0_2 bt324.2.2.2 s0_4 s0_5 l2).bind fun bt330 => (if (bt324.1.length : Int) = 0 then (poly_product.j0 k bt324.1 bt330.1 true bt330.2.1 bt330.2.2.1 s0_2 bt330.2.2.2 s0_4 s0_5) else (poly_product.j0 k bt324.1 bt330.1 ((bt330.1.length : Int) == 0) bt330.2.1 bt330.2.2.1 s0_2 bt330.2.2.2 s0_4 s0_5)))
def poly_product.T11 : Bool × List (List Nat × List Nat) := (true, [([], []), ([], []), ([], []), ([1, 2], [1, 2]), ([], []), ([], []), ([], []), ([], []), ([6, 7], [6, 7]), ([5, 8], [5, 8]), ([9], [9]), ([], []), ([], []), ([], []), ([11, 12, 13], [11, 12, 13]), ([4, 10, 14, 14], [4, 10, 14]), ([0, 3, 0, 1, 2, 3, 4, 5, 6, 7, 8, 9, 10, 11, 12, 13, 14, 15], [0, 3]), ([16, 15, 15, 0, 1, 2, 3, 4, 5, 6, 7, 8, 9, 10, 11, 12, 13, 14, 15], [15, 16])])
def poly_product.B11 : List Nat := [0, 0, 0, 6, 0, 0, 0, 0, 192, 480, 992, 0, 0, 0, 14336, 32752, 65535, 131071]
theorem poly_product.tab11 : rtab .any (opsOf Try.f85 11) = poly_product.T11 := by kernel_rfl
theorem poly_product.bits11 : waitsOk poly_product.T11.2 poly_product.B11 = true := by kernel_rfl
set_option maxHeartbeats 8000000 in
set_option maxRecDepth 100000 in
theorem poly_product.calls (k : Nat) (g : Nat) (s0_0 : Int) (s0_1 : Int) (s0_2 : List Int) (s0_3 : Int) (s0_4 : List Int) (s0_5 : List Int) (A1 : Option Addr) (c1 : Nat) (l1 : List Int) (A2 : Option Addr) (c2 : Nat) (l2 : List Int) (r1 : List Int) (r2 : Int) (r3 : Int) (r4 : Int) (w0 w : World) (hI : IsS93 w0 w g s0_0 s0_1 s0_2 s0_3 s0_4 s0_5) (hB : Below w0.heap.size w0 w) (hr1 : Kd.C (Kd.int .i64) w A1 l1.length l1) (hc1 : l1.length ≤ c1) (hf1 : ∀ ad, A1 = some ad → 0 < l1.length → ad.block ≠ g) (hr2 : Kd.C (Kd.int .i64) w A2 l2.length l2) (hc2 : l2.length ≤ c2) (hf2 : ∀ ad, A2 = some ad → 0 < l2.length → ad.block ≠ g) (h : poly_product.f k s0_0 s0_1 s0_2 s0_3 s0_4 s0_5 l1 l2 = some (r1, r2, r3, r4)) :
  Calls Try.prog 85 #[.pointer (some ⟨g, 0, none⟩), .slice A1 l1.length c1, .slice A2 l2.length c2] w fun e w' => ∃ v0_ : Value, e = .returned (v0_) ∧ Kd.R (Kd.int .i64) 3 w' w.heap.size (fun _ => True) v0_ r1 ∧ IsS93 w0 w' g r2 r3 s0_2 r4 s0_4 s0_5 ∧ Below w0.heap.size w0 w' ∧ KeepBut w w' g none := by
 have HR1 := Aside0.mk hr1
 have HC1 := Aside0.mk hc1
 clear hr1 hc1
 have HR2 := Aside0.mk hr2
 have HC2 := Aside0.mk hc2
 clear hr2 hc2
 have HI0 := Aside0.mk hI
 have HK := Aside0.mk (KeepBut.refl w g none)
 have HL := Aside0.mk hB.size
 clear hI
 have HW0 := Aside0.mk hB.size
 have HB := Aside0.mk hB
 clear hB
 have H : ((poly_Canon.f k s0_0 s0_1 s0_2 s0_3 s0_4 s0_5 l1).bind fun bt324 => ((poly_Canon.f k bt324.2.1 bt324.2.2.1 s0_2 bt324.2.2.2 s0_4 s0_5 l2).bind fun bt330 => (if (bt324.1.length : Int) = 0 then (poly_product.j0 k bt324.1 bt330.1 true bt330.2.1 bt330.2.2.1 s0_2 bt330.2.2.2 s0_4 s0_5) else (poly_product.j0 k bt324.1 bt330.1 ((bt330.1.length : Int) == 0) bt330.2.1 bt330.2.2.1 s0_2 bt330.2.2.2 s0_4 s0_5)))) = some (r1, r2, r3, r4) := h
 clear h
 replace H := Option.bind_eq_some_iff.mp H
 obtain ⟨⟨t324, t327, t328, t329⟩, A40, H⟩ := H
 replace H : ((poly_Canon.f k t327 t328 s0_2 t329 s0_4 s0_5 l2).bind fun bt330 => (if (t324.length : Int) = 0 then (poly_product.j0 k t324 bt330.1 true bt330.2.1 bt330.2.2.1 s0_2 bt330.2.2.2 s0_4 s0_5) else (poly_product.j0 k t324 bt330.1 ((bt330.1.length : Int) == 0) bt330.2.1 bt330.2.2.1 s0_2 bt330.2.2.2 s0_4 s0_5))) = some (r1, r2, r3, r4) := H
 have A4 := Aside0.mk A40
 clear A40
 replace H := Option.bind_eq_some_iff.mp H
 obtain ⟨⟨t330, t333, t334, t335⟩, A50, H⟩ := H
 replace H : (if (t324.length : Int) = 0 then (poly_product.j0 k t324 t330 true t333 t334 s0_2 t335 s0_4 s0_5) else (poly_product.j0 k t324 t330 ((t330.length : Int) == 0) t333 t334 s0_2 t335 s0_4 s0_5)) = some (r1, r2, r3, r4) := H
 have A5 := Aside0.mk A50
 clear A50
 have HC6 := Aside0.mk H
 clear H
 go_enter Try.func85, Try.ntmps85
 go_upto_region 2 with (first | ((with_reducible refine gate_callee (f := 45) rfl ?_); refine goesL_ (some 14) rfl rfl Try.func45 (by kernel_rfl) rfl #[.pointer (some ⟨g, 0, none⟩), .slice A1 l1.length c1] rfl (by ((simp only [List.map_toArray, List.map_cons, List.map_nil])); (rfl)) ?_; (with_reducible refine (poly_Canon.calls k g s0_0 s0_1 s0_2 s0_3 s0_4 s0_5 _ _ l1 t324 t327 t328 t329 w0 _ ?side1 ?side2 ?side3 ?side4 ?side5 A4.out).mono ?_); (case side1 => repeat ((with_reducible (exact HI0.out)))); (case side2 => repeat ((with_reducible (exact HB.out)))); (case side3 => exact Kd.C_keep 0 HR1.out HK.out hf1); (case side4 => exact HC1.out); (case side5 => exact hf1); rintro e w7 ⟨v325, rfl, ho0, hi, hb, hk⟩; refine ⟨_, rfl, ?_⟩; have n0_ := Aside0.mk (Kd.R_lower ho0 (keep_size (w := w) (g := g) (row := none) HK.out)); have n1_ := Aside0.mk (KeepBut.trans HK.out hk (.inl rfl)); have n2_ := Aside0.mk (hb); have n3_ := Aside0.mk (hi); clear HK; clear HB; clear HI0; have HO326 := n0_; have HK := n1_; have HB := n2_; have HI0 := n3_; clear n0_ n1_ n2_ n3_; ((clear hb)); (skip); ((clear hk)); ((clear hi)); ((clear ho0))) | ((with_reducible refine gate_callee (f := 45) rfl ?_); refine goesL_ (some 17) rfl rfl Try.func45 (by kernel_rfl) rfl #[.pointer (some ⟨g, 0, none⟩), .slice A2 l2.length c2] rfl (by ((simp only [List.map_toArray, List.map_cons, List.map_nil])); (rfl)) ?_; (with_reducible refine (poly_Canon.calls k g t327 t328 s0_2 t329 s0_4 s0_5 _ _ l2 t330 t333 t334 t335 w0 _ ?side1 ?side2 ?side3 ?side4 ?side5 A5.out).mono ?_); (case side1 => repeat ((with_reducible (exact HI0.out)))); (case side2 => repeat ((with_reducible (exact HB.out)))); (case side3 => exact Kd.C_keep 0 HR2.out HK.out hf2); (case side4 => exact HC2.out); (case side5 => exact hf2); rintro e w8 ⟨v331, rfl, ho0, hi, hb, hk⟩; refine ⟨_, rfl, ?_⟩; have n0_ := Aside0.mk (Kd.R_mono (Kd.R_told (Kd.R_oldK (IsS93.apart (show IsS93 w0 _ g t327 t328 s0_2 t329 s0_4 s0_5 from by exact HI0.out) HO326.out (by decide)) hk) (Kd.R_base ho0)) (fun _ h_ => h_.1)); have n1_ := Aside0.mk (Kd.R_lower (Kd.R_new' ho0 (Kd.R_lt HO326.out)) (keep_size (w := w) (g := g) (row := none) HK.out)); have n2_ := Aside0.mk (KeepBut.trans HK.out hk (.inl rfl)); have n3_ := Aside0.mk (hb); have n4_ := Aside0.mk (hi); clear HO326; clear HK; clear HB; clear HI0; have HO326 := n0_; have HO332 := n1_; have HK := n2_; have HB := n3_; have HI0 := n4_; clear n0_ n1_ n2_ n3_ n4_; ((clear hb)); (skip); ((clear hk)); ((clear hi)); ((clear ho0))))
 go_cut [25] (fun v25 wc => ∃ (kq : Nat) (x25_5 : Bool), v25 = .bool x25_5 ∧ Aside0 (poly_product.j0 kq t324 t330 x25_5 t333 t334 s0_2 t335 s0_4 s0_5 = some (r1, r2, r3, r4)) ∧ Aside0 (kq ≤ k) ∧ Aside0 (Kd.R (Kd.int .i64) 3 wc w.heap.size (fun k_ => some k_ ≠ (v331 : Value).ownBlock) v325 t324) ∧ Aside0 (Kd.R (Kd.int .i64) 3 wc w.heap.size (fun k_ => some k_ ≠ (v325 : Value).ownBlock) v331 t330) ∧ Aside0 (IsS93 w0 wc g t333 t334 s0_2 t335 s0_4 s0_5) ∧ Aside0 (KeepBut w wc g none) ∧ Aside0 (Below w0.heap.size w0 wc))
 case first =>
  have H := HC6.out
  clear HC6
  by_cases c9 : (t324.length : Int) = 0
  ·rw [if_pos c9] at H
   have c9b0 : ((t324.length : Int) == 0) = true := beq_iff_eq.mpr c9
   have c9b1 : ((t324.length : Int) != 0) = false := bne_eq_false_iff_eq.mpr c9
   clear c9
   ((skip))
   have H' := Aside0.mk H
   clear H
   obtain ⟨Ao10, co10, eo10⟩ := Kd.R_slice HO326.out
   subst eo10
   go_wp2
   go_meet
   case rel => exact ⟨_, (true), (by rfl), H', ⟨by (omega)⟩, ⟨by exact Kd.R_mono HO326.out (fun _ hk => hk.2)⟩, ⟨by exact Kd.R_mono HO332.out (fun _ hk => hk.2)⟩, ⟨HI0.out⟩, ⟨HK.out⟩, ⟨HB.out⟩⟩
  ·rw [if_neg c9] at H
   have c9b0 : ((t324.length : Int) == 0) = false := beq_eq_false_iff_ne.mpr c9
   have c9b1 : ((t324.length : Int) != 0) = true := bne_iff_ne.mpr c9
   have c9b2 : ¬ (t324 = []) := fun h_ => c9 (by rw [h_]; rfl)
   ((skip))
   have H' := Aside0.mk H
   clear H
   obtain ⟨Ao11, co11, eo11⟩ := Kd.R_slice HO326.out
   subst eo11
   obtain ⟨Ao12, co12, eo12⟩ := Kd.R_slice HO332.out
   subst eo12
   go_wp2
   go_meet
   case rel => exact ⟨_, (((t330.length : Int) == 0)), (by rfl), H', ⟨by (omega)⟩, ⟨by exact Kd.R_mono HO326.out (fun _ hk => hk.2)⟩, ⟨by exact Kd.R_mono HO332.out (fun _ hk => hk.2)⟩, ⟨HI0.out⟩, ⟨HK.out⟩, ⟨HB.out⟩⟩
 case rest =>
  clear HC6
  obtain ⟨kq, x25_5, rfl, HA, HJ5, HO_1, HO_2, HI0, HK, HB⟩ := hcut
  cases kq with
  | zero => exact absurd HA.out (by simp [poly_product.j0])
  | succ kj5 =>
   have H := HA.out
   clear HA
   simp only [poly_product.j0] at H
   by_cases c13 : x25_5 = true
   ·subst c13
    have H1 : (some (([] : List Int), t333, t334, t335)) = some (r1, r2, r3, r4) := by rw [if_pos rfl] at H; exact H
    clear H
    have H := H1
    clear H1
    simp only [Option.some.injEq, Prod.mk.injEq] at H
    obtain ⟨rfl, rfl, rfl, rfl⟩ := H
    go_wp2
    go_ret
    exact ⟨_, by rfl, by (exact Kd.R_nil _ _ _ _ _), by exact HI0.out, by exact HB.out, by exact HK.out⟩
   ·replace c13 := Bool.eq_false_iff.mpr c13
    subst c13
    have H1 : (if 0 ≤ (wrap64 ((wrap64 ((t324.length : Int) + (t330.length : Int))) - 1)) then (if (wrap64 ((wrap64 ((t324.length : Int) + (t330.length : Int))) - 1) : Int).toNat ≤ 35184372088832 then (poly_product.l0 kj5 t330 (List.replicate (wrap64 ((wrap64 ((t324.length : Int) + (t330.length : Int))) - 1) : Int).toNat 0) t324 (t324.length : Int) 0 t333 t334 s0_2 t335 s0_4 s0_5) else (none)) else (none)) = some (r1, r2, r3, r4) := by rw [if_neg (show ¬ (false = true) by decide)] at H; exact H
    clear H
    have H := H1
    clear H1
    obtain ⟨ji14, hji14⟩ : ∃ j_ : Int, (wrap64 ((wrap64 ((t324.length : Int) + (t330.length : Int))) - 1)) = j_ := ⟨_, rfl⟩
    replace H : (if 0 ≤ (ji14) then (if (ji14 : Int).toNat ≤ 35184372088832 then (poly_product.l0 kj5 t330 (List.replicate (ji14 : Int).toNat 0) t324 (t324.length : Int) 0 t333 t334 s0_2 t335 s0_4 s0_5) else (none)) else (none)) = some (r1, r2, r3, r4) := by (rw [hji14] at H; exact H)
    have hji14w : (IntKind.i64.wrap ((wrap64 ((t324.length : Int) + (t330.length : Int))) - 1)) = ji14 := (i64_w _).trans hji14
    by_cases c15 : 0 ≤ (ji14)
    ·rw [if_pos c15] at H
     have c15b0 := eq_true c15
     have c15b1 : decide (0 ≤ (ji14)) = true := decide_eq_true c15
     clear c15
     by_cases c16 : (ji14 : Int).toNat ≤ 35184372088832
     ·rw [if_pos c16] at H
      have c16b0 := eq_true c16
      have c16b1 : decide ((ji14 : Int).toNat ≤ 35184372088832) = true := decide_eq_true c16
      clear c16
      obtain ⟨y336, hy336⟩ : ∃ y_ : List Int, y_ = (List.replicate (ji14 : Int).toNat 0) := ⟨_, rfl⟩
      replace H : (poly_product.l0 kj5 t330 y336 t324 (t324.length : Int) 0 t333 t334 s0_2 t335 s0_4 s0_5) = some (r1, r2, r3, r4) := by (rw [hy336]; with_reducible exact H)
      have Ny336 := Aside0.mk hy336
      clear hy336
      have H' := Aside0.mk H
      clear H
      obtain ⟨Ao17, co17, eo17⟩ := Kd.R_slice HO_1.out
      subst eo17
      obtain ⟨Ao18, co18, eo18⟩ := Kd.R_slice HO_2.out
      subst eo18
      go_wp2_with (((with_reducible refine gate_dst (N := 32) rfl ?_); ((refine gate_guard (by rfl) ?_; dsimp only)); refine Kd.R_make (Kd.int .i64) _ 3 rfl (N := 32) rfl 22 _ _ rfl ji14 rfl rfl Try.underlying22 (.int .i64 0) 8 info3 rfl (by decide) (by omega) 0 (ok := fun _ => True) (okp := fun _ => True) rfl (fun _ hk => hk) trivial (of_decide_eq_true (by (with_reducible assumption))) (Nat.le_trans (Nat.mul_le_mul_right _ (of_decide_eq_true (by (with_reducible assumption)) : ji14.toNat ≤ 35184372088832)) (by omega)) (Below.refl _ _) (Nat.le_refl _) ?_; intro v337 w19 ho20 hb hg_ hnew_; clear hg_ hnew_; ((rw [← Ny336.out] at ho20)); have n0_ := Aside0.mk (Kd.R_elder' HO_1.out (Kd.R_base ho20) hb); have n1_ := Aside0.mk (Kd.R_elder' HO_2.out (Kd.R_base ho20) hb); have n2_ := Aside0.mk (Kd.R_lower (Kd.R_new' (Kd.R_new' ho20 (Kd.R_lt HO_1.out)) (Kd.R_lt HO_2.out)) (keep_size (w := w) (g := g) (row := none) HK.out)); have n3_ := Aside0.mk (IsS93.below HI0.out hb); have n4_ := Aside0.mk (KeepBut.trans HK.out (KeepBut.of_below hb g none) (.inl rfl)); have n5_ := Aside0.mk (below_step HB.out hb); clear HO_1; clear HO_2; clear HI0; clear HK; clear HB; have HO_1 := n0_; have HO_2 := n1_; have HO338 := n2_; have HI0 := n3_; have HK := n4_; have HB := n5_; clear n0_ n1_ n2_ n3_ n4_ n5_; clear hb ho20))
      go_loopg [35] kj5 (fun kq v35 w' => ∃ (x7_2 : List Int) (x35_2 : Int) (x1000_2 : Int) (x1001_2 : Int) (x1003_2 : Int), v35 = .int .i64 x35_2 ∧ Aside0 (poly_product.l0 kq t330 x7_2 t324 (t324.length : Int) x35_2 x1000_2 x1001_2 s0_2 x1003_2 s0_4 s0_5 = some (r1, r2, r3, r4)) ∧ Aside0 (kq ≤ kj5) ∧ Aside0 (Kd.R (Kd.int .i64) 3 w' w.heap.size (fun k_ => some k_ ≠ (v337 : Value).ownBlock ∧ some k_ ≠ ((.slice Ao17 t324.length co17) : Value).ownBlock) (.slice Ao18 t330.length co18) t330) ∧ Aside0 (Kd.R (Kd.int .i64) 3 w' w.heap.size (fun k_ => some k_ ≠ ((.slice Ao18 t330.length co18) : Value).ownBlock ∧ some k_ ≠ ((.slice Ao17 t324.length co17) : Value).ownBlock) v337 x7_2) ∧ Aside0 (Kd.R (Kd.int .i64) 3 w' w.heap.size (fun k_ => some k_ ≠ ((.slice Ao18 t330.length co18) : Value).ownBlock ∧ some k_ ≠ (v337 : Value).ownBlock) (.slice Ao17 t324.length co17) t324) ∧ Aside0 (IsS93 w0 w' g x1000_2 x1001_2 s0_2 x1003_2 s0_4 s0_5) ∧ Aside0 (KeepBut w w' g none) ∧ Aside0 (Below w0.heap.size w0 w'))
      case atStart => exact ⟨(y336), (0), (t333), (t334), (t335), (by rfl), H', ⟨Nat.le_refl _⟩, ⟨by exact Kd.R_mono HO_2.out (fun _ hk => ⟨hk.2, hk.1⟩)⟩, ⟨by exact Kd.R_mono HO338.out (fun _ hk => ⟨hk.2, hk.1.2⟩)⟩, ⟨HO_1.out⟩, ⟨HI0.out⟩, ⟨HK.out⟩, ⟨HB.out⟩⟩
      case round =>
       clear H' c15b0 c15b1 c16b0 c16b1
       obtain ⟨x7_2, x35_2, x1000_2, x1001_2, x1003_2, rfl, HA, HK2, HO_2, HO_7, HO_33, HI0, HK, HB⟩ := hrel
       cases gk with
       | zero => exact absurd HA.out (by simp [poly_product.l0])
       | succ k2 =>
        have H := HA.out
        clear HA
        simp only [poly_product.l0] at H
        by_cases c21 : x35_2 < (t324.length : Int)
        ·rw [if_pos c21] at H
         have c21b0 : decide (x35_2 < (t324.length : Int)) = true := decide_eq_true c21
         clear c21
         by_cases c22 : 0 ≤ x35_2
         ·rw [if_pos c22] at H
          have c22b0 : decide (0 ≤ x35_2) = true := decide_eq_true c22
          clear c22
          by_cases c23 : x35_2 < (t324.length : Int)
          ·rw [if_pos c23] at H
           have c23b0 : decide (x35_2 < (t324.length : Int)) = true := decide_eq_true c23
           clear c23
           have H' := Aside0.mk H
           clear H
           have p339 : 0 ≤ (x35_2 : Int) := of_decide_eq_true (by (with_reducible assumption))
           have q339 : x35_2 < (t324.length : Int) := of_decide_eq_true (by (with_reducible assumption))
           obtain ⟨ad339, e339, hx339_0⟩ := Kd.at_int (Kd.R_reads' HO_33.out).2.2 x35_2 p339 q339
           cases e339
           replace p339 := eq_true p339
           replace q339 := eq_true q339
           go_wp2
           go_loopg [42] k2 (fun kq v42 w' => ∃ (x7_3 : List Int) (x42_3 : Int) (x1000_3 : Int) (x1001_3 : Int) (x1003_3 : Int), v42 = .int .i64 x42_3 ∧ Aside0 (poly_product.l1 kq t330 x7_3 x35_2 (rd t324 x35_2) t324 (t324.length : Int) x35_2 t330 (t330.length : Int) x42_3 x1000_3 x1001_3 s0_2 x1003_3 s0_4 s0_5 = some (r1, r2, r3, r4)) ∧ Aside0 (kq ≤ k2) ∧ Aside0 (Kd.R (Kd.int .i64) 3 w' w.heap.size (fun k_ => some k_ ≠ (v337 : Value).ownBlock ∧ some k_ ≠ ((.slice (some ad339) t324.length co17) : Value).ownBlock) (.slice Ao18 t330.length co18) t330) ∧ Aside0 (Kd.R (Kd.int .i64) 3 w' w.heap.size (fun k_ => some k_ ≠ ((.slice Ao18 t330.length co18) : Value).ownBlock ∧ some k_ ≠ ((.slice (some ad339) t324.length co17) : Value).ownBlock ∧ some k_ ≠ ((.slice Ao18 t330.length co18) : Value).ownBlock) v337 x7_3) ∧ Aside0 (Kd.R (Kd.int .i64) 3 w' w.heap.size (fun k_ => some k_ ≠ ((.slice Ao18 t330.length co18) : Value).ownBlock ∧ some k_ ≠ (v337 : Value).ownBlock ∧ some k_ ≠ ((.slice Ao18 t330.length co18) : Value).ownBlock) (.slice (some ad339) t324.length co17) t324) ∧ Aside0 (Kd.R (Kd.int .i64) 3 w' w.heap.size (fun k_ => some k_ ≠ (v337 : Value).ownBlock ∧ some k_ ≠ ((.slice (some ad339) t324.length co17) : Value).ownBlock) (.slice Ao18 t330.length co18) t330) ∧ Aside0 (IsS93 w0 w' g x1000_3 x1001_3 s0_2 x1003_3 s0_4 s0_5) ∧ Aside0 (KeepBut w w' g none) ∧ Aside0 (Below w0.heap.size w0 w'))
           case atStart => exact ⟨(x7_2), (0), (x1000_2), (x1001_2), (x1003_2), (by rfl), H', ⟨Nat.le_refl _⟩, ⟨HO_2.out⟩, ⟨by exact Kd.R_mono HO_7.out (fun _ hk => ⟨hk.1, ⟨hk.2, hk.1⟩⟩)⟩, ⟨by exact Kd.R_mono HO_33.out (fun _ hk => ⟨hk.1, ⟨hk.2, hk.1⟩⟩)⟩, ⟨HO_2.out⟩, ⟨HI0.out⟩, ⟨HK.out⟩, ⟨HB.out⟩⟩
           case round =>
            clear H' c21b0 c22b0 c23b0 hx339_0 p339 q339
            obtain ⟨x7_3, x42_3, x1000_3, x1001_3, x1003_3, rfl, HA, HK3, HO_2, HO_7, HO_33, HO_40, HI0, HK, HB⟩ := hrel
            cases gk with
            | zero => exact absurd HA.out (by simp [poly_product.l1])
            | succ k3 =>
             have H := HA.out
             clear HA
             simp only [poly_product.l1] at H
             by_cases c24 : x42_3 < (t330.length : Int)
             ·rw [if_pos c24] at H
              have c24b0 : decide (x42_3 < (t330.length : Int)) = true := decide_eq_true c24
              clear c24
              by_cases c25 : 0 ≤ x42_3
              ·rw [if_pos c25] at H
               have c25b0 : decide (0 ≤ x42_3) = true := decide_eq_true c25
               clear c25
               by_cases c26 : x42_3 < (t330.length : Int)
               ·rw [if_pos c26] at H
                have c26b0 : decide (x42_3 < (t330.length : Int)) = true := decide_eq_true c26
                clear c26
                obtain ⟨ji27, hji27⟩ : ∃ j_ : Int, (wrap64 (x35_2 + x42_3)) = j_ := ⟨_, rfl⟩
                replace H : (if 0 ≤ (ji27) then (if (ji27) < (x7_3.length : Int) then ((field_GF_Mul.f x1000_3 x1001_3 s0_2 x1003_3 s0_4 s0_5 (rd t324 x35_2) (rd t330 x42_3)).bind fun bt342 => ((field_GF_Add.f k3 bt342.2.1 bt342.2.2.1 s0_2 bt342.2.2.2 s0_4 s0_5 (rd x7_3 (ji27)) bt342.1).bind fun bt346 => (poly_product.l1 k3 t330 (x7_3.set ((ji27) : Int).toNat bt346.1) x35_2 (rd t324 x35_2) t324 (t324.length : Int) x35_2 t330 (t330.length : Int) (wrap64 (x42_3 + 1)) bt346.2.1 bt346.2.2.1 s0_2 bt346.2.2.2 s0_4 s0_5))) else (none)) else (none)) = some (r1, r2, r3, r4) := by (rw [hji27] at H; exact H)
                have hji27w : (IntKind.i64.wrap (x35_2 + x42_3)) = ji27 := (i64_w _).trans hji27
                by_cases c28 : 0 ≤ (ji27)
                ·rw [if_pos c28] at H
                 have c28b0 : decide (0 ≤ (ji27)) = true := decide_eq_true c28
                 clear c28
                 by_cases c29 : (ji27) < (x7_3.length : Int)
                 ·rw [if_pos c29] at H
                  have c29b0 : decide ((ji27) < (x7_3.length : Int)) = true := decide_eq_true c29
                  clear c29
                  replace H := Option.bind_eq_some_iff.mp H
                  obtain ⟨⟨t342, t343, t344, t345⟩, A300, H⟩ := H
                  replace H : ((field_GF_Add.f k3 t343 t344 s0_2 t345 s0_4 s0_5 (rd x7_3 (ji27)) t342).bind fun bt346 => (poly_product.l1 k3 t330 (x7_3.set ((ji27) : Int).toNat bt346.1) x35_2 (rd t324 x35_2) t324 (t324.length : Int) x35_2 t330 (t330.length : Int) (wrap64 (x42_3 + 1)) bt346.2.1 bt346.2.2.1 s0_2 bt346.2.2.2 s0_4 s0_5)) = some (r1, r2, r3, r4) := H
                  have A30 := Aside0.mk A300
                  clear A300
                  replace H := Option.bind_eq_some_iff.mp H
                  obtain ⟨⟨t346, t347, t348, t349⟩, A310, H⟩ := H
                  replace H : (poly_product.l1 k3 t330 (x7_3.set ((ji27) : Int).toNat t346) x35_2 (rd t324 x35_2) t324 (t324.length : Int) x35_2 t330 (t330.length : Int) (wrap64 (x42_3 + 1)) t347 t348 s0_2 t349 s0_4 s0_5) = some (r1, r2, r3, r4) := H
                  have A31 := Aside0.mk A310
                  clear A310
                  obtain ⟨y350, hy350⟩ : ∃ y_ : List Int, y_ = (x7_3.set ((ji27) : Int).toNat t346) := ⟨_, rfl⟩
                  replace H : (poly_product.l1 k3 t330 y350 x35_2 (rd t324 x35_2) t324 (t324.length : Int) x35_2 t330 (t330.length : Int) (wrap64 (x42_3 + 1)) t347 t348 s0_2 t349 s0_4 s0_5) = some (r1, r2, r3, r4) := by (rw [hy350]; with_reducible exact H)
                  have Ny350 := Aside0.mk hy350
                  clear hy350
                  have H' := Aside0.mk H
                  clear H
                  have p340 : 0 ≤ (x42_3 : Int) := of_decide_eq_true (by (with_reducible assumption))
                  have q340 : x42_3 < (t330.length : Int) := of_decide_eq_true (by (with_reducible assumption))
                  obtain ⟨ad340, e340, hx340_0⟩ := Kd.at_int (Kd.R_reads' HO_40.out).2.2 x42_3 p340 q340
                  cases e340
                  replace p340 := eq_true p340
                  replace q340 := eq_true q340
                  (go_wp2)
                  have n0_ := Aside0.mk (Kd.R_drew HO_2.out)
                  have n1_ := Aside0.mk (Kd.R_drew HO_7.out)
                  have n2_ := Aside0.mk (Kd.R_drew HO_33.out)
                  have n3_ := Aside0.mk (Kd.R_drew HO_40.out)
                  have n4_ := Aside0.mk (IsS93.drew HI0.out)
                  have n5_ := Aside0.mk (keep_drew HK.out)
                  have n6_ := Aside0.mk (below_drew1 HB.out)
                  clear HO_2 HO_7 HO_33 HO_40 HI0 HK HB
                  have HO_2 := n0_
                  have HO_7 := n1_
                  have HO_33 := n2_
                  have HO_40 := n3_
                  have HI0 := n4_
                  have HK := n5_
                  have HB := n6_
                  clear n0_ n1_ n2_ n3_ n4_ n5_ n6_
                  obtain ⟨Ao34, co34, eo34⟩ := Kd.R_slice HO_7.out
                  ((subst eo34))
                  have p341 : 0 ≤ ((ji27) : Int) := of_decide_eq_true (by (with_reducible assumption))
                  have q341 : (ji27) < (x7_3.length : Int) := of_decide_eq_true (by (with_reducible assumption))
                  obtain ⟨ad341, e341, hx341_0⟩ := Kd.at_int (Kd.R_reads' HO_7.out).2.2 (ji27) p341 q341
                  cases e341
                  replace p341 := eq_true p341
                  replace q341 := eq_true q341
                  refine start_ (n := 18) (S := fun w' => w'.cell? (ad341.add ((ji27)).toNat) = some (.int .i64 (rd x7_3 (ji27)))) (ds := [17]) (bm 18 0) (by kernel_rfl) rfl rfl (hx341_0) (fun hHeld => ?_); refine with_tabW poly_product.tab11 poly_product.bits11 (fun HT_ HW_ => ?_)
                  generalize wr.drew = w33 at HO_2 HO_7 HO_33 HO_40 HI0 HK HB hx341_0 hHeld ⊢
                  refine pure_ (i := 0) (N := some 47) (v := ?_) (a' := ?_) (bm 18 1) rfl rfl (any_of HT_.out (by kernel_rfl)) (fun _ _ _ h => h) (Or.inl ⟨by rfl, ?_⟩) ?_ ?_;rotate_left;(intro w';go_simp;with_reducible rfl);rotate_left;(simp only [ps_];rfl)
                  refine pure_ (i := 1) (N := some 48) (v := ?_) (a' := ?_) (bm 18 3) rfl rfl (any_of HT_.out (by kernel_rfl)) (fun _ _ _ h => h) (Or.inl ⟨by rfl, ?_⟩) ?_ ?_;rotate_left;(intro w';go_simp;with_reducible rfl);rotate_left;(simp only [ps_];rfl)
                  refine pure_ (i := 2) (N := some 49) (v := ?_) (a' := ?_) (bm 18 7) rfl rfl (any_of HT_.out (by kernel_rfl)) (fun _ _ _ h => h) (Or.inl ⟨by rfl, ?_⟩) ?_ ?_;rotate_left;(intro w';go_simp;with_reducible rfl);rotate_left;(simp only [ps_];rfl)
                  refine pure_ (i := 3) (N := some 50) (v := ?_) (a' := ?_) (bm 18 15) rfl rfl (any_of HT_.out (by kernel_rfl)) (fun _ _ _ h => h) (Or.inl ⟨by rfl, ?_⟩) ?_ ?_;rotate_left;(intro w';go_simp;with_reducible rfl);rotate_left;(simp only [ps_];rfl)
                  refine pure_ (i := 4) (N := some 51) (v := ?_) (a' := ?_) (bm 18 31) rfl rfl (any_of HT_.out (by kernel_rfl)) (fun _ _ _ h => h) (Or.inl ⟨by rfl, ?_⟩) ?_ ?_;rotate_left;(intro w';go_simp;with_reducible rfl);rotate_left;(simp only [ps_];rfl)
                  refine pure_ (i := 5) (N := some 52) (v := ?_) (a' := ?_) (bm 18 63) rfl rfl (any_of HT_.out (by kernel_rfl)) (fun _ _ _ h => h) (Or.inl ⟨by rfl, ?_⟩) ?_ ?_;rotate_left;(intro w';go_simp;with_reducible rfl);rotate_left;(simp only [ps_];rfl)
                  refine pure_ (i := 6) (N := some 53) (v := ?_) (a' := ?_) (bm 18 127) rfl rfl (any_of HT_.out (by kernel_rfl)) (fun _ _ _ h => h) (Or.inl ⟨by rfl, ?_⟩) ?_ ?_;rotate_left;(intro w';go_simp;with_reducible rfl);rotate_left;(simp only [ps_];rfl)
                  refine pure_ (i := 7) (N := some 54) (v := ?_) (a' := ?_) (bm 18 255) rfl rfl (any_of HT_.out (by kernel_rfl)) (fun _ _ _ h => h) (Or.inl ⟨by rfl, ?_⟩) ?_ ?_;rotate_left;(intro w';go_simp;with_reducible rfl);rotate_left;(simp only [ps_];rfl)
                  refine pure_ (i := 8) (N := some 55) (v := ?_) (a' := ?_) (bm 18 511) rfl rfl (any_of HT_.out (by kernel_rfl)) (fun _ _ _ h => h) (Or.inl ⟨by rfl, ?_⟩) ?_ ?_;rotate_left;(intro w';go_simp;with_reducible rfl);rotate_left;(simp only [ps_];rfl)
                  refine pure_ (i := 9) (N := some 56) (v := ?_) (a' := ?_) (bm 18 1023) rfl rfl (any_of HT_.out (by kernel_rfl)) (fun _ _ _ h => h) (Or.inl ⟨by rfl, ?_⟩) ?_ ?_;rotate_left;(intro w';go_simp;with_reducible rfl);rotate_left;(simp only [ps_];rfl)
                  refine pure_ (i := 11) (N := some 58) (v := ?_) (a' := ?_) (bm 18 3071) rfl rfl (any_of HT_.out (by kernel_rfl)) (fun _ _ _ h => h) (Or.inl ⟨by rfl, ?_⟩) ?_ ?_;rotate_left;(intro w';go_simp;with_reducible rfl);rotate_left;(simp only [ps_];rfl)
                  refine pure_ (i := 12) (N := some 59) (v := ?_) (a' := ?_) (bm 18 7167) rfl rfl (any_of HT_.out (by kernel_rfl)) (fun _ _ _ h => h) (Or.inl ⟨by rfl, ?_⟩) ?_ ?_;rotate_left;(intro w';go_simp;with_reducible rfl);rotate_left;(simp only [ps_];rfl)
                  refine pure_ (i := 13) (N := some 60) (v := ?_) (a' := ?_) (bm 18 15359) rfl rfl (any_of HT_.out (by kernel_rfl)) (fun _ _ _ h => h) (Or.inl ⟨by rfl, ?_⟩) ?_ ?_;rotate_left;(intro w';go_simp;with_reducible rfl);rotate_left;(simp only [ps_];rfl)
                  refine take_ (i := 10) (N := some 57) (v := ?_) (a' := ?_) (bm 18 16383) rfl rfl (take_ofW HT_.out HW_.out (by kernel_rfl)) (fun _ _ _ h => h) (Or.inl ⟨by rfl, ?_⟩) hHeld ?_ ?_
                  rotate_left
                  ·intro w' s0
                   go_simp
                   with_reducible rfl
                  rotate_left
                  ·simp only [Act.put, List.setIfInBounds_toArray, List.set_cons_zero, List.set_cons_succ, i64_w, i32_w]
                   rfl
                  refine one_ (i := 14) (N := some 61) (bm 18 32767) rfl rfl (one_of HT_.out (by kernel_rfl)) (by decide) (fun K hK => ?_)
                  refine goes_ Try.func54 (by kernel_rfl) rfl #[.pointer (some ⟨g, 0, none⟩), .int .i64 (rd t324 x35_2), .int .i64 (rd t330 x42_3)] (by rfl) rfl rfl (by ((simp only [List.map_toArray, List.map_cons, List.map_nil])); (rfl)) ?_
                  with_reducible refine (field_GF_Mul.calls g x1000_3 x1001_3 s0_2 x1003_3 s0_4 s0_5 (rd t324 x35_2) (rd t330 x42_3) t342 t343 t344 t345 w0 _ ?side1 ?side2 A30.out).mono ?_
                  (case side1 => repeat ((with_reducible (exact HI0.out))))
                  (case side2 => repeat ((with_reducible (exact HB.out))))
                  rintro e w35 ⟨rfl, hi, hb, hk⟩
                  have HS0_ := keep_cell hk (hHeld) (by (rw [add_block]; exact Kd.own_blk (IsS93.own_ne HI0.out HO_7.out (by decide))))
                  refine ⟨_, rfl, ?_⟩
                  have n0_ := Aside0.mk (Kd.R_mono (Kd.R_keep (IsS93.apart (show IsS93 w0 _ g x1000_3 x1001_3 s0_2 x1003_3 s0_4 s0_5 from by exact HI0.out) HO_2.out (by decide)) hk (fun _ h => h.2)) (fun _ h => h.1))
                  have n1_ := Aside0.mk (Kd.R_mono (Kd.R_keep (IsS93.apart (show IsS93 w0 _ g x1000_3 x1001_3 s0_2 x1003_3 s0_4 s0_5 from by exact HI0.out) HO_7.out (by decide)) hk (fun _ h => h.2)) (fun _ h => h.1))
                  have n2_ := Aside0.mk (Kd.R_mono (Kd.R_keep (IsS93.apart (show IsS93 w0 _ g x1000_3 x1001_3 s0_2 x1003_3 s0_4 s0_5 from by exact HI0.out) HO_33.out (by decide)) hk (fun _ h => h.2)) (fun _ h => h.1))
                  have n3_ := Aside0.mk (Kd.R_mono (Kd.R_keep (IsS93.apart (show IsS93 w0 _ g x1000_3 x1001_3 s0_2 x1003_3 s0_4 s0_5 from by exact HI0.out) HO_40.out (by decide)) hk (fun _ h => h.2)) (fun _ h => h.1))
                  have n4_ := Aside0.mk (KeepBut.trans HK.out hk (.inl rfl))
                  have n5_ := Aside0.mk (hb)
                  have n6_ := Aside0.mk (hi)
                  clear HO_2 HO_7 HO_33 HO_40 HK HB HI0
                  have HO_2 := n0_
                  have HO_7 := n1_
                  have HO_33 := n2_
                  have HO_40 := n3_
                  have HK := n4_
                  have HB := n5_
                  have HI0 := n6_
                  clear n0_ n1_ n2_ n3_ n4_ n5_ n6_
                  ((clear hb))
                  ((clear hk))
                  ((clear hi))
                  refine hK.out _ _ (HS0_) (fun hHeld => ?_)
                  clear hK K
                  refine norm_ (a' := ?_) ?_ ?_
                  rotate_left
                  ·show Act.put _ (some 61) _ = _
                   simp only [Act.put, List.setIfInBounds_toArray, List.set_cons_zero, List.set_cons_succ, i64_w, i32_w]
                   rfl
                  refine one_ (i := 15) (N := some 62) (bm 18 65535) rfl rfl (one_of HT_.out (by kernel_rfl)) (by decide) (fun K hK => ?_)
                  refine goes_ Try.func53 (by kernel_rfl) rfl #[.pointer (some ⟨g, 0, none⟩), .int .i64 (rd x7_3 (ji27)), .int .i64 t342] (by rfl) rfl rfl (by ((simp only [List.map_toArray, List.map_cons, List.map_nil])); (rfl)) ?_
                  with_reducible refine (field_GF_Add.calls k3 g t343 t344 s0_2 t345 s0_4 s0_5 (rd x7_3 (ji27)) t342 t346 t347 t348 t349 w0 _ ?side1 ?side2 A31.out).mono ?_
                  (case side1 => repeat ((with_reducible (exact HI0.out))))
                  (case side2 => repeat ((with_reducible (exact HB.out))))
                  rintro e w36 ⟨rfl, hi, hb, hk⟩
                  have HS0_ := keep_cell hk (hHeld) (by (rw [add_block]; exact Kd.own_blk (IsS93.own_ne HI0.out HO_7.out (by decide))))
                  refine ⟨_, rfl, ?_⟩
                  have n0_ := Aside0.mk (Kd.R_mono (Kd.R_keep (IsS93.apart (show IsS93 w0 _ g t343 t344 s0_2 t345 s0_4 s0_5 from by exact HI0.out) HO_2.out (by decide)) hk (fun _ h => h.2)) (fun _ h => h.1))
                  have n1_ := Aside0.mk (Kd.R_mono (Kd.R_keep (IsS93.apart (show IsS93 w0 _ g t343 t344 s0_2 t345 s0_4 s0_5 from by exact HI0.out) HO_7.out (by decide)) hk (fun _ h => h.2)) (fun _ h => h.1))
                  have n2_ := Aside0.mk (Kd.R_mono (Kd.R_keep (IsS93.apart (show IsS93 w0 _ g t343 t344 s0_2 t345 s0_4 s0_5 from by exact HI0.out) HO_33.out (by decide)) hk (fun _ h => h.2)) (fun _ h => h.1))
                  have n3_ := Aside0.mk (Kd.R_mono (Kd.R_keep (IsS93.apart (show IsS93 w0 _ g t343 t344 s0_2 t345 s0_4 s0_5 from by exact HI0.out) HO_40.out (by decide)) hk (fun _ h => h.2)) (fun _ h => h.1))
                  have n4_ := Aside0.mk (KeepBut.trans HK.out hk (.inl rfl))
                  have n5_ := Aside0.mk (hb)
                  have n6_ := Aside0.mk (hi)
                  clear HO_2 HO_7 HO_33 HO_40 HK HB HI0
                  have HO_2 := n0_
                  have HO_7 := n1_
                  have HO_33 := n2_
                  have HO_40 := n3_
                  have HK := n4_
                  have HB := n5_
                  have HI0 := n6_
                  clear n0_ n1_ n2_ n3_ n4_ n5_ n6_
                  ((clear hb))
                  ((clear hk))
                  ((clear hi))
                  have p32 : 0 ≤ ((ji27) : Int) := of_decide_eq_true (by (with_reducible assumption))
                  have q32 : ((ji27) : Int) < ((x7_3.length : Int) : Int) := of_decide_eq_true (by (with_reducible assumption))
                  obtain ⟨go32, co32, eo32, gb32, gl32, cl32, HG32⟩ := Kd.R_form HO_7.out (by omega)
                  ((cases eo32))
                  have GB32 := Aside0.mk gb32
                  have GG32 := Aside0.mk HG32
                  clear gb32 gl32 HG32
                  ((simp only [add_plain] at hx341_0))
                  obtain ⟨hx32_0, hf32_0⟩ := Kd.R_celln 0 HO_7.out ((ji27) : Int) p32 q32
                  replace p32 := eq_true p32
                  replace q32 := eq_true q32
                  have HN0_go32 := Aside0.mk (show g ≠ go32 from by have h_ := IsS93.own_ne HI0.out HO_7.out (by decide); intro e_; exact h_ (by rw [e_]; rfl))
                  have HP37 := Kd.R_putn HO_7.out ((ji27) : Int) t346
                  rw [← Ny350.out] at HP37
                  have HQ37 := Aside0.mk HP37
                  clear HP37
                  refine hK.out _ _ (HS0_) (fun hHeld => ?_)
                  clear hK K
                  refine norm_ (a' := ?_) ?_ ?_
                  rotate_left
                  ·show Act.put _ (some 62) _ = _
                   simp only [Act.put, List.setIfInBounds_toArray, List.set_cons_zero, List.set_cons_succ, i64_w, i32_w]
                   rfl
                  refine pure_ (i := 16) (N := some 63) (v := ?_) (a' := ?_) (bm 18 131071) rfl rfl (any_of HT_.out (by kernel_rfl)) (fun _ _ _ h => h) (Or.inl ⟨by rfl, ?_⟩) ?_ ?_;rotate_left;(intro w';go_simp;with_reducible rfl);rotate_left;(simp only [ps_];rfl)
                  refine last_ (i := 17) (N := none) (bm 18 262143) rfl rfl (one_of HT_.out (by kernel_rfl)) (by decide) (fun K hK => ?_)
                  refine skip_ (w1 := ?_) (by rfl) rfl ?_ ?_
                  rotate_left
                  ·go_simp
                   rfl
                  refine hK.out _ _ ?_
                  clear hK K
                  refine done_ (done_of HT_.out (by kernel_rfl)) ?_
                  (go_wp2)
                  go_roundg k3
                  case measure => have := HJ5.out; have := HK2.out; have := HK3.out; omega
                  case rel => exact ⟨(y350), (wrap64 (x42_3 + 1)), (t347), (t348), (t349), (by rfl), H', ⟨by have := HJ5.out; have := HK2.out; have := HK3.out; omega⟩, ⟨by exact Kd.R_mono (Kd.R_far (p := ⟨go32, ((ji27) : Int).toNat, none⟩) (Kd.R_mono HO_2.out (fun k_ hk => (⟨hk, fun e_ => hk.1 (by rw [e_]; rfl)⟩ : _ ∧ k_ ≠ go32))) (fun _ hk => hk.2) (.int .i64 t346)) (fun _ hk => ⟨hk.1.1, hk.1.2⟩)⟩, ⟨HQ37.out⟩, ⟨by exact Kd.R_mono (Kd.R_far (p := ⟨go32, ((ji27) : Int).toNat, none⟩) (Kd.R_mono HO_33.out (fun k_ hk => (⟨hk, fun e_ => hk.2.1 (by rw [e_]; rfl)⟩ : _ ∧ k_ ≠ go32))) (fun _ hk => hk.2) (.int .i64 t346)) (fun _ hk => ⟨hk.1.1, ⟨hk.1.2.1, hk.1.2.2⟩⟩)⟩, ⟨by exact Kd.R_mono (Kd.R_far (p := ⟨go32, ((ji27) : Int).toNat, none⟩) (Kd.R_mono HO_40.out (fun k_ hk => (⟨hk, fun e_ => hk.1 (by rw [e_]; rfl)⟩ : _ ∧ k_ ≠ go32))) (fun _ hk => hk.2) (.int .i64 t346)) (fun _ hk => ⟨hk.1.1, hk.1.2⟩)⟩, ⟨by repeat ((with_reducible first | (exact HI0.out) | (refine IsS93.far ?_ HN0_go32.out _)))⟩, ⟨by repeat ((with_reducible first | (exact HK.out) | (refine keep_far ?_ GB32.out _)))⟩, ⟨by repeat ((with_reducible first | (exact HB.out) | (refine below_set ?_ (Nat.le_trans HL.out GB32.out))))⟩⟩
                 ·rw [if_neg c29] at H
                  exact absurd H (by simp)
                ·rw [if_neg c28] at H
                 exact absurd H (by simp)
               ·rw [if_neg c26] at H
                exact absurd H (by simp)
              ·rw [if_neg c25] at H
               exact absurd H (by simp)
             ·rw [if_neg c24] at H
              have c24b0 : decide (x42_3 < (t330.length : Int)) = false := decide_eq_false c24
              clear c24
              have H' := Aside0.mk H
              clear H
              go_wp2
              go_roundg k3
              case measure => have := HJ5.out; have := HK2.out; have := HK3.out; omega
              case rel => exact ⟨(x7_3), (wrap64 (x35_2 + 1)), (x1000_3), (x1001_3), (x1003_3), (by rfl), H', ⟨by have := HJ5.out; have := HK2.out; have := HK3.out; omega⟩, ⟨HO_2.out⟩, ⟨by exact Kd.R_mono HO_7.out (fun _ hk => ⟨hk.1, hk.2.1⟩)⟩, ⟨by exact Kd.R_mono HO_33.out (fun _ hk => ⟨hk.1, hk.2.1⟩)⟩, ⟨HI0.out⟩, ⟨HK.out⟩, ⟨HB.out⟩⟩
          ·rw [if_neg c23] at H
           exact absurd H (by simp)
         ·rw [if_neg c22] at H
          exact absurd H (by simp)
        ·rw [if_neg c21] at H
         have c21b0 : decide (x35_2 < (t324.length : Int)) = false := decide_eq_false c21
         clear c21
         simp only [Option.some.injEq, Prod.mk.injEq] at H
         obtain ⟨rfl, rfl, rfl, rfl⟩ := H
         go_wp2
         go_ret
         exact ⟨_, by rfl, by exact Kd.R_mono HO_7.out (fun _ hk => trivial), by exact HI0.out, by exact HB.out, by exact HK.out⟩
     ·rw [if_neg c16] at H
      exact absurd H (by simp)
    ·rw [if_neg c15] at H
     exact absurd H (by simp)
def field_GF_Scale.l0 : Nat → Int → List Int → List Int → Int → Int → Int → Int → List Int → Int → List Int → List Int → Option (List Int × Int × Int × Int)
 | 0, _, _, _, _, _, _, _, _, _, _, _ => none
 | k + 1, x1, x7, x13, x14, x15, x1000, x1001, x1002, x1003, x1004, x1005 => if x15 < x14 then (if 0 ≤ x15 then (if x15 < (x13.length : Int) then ((field_GF_Mul.f x1000 x1001 x1002 x1003 x1004 x1005 x1 (rd x13 x15)).bind fun bt355 => (if x15 < (x7.length : Int) then (field_GF_Scale.l0 k x1 (x7.set (x15 : Int).toNat bt355.1) x13 x14 (wrap64 (x15 + 1)) bt355.2.1 bt355.2.2.1 x1002 bt355.2.2.2 x1004 x1005) else (none))) else (none)) else (none)) else (some (x7, x1000, x1001, x1003))
def field_GF_Scale.f (k : Nat) (s0_0 : Int) (s0_1 : Int) (s0_2 : List Int) (s0_3 : Int) (s0_4 : List Int) (s0_5 : List Int) (a1 : Int) (l2 : List Int) : Option (List Int × Int × Int × Int) := if 0 ≤ (l2.length : Int) then (if ((l2.length : Int) : Int).toNat ≤ 35184372088832 then (field_GF_Scale.l0 k a1 (List.replicate ((l2.length : Int) : Int).toNat 0) l2 (l2.length : Int) 0 s0_0 s0_1 s0_2 s0_3 s0_4 s0_5) else (none)) else (none)
set_option maxHeartbeats 8000000 in
set_option maxRecDepth 100000 in
theorem field_GF_Scale.calls (k : Nat) (g : Nat) (s0_0 : Int) (s0_1 : Int) (s0_2 : List Int) (s0_3 : Int) (s0_4 : List Int) (s0_5 : List Int) (a1 : Int) (A2 : Option Addr) (c2 : Nat) (l2 : List Int) (r1 : List Int) (r2 : Int) (r3 : Int) (r4 : Int) (w0 w : World) (hI : IsS93 w0 w g s0_0 s0_1 s0_2 s0_3 s0_4 s0_5) (hB : Below w0.heap.size w0 w) (hr2 : Kd.C (Kd.int .i64) w A2 l2.length l2) (hc2 : l2.length ≤ c2) (hf2 : ∀ ad, A2 = some ad → 0 < l2.length → ad.block ≠ g) (h : field_GF_Scale.f k s0_0 s0_1 s0_2 s0_3 s0_4 s0_5 a1 l2 = some (r1, r2, r3, r4)) :
  Calls Try.prog 78 #[.pointer (some ⟨g, 0, none⟩), .int .i64 a1, .slice A2 l2.length c2] w fun e w' => ∃ v0_ : Value, e = .returned (v0_) ∧ Kd.R (Kd.int .i64) 3 w' w.heap.size (fun _ => True) v0_ r1 ∧ IsS93 w0 w' g r2 r3 s0_2 r4 s0_4 s0_5 ∧ Below w0.heap.size w0 w' ∧ KeepBut w w' g none := by
 have HR2 := Aside0.mk hr2
 have HC2 := Aside0.mk hc2
 clear hr2 hc2
 have HI0 := Aside0.mk hI
 have HK := Aside0.mk (KeepBut.refl w g none)
 have HL := Aside0.mk hB.size
 clear hI
 have HW0 := Aside0.mk hB.size
 have HB := Aside0.mk hB
 clear hB
 have H : (if 0 ≤ (l2.length : Int) then (if ((l2.length : Int) : Int).toNat ≤ 35184372088832 then (field_GF_Scale.l0 k a1 (List.replicate ((l2.length : Int) : Int).toNat 0) l2 (l2.length : Int) 0 s0_0 s0_1 s0_2 s0_3 s0_4 s0_5) else (none)) else (none)) = some (r1, r2, r3, r4) := h
 clear h
 by_cases c4 : 0 ≤ (l2.length : Int)
 ·rw [if_pos c4] at H
  have c4b0 := eq_true c4
  have c4b1 : decide (0 ≤ (l2.length : Int)) = true := decide_eq_true c4
  clear c4
  by_cases c5 : ((l2.length : Int) : Int).toNat ≤ 35184372088832
  ·rw [if_pos c5] at H
   have c5b0 := eq_true c5
   have c5b1 : decide (((l2.length : Int) : Int).toNat ≤ 35184372088832) = true := decide_eq_true c5
   clear c5
   obtain ⟨y351, hy351⟩ : ∃ y_ : List Int, y_ = (List.replicate ((l2.length : Int) : Int).toNat 0) := ⟨_, rfl⟩
   replace H : (field_GF_Scale.l0 k a1 y351 l2 (l2.length : Int) 0 s0_0 s0_1 s0_2 s0_3 s0_4 s0_5) = some (r1, r2, r3, r4) := by (rw [hy351]; with_reducible exact H)
   have Ny351 := Aside0.mk hy351
   clear hy351
   have H' := Aside0.mk H
   clear H
   go_enter Try.func78, Try.ntmps78
   go_wp2_with (((with_reducible refine gate_dst (N := 12) rfl ?_); refine Kd.R_make (Kd.int .i64) _ 3 rfl (N := 12) rfl 22 _ _ rfl (l2.length : Int) rfl rfl Try.underlying22 (.int .i64 0) 8 info3 rfl (by decide) (by omega) 0 (ok := fun _ => True) (okp := fun _ => True) rfl (fun _ hk => hk) trivial (of_decide_eq_true (by (with_reducible assumption))) (Nat.le_trans (Nat.mul_le_mul_right _ (of_decide_eq_true (by (with_reducible assumption)) : (l2.length : Int).toNat ≤ 35184372088832)) (by omega)) (Below.refl _ _) (Nat.le_refl _) ?_; intro v352 w6 ho7 hb hg_ hnew_; clear hg_ hnew_; ((rw [← Ny351.out] at ho7)); have n0_ := Aside0.mk (Kd.R_lower ho7 (keep_size (w := w) (g := g) (row := none) HK.out)); have n1_ := Aside0.mk (IsS93.below HI0.out hb); have n2_ := Aside0.mk (KeepBut.trans HK.out (KeepBut.of_below hb g none) (.inl rfl)); have n3_ := Aside0.mk (below_step HB.out hb); clear HI0; clear HK; clear HB; have HO353 := n0_; have HI0 := n1_; have HK := n2_; have HB := n3_; clear n0_ n1_ n2_ n3_; clear hb ho7))
   go_loopg [15] k (fun kq v15 w' => ∃ (x7_1 : List Int) (x15_1 : Int) (x1000_1 : Int) (x1001_1 : Int) (x1003_1 : Int), v15 = .int .i64 x15_1 ∧ Aside0 (field_GF_Scale.l0 kq a1 x7_1 l2 (l2.length : Int) x15_1 x1000_1 x1001_1 s0_2 x1003_1 s0_4 s0_5 = some (r1, r2, r3, r4)) ∧ Aside0 (kq ≤ k) ∧ Aside0 (Kd.R (Kd.int .i64) 3 w' w.heap.size (fun _ => True) v352 x7_1) ∧ Aside0 (IsS93 w0 w' g x1000_1 x1001_1 s0_2 x1003_1 s0_4 s0_5) ∧ Aside0 (KeepBut w w' g none) ∧ Aside0 (Below w0.heap.size w0 w'))
   case atStart => exact ⟨(y351), (0), (s0_0), (s0_1), (s0_3), (by rfl), H', ⟨Nat.le_refl _⟩, ⟨HO353.out⟩, ⟨HI0.out⟩, ⟨HK.out⟩, ⟨HB.out⟩⟩
   case round =>
    clear H' c4b0 c4b1 c5b0 c5b1
    obtain ⟨x7_1, x15_1, x1000_1, x1001_1, x1003_1, rfl, HA, HK1, HO_7, HI0, HK, HB⟩ := hrel
    cases gk with
    | zero => exact absurd HA.out (by simp [field_GF_Scale.l0])
    | succ k1 =>
     have H := HA.out
     clear HA
     simp only [field_GF_Scale.l0] at H
     by_cases c8 : x15_1 < (l2.length : Int)
     ·rw [if_pos c8] at H
      have c8b0 : decide (x15_1 < (l2.length : Int)) = true := decide_eq_true c8
      clear c8
      by_cases c9 : 0 ≤ x15_1
      ·rw [if_pos c9] at H
       have c9b0 : decide (0 ≤ x15_1) = true := decide_eq_true c9
       clear c9
       by_cases c10 : x15_1 < (l2.length : Int)
       ·rw [if_pos c10] at H
        have c10b0 : decide (x15_1 < (l2.length : Int)) = true := decide_eq_true c10
        clear c10
        replace H := Option.bind_eq_some_iff.mp H
        obtain ⟨⟨t355, t356, t357, t358⟩, A110, H⟩ := H
        replace H : (if x15_1 < (x7_1.length : Int) then (field_GF_Scale.l0 k1 a1 (x7_1.set (x15_1 : Int).toNat t355) l2 (l2.length : Int) (wrap64 (x15_1 + 1)) t356 t357 s0_2 t358 s0_4 s0_5) else (none)) = some (r1, r2, r3, r4) := H
        have A11 := Aside0.mk A110
        clear A110
        by_cases c12 : x15_1 < (x7_1.length : Int)
        ·rw [if_pos c12] at H
         have c12b0 : decide (x15_1 < (x7_1.length : Int)) = true := decide_eq_true c12
         clear c12
         obtain ⟨y359, hy359⟩ : ∃ y_ : List Int, y_ = (x7_1.set (x15_1 : Int).toNat t355) := ⟨_, rfl⟩
         replace H : (field_GF_Scale.l0 k1 a1 y359 l2 (l2.length : Int) (wrap64 (x15_1 + 1)) t356 t357 s0_2 t358 s0_4 s0_5) = some (r1, r2, r3, r4) := by (rw [hy359]; with_reducible exact H)
         have Ny359 := Aside0.mk hy359
         clear hy359
         have H' := Aside0.mk H
         clear H
         have p354 : 0 ≤ (x15_1 : Int) := of_decide_eq_true (by (with_reducible assumption))
         have q354 : x15_1 < (l2.length : Int) := of_decide_eq_true (by (with_reducible assumption))
         obtain ⟨ad354, e354, hx354_0⟩ := Kd.at_int HR2.out x15_1 p354 q354
         cases e354
         replace hx354_0 := keep_cell HK.out hx354_0 (by (rw [add_block]; exact hf2 _ rfl (by omega)))
         replace p354 := eq_true p354
         replace q354 := eq_true q354
         go_wp2_with (first | ((with_reducible refine gate_callee (f := 54) rfl ?_); refine goesL_ (some 25) rfl rfl Try.func54 (by kernel_rfl) rfl #[.pointer (some ⟨g, 0, none⟩), .int .i64 a1, .int .i64 (rd l2 x15_1)] rfl (by ((simp only [List.map_toArray, List.map_cons, List.map_nil])); (rfl)) ?_; (with_reducible refine (field_GF_Mul.calls g x1000_1 x1001_1 s0_2 x1003_1 s0_4 s0_5 a1 (rd l2 x15_1) t355 t356 t357 t358 w0 _ ?side1 ?side2 A11.out).mono ?_); (case side1 => repeat ((with_reducible (exact HI0.out)))); (case side2 => repeat ((with_reducible (exact HB.out)))); rintro e w14 ⟨rfl, hi, hb, hk⟩; refine ⟨_, rfl, ?_⟩; have n0_ := Aside0.mk (Kd.R_mono (Kd.R_keep (IsS93.apart (show IsS93 w0 _ g x1000_1 x1001_1 s0_2 x1003_1 s0_4 s0_5 from by exact HI0.out) HO_7.out (by decide)) hk (fun _ h => h.2)) (fun _ h => h.1)); have n1_ := Aside0.mk (KeepBut.trans HK.out hk (.inl rfl)); have n2_ := Aside0.mk (hb); have n3_ := Aside0.mk (hi); clear HO_7; clear HK; clear HB; clear HI0; have HO_7 := n0_; have HK := n1_; have HB := n2_; have HI0 := n3_; clear n0_ n1_ n2_ n3_; ((clear hb)); (skip); ((clear hk)); ((clear hi)); have p13 : 0 ≤ (x15_1 : Int) := of_decide_eq_true (by (with_reducible assumption)); have q13 : (x15_1 : Int) < ((x7_1.length : Int) : Int) := of_decide_eq_true (by (with_reducible assumption)); obtain ⟨go13, co13, eo13, gb13, gl13, cl13, HG13⟩ := Kd.R_form HO_7.out (by omega); ((cases eo13)); have GB13 := Aside0.mk gb13; have GG13 := Aside0.mk HG13; clear gb13 gl13 HG13; obtain ⟨hx13_0, hf13_0⟩ := Kd.R_celln 0 HO_7.out (x15_1 : Int) p13 q13; replace p13 := eq_true p13; replace q13 := eq_true q13; obtain ⟨hy15_, hz15_⟩ := Kd.R_celln 0 HO_7.out (x15_1 : Int) (of_decide_eq_true (by (with_reducible assumption))) (of_decide_eq_true (by (with_reducible assumption))); have HP15 := Kd.R_putg HO_7.out (x15_1 : Int) t355) | ((with_reducible refine gate_store (t := 3) (p := 26) rfl ?_); refine store_event (t := 3) (p := 26) (v := ?vo_w16) (w1 := (w14.setCell ⟨go13, (x15_1 : Int).toNat, none⟩ (.int .i64 t355))) ?hg ?ho ?hn ?hr ?_; (case ho => rfl); (case hg => rfl); (case hn => rfl); (case hr => (go_simp; done)); intro w16 hw; have hg : w14.grownBy w16 (some go13) := (by rw [hw]; exact HP15.2); have hp_ : Kd.R (Kd.int .i64) 3 w16 w.heap.size (fun _ => True) (.slice (some ⟨go13, 0, none⟩) x7_1.length co13) y359 := (by rw [hw, Ny359.out]; exact HP15.1); clear HP15; have n0_ := Aside0.mk (hp_); have n1_ := Aside0.mk (IsS93.grown HI0.out hg (IsS93.own_ne HI0.out HO_7.out (by decide))); have n2_ := Aside0.mk ((by rw [hw]; exact below_set (HB.out) (Nat.le_trans HL.out GB13.out) : Below w0.heap.size w0 w16)); have n3_ := Aside0.mk (KeepBut.trans HK.out (KeepBut.of_grown hg g) (Kd.R_base2 HO_7.out)); clear HO_7; clear HI0; clear HB; clear HK; have HO_7 := n0_; have HI0 := n1_; have HB := n2_; have HK := n3_; clear n0_ n1_ n2_ n3_; clear hg hw hp_))
         go_roundg k1
         case measure => have := HK1.out; omega
         case rel => exact ⟨(y359), (wrap64 (x15_1 + 1)), (t356), (t357), (t358), (by rfl), H', ⟨by have := HK1.out; omega⟩, ⟨HO_7.out⟩, ⟨HI0.out⟩, ⟨HK.out⟩, ⟨HB.out⟩⟩
        ·rw [if_neg c12] at H
         exact absurd H (by simp)
       ·rw [if_neg c10] at H
        exact absurd H (by simp)
      ·rw [if_neg c9] at H
       exact absurd H (by simp)
     ·rw [if_neg c8] at H
      have c8b0 : decide (x15_1 < (l2.length : Int)) = false := decide_eq_false c8
      clear c8
      simp only [Option.some.injEq, Prod.mk.injEq] at H
      obtain ⟨rfl, rfl, rfl, rfl⟩ := H
      go_wp2
      go_ret
      exact ⟨_, by rfl, by exact HO_7.out, by exact HI0.out, by exact HB.out, by exact HK.out⟩
  ·rw [if_neg c5] at H
   exact absurd H (by simp)
 ·rw [if_neg c4] at H
  exact absurd H (by simp)
def poly_Scale.f (k : Nat) (s0_0 : Int) (s0_1 : Int) (s0_2 : List Int) (s0_3 : Int) (s0_4 : List Int) (s0_5 : List Int) (a1 : Int) (l2 : List Int) : Option (List Int × Int × Int × Int) := (field_GF_Scale.f k s0_0 s0_1 s0_2 s0_3 s0_4 s0_5 a1 l2).bind fun bt360 => ((poly_trim.f k bt360.1).bind fun t366 => (some (t366, bt360.2.1, bt360.2.2.1, bt360.2.2.2)))
set_option maxHeartbeats 8000000 in
set_option maxRecDepth 100000 in
theorem poly_Scale.calls (k : Nat) (g : Nat) (s0_0 : Int) (s0_1 : Int) (s0_2 : List Int) (s0_3 : Int) (s0_4 : List Int) (s0_5 : List Int) (a1 : Int) (A2 : Option Addr) (c2 : Nat) (l2 : List Int) (r1 : List Int) (r2 : Int) (r3 : Int) (r4 : Int) (w0 w : World) (hI : IsS93 w0 w g s0_0 s0_1 s0_2 s0_3 s0_4 s0_5) (hB : Below w0.heap.size w0 w) (hr2 : Kd.C (Kd.int .i64) w A2 l2.length l2) (hc2 : l2.length ≤ c2) (hf2 : ∀ ad, A2 = some ad → 0 < l2.length → ad.block ≠ g) (h : poly_Scale.f k s0_0 s0_1 s0_2 s0_3 s0_4 s0_5 a1 l2 = some (r1, r2, r3, r4)) :
  Calls Try.prog 48 #[.pointer (some ⟨g, 0, none⟩), .int .i64 a1, .slice A2 l2.length c2] w fun e w' => ∃ v0_ : Value, e = .returned (v0_) ∧ Kd.R (Kd.int .i64) 3 w' w.heap.size (fun _ => True) v0_ r1 ∧ IsS93 w0 w' g r2 r3 s0_2 r4 s0_4 s0_5 ∧ Below w0.heap.size w0 w' ∧ KeepBut w w' g none := by
 have HR2 := Aside0.mk hr2
 have HC2 := Aside0.mk hc2
 clear hr2 hc2
 have HI0 := Aside0.mk hI
 have HK := Aside0.mk (KeepBut.refl w g none)
 have HL := Aside0.mk hB.size
 clear hI
 have HW0 := Aside0.mk hB.size
 have HB := Aside0.mk hB
 clear hB
 have H : ((field_GF_Scale.f k s0_0 s0_1 s0_2 s0_3 s0_4 s0_5 a1 l2).bind fun bt360 => ((poly_trim.f k bt360.1).bind fun t366 => (some (t366, bt360.2.1, bt360.2.2.1, bt360.2.2.2)))) = some (r1, r2, r3, r4) := h
 clear h
 replace H := Option.bind_eq_some_iff.mp H
 obtain ⟨⟨t360, t363, t364, t365⟩, A40, H⟩ := H
 replace H : ((poly_trim.f k t360).bind fun t366 => (some (t366, t363, t364, t365))) = some (r1, r2, r3, r4) := H
 have A4 := Aside0.mk A40
 clear A40
 obtain ⟨t366, A50, H⟩ := Option.bind_eq_some_iff.mp H
 replace H : (some (t366, t363, t364, t365)) = some (r1, r2, r3, r4) := H
 have A5 := Aside0.mk A50
 clear A50
 simp only [Option.some.injEq, Prod.mk.injEq] at H
 obtain ⟨rfl, rfl, rfl, rfl⟩ := H
 go_enter Try.func48, Try.ntmps48
 go_wp2_with (first | ((with_reducible refine gate_callee (f := 78) rfl ?_); refine goesL_ (some 10) rfl rfl Try.func78 (by kernel_rfl) rfl #[.pointer (some ⟨g, 0, none⟩), .int .i64 a1, .slice A2 l2.length c2] rfl (by ((simp only [List.map_toArray, List.map_cons, List.map_nil])); (rfl)) ?_; (with_reducible refine (field_GF_Scale.calls k g s0_0 s0_1 s0_2 s0_3 s0_4 s0_5 a1 _ _ l2 t360 t363 t364 t365 w0 _ ?side1 ?side2 ?side3 ?side4 ?side5 A4.out).mono ?_); (case side1 => repeat ((with_reducible (exact HI0.out)))); (case side2 => repeat ((with_reducible (exact HB.out)))); (case side3 => exact Kd.C_keep 0 HR2.out HK.out hf2); (case side4 => exact HC2.out); (case side5 => exact hf2); rintro e w6 ⟨v361, rfl, ho0, hi, hb, hk⟩; refine ⟨_, rfl, ?_⟩; have n0_ := Aside0.mk (Kd.R_lower ho0 (keep_size (w := w) (g := g) (row := none) HK.out)); have n1_ := Aside0.mk (KeepBut.trans HK.out hk (.inl rfl)); have n2_ := Aside0.mk (hb); have n3_ := Aside0.mk (hi); clear HK; clear HB; clear HI0; have HO362 := n0_; have HK := n1_; have HB := n2_; have HI0 := n3_; clear n0_ n1_ n2_ n3_; ((clear hb)); (skip); ((clear hk)); ((clear hi)); ((clear ho0)); obtain ⟨Ao7, co7, eo7⟩ := Kd.R_slice HO362.out; subst eo7) | ((with_reducible refine gate_callee (f := 80) rfl ?_); refine goesL_ (some 11) rfl rfl Try.func80 (by kernel_rfl) rfl #[.slice Ao7 t360.length co7] rfl (by ((simp only [List.map_toArray, List.map_cons, List.map_nil])); (rfl)) ?_; (with_reducible refine (poly_trim.calls k (fun k_ => some k_ = (.slice Ao7 t360.length co7 : Value).ownBlock) (.slice Ao7 t360.length co7) t360 t366 w0 _ ?side1 ?side2 A5.out).mono ?_); (case side1 => repeat ((with_reducible (exact HB.out)))); (case side2 => exact Kd.R_lower (Kd.R_tight rfl HO362.out) HL.out); rintro e w8 ⟨v367, rfl, ho0, hb, hkp⟩; refine ⟨_, rfl, ?_⟩; have n0_ := Aside0.mk (IsS93.kept HI0.out hkp (fun hs_ => (fun e_ => (IsS93.own_ne HI0.out HO362.out (by decide)) e_) hs_)); have n1_ := Aside0.mk (Kd.R_mono (ok' := fun k_ => True) (Kd.R_raise (d := (Kd.int .i64)) (b := w0.heap.size) (b' := w.heap.size) (fun _ _ _ _ h_ => h_) ho0 (fun k_ e_ => Or.elim (ho0.1 k_ e_) (fun hs_ => (fun e_ => Kd.R_base HO362.out k_ e_.symm) hs_) (fun hn_ => Nat.le_trans (keep_size (w := w) (g := g) (row := none) HK.out) hn_))) (fun k_ hk_ => trivial)); have n2_ := Aside0.mk (Kept.keepG HK.out hkp (fun k_ hs_ => (fun e_ => .inr (Kd.R_base HO362.out k_ e_.symm)) hs_)); have n3_ := Aside0.mk (hb); clear HI0; clear HK; clear HB; clear HO362; have HI0 := n0_; have HO368 := n1_; have HK := n2_; have HB := n3_; clear n0_ n1_ n2_ n3_; ((clear hb)); ((clear hkp)); ((clear ho0))))
 go_ret
 exact ⟨_, by rfl, by exact HO368.out, by exact HI0.out, by exact HB.out, by exact HK.out⟩
end Go.Proofs.Ytkdakjlopheefaa.PA
end
