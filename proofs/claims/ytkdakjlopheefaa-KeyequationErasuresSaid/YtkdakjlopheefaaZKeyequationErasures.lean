/- Proved: for every input the law KeyequationErasures returns true and leaves its arguments as they were; no conditions. Part 7 of 7 of the proof. -/
import Derived.Test.YtkdakjlopheefaaZKeyequationErasures5
import Derived.Test.YtkdakjlopheefaaRows
import Derived.WalkKit
import Derived.ProofKit
import Derived.OpenShut
import Derived.ShutString
import Derived.ChangeOld
import Derived.Below
import Derived.SizedLaws
import Derived.Lib.SmallJoins
import Derived.Deep.Matrix
set_option linter.unusedSectionVars false
set_option linter.unusedSimpArgs false
set_option linter.unusedVariables false
section
namespace Go.Proofs.Ytkdakjlopheefaa.PA
open Alg Go.RowKit Go.Proofs.YtkdakjlopheefaaW.PrintWords Go.Proofs.YtkdakjlopheefaaW.PrintLast Go.Proofs.YtkdakjlopheefaaW.PrintMore
set_option linter.unusedVariables false
set_option maxHeartbeats 4000000 in
set_option maxRecDepth 100000 in
theorem KeyequationErasures_calls (P M : Int) (A : Option Addr) (c : Nat) (md : List Int) (Akn : Option Addr) (ckn : Nat) (lkn : List Int) (Alo : Option Addr) (clo : Nat) (llo : List Int) (Ap : Option Addr) (cp : Nat) (lp : List Int) (Aq : Option Addr) (cq : Nat) (lq : List Int) (ar : Int) (w : World) (hr : Kd.C (Kd.int .i64) w A md.length md) (hc : md.length ≤ c) (hrkn : Kd.C (Kd.int .i64) w Akn lkn.length lkn) (hckn : lkn.length ≤ ckn) (hrlo : Kd.C (Kd.int .i64) w Alo llo.length llo) (hclo : llo.length ≤ clo) (hrp : Kd.C (Kd.int .i64) w Ap lp.length lp) (hcp : lp.length ≤ cp) (hrq : Kd.C (Kd.int .i64) w Aq lq.length lq) (hcq : lq.length ≤ cq) (hir : (Lit.int .i64 ar).wf = true) :
    Calls Try.prog 9 #[.agg #[.int .i64 P, .int .i64 M, .slice A md.length c], .agg #[.slice Akn lkn.length ckn, .slice Alo llo.length clo, .slice Ap lp.length cp, .slice Aq lq.length cq], .int .i64 ar] w fun e w' => e = .returned (.bool true) ∧ Below w.heap.size w w' := by
  have HR := Aside0.mk hr
  have HC := Aside0.mk hc
  have HRkn := Aside0.mk hrkn
  have HCkn := Aside0.mk hckn
  have HRlo := Aside0.mk hrlo
  have HClo := Aside0.mk hclo
  have HRp := Aside0.mk hrp
  have HCp := Aside0.mk hcp
  have HRq := Aside0.mk hrq
  have HCq := Aside0.mk hcq
  have HIr := Aside0.mk hir
  clear hr hc  hrkn hckn hrlo hclo hrp hcp hrq hcq hir
  go_enter Try.func9, Try.ntmps9
  go_wp2_with fail
  refine (alive_calls _).mono ?_
  rintro e w2 ⟨rfl, hb⟩
  have HB := Aside0.mk (below_step (below_alloc (below_alloc (Below.refl _ w) _) _) hb)
  have BK := Aside0.mk (blk_below (blk_alloc (blk_new w _) _) hb)
  have BV1 := Aside0.mk (blk_below (blk_new1 w _ _) hb)
  clear hb
  have b0 := (blk_cell BK.out 0).trans rfl
  have b1 := (blk_cell BK.out 1).trans rfl
  have b2 := (blk_cell BK.out 2).trans rfl
  go_wp2_with fail
  refine (made_calls P M A c md _ (Kd.C_below HR.out HB.out) HC.out).mono ?_
  rintro e w3 ⟨v, rfl, h⟩
  rcases h with ⟨rfl, hb⟩ | ⟨g, rfl, W0, hb, hb2, p, m, ex, lg, rfl, rfl, ⟨ht, hG⟩, hI⟩
  · have HB2 := Aside0.mk (below_step HB.out hb)
    have v10 := (blk_cell (blk_below BV1.out hb) 0).trans rfl
    have v11 := (blk_cell (blk_below BV1.out hb) 1).trans rfl
    have v12 := (blk_cell (blk_below BV1.out hb) 2).trans rfl
    have v13 := (blk_cell (blk_below BV1.out hb) 3).trans rfl
    clear hb
    go_wp2
    go_quiet (fail)
    go_wp2
    go_ret
    exact ⟨rfl, pw_below_drewN HB2.out nq⟩
  · have C1 := Aside0.mk (below_step HB.out hb)
    have BK0 := Aside0.mk (blk_below BK.out hb)
    have S : St W0 w3 g p m md _ ex lg := ⟨hI, hb2⟩
    have HGO := Aside0.mk hG
    have XF := S.arg (Kd.C_below HR.out C1.out) HC.out
    have Xkn := S.arg (Kd.C_below HRkn.out C1.out) HCkn.out
    have Xlo := S.arg (Kd.C_below HRlo.out C1.out) HClo.out
    have Xp := S.arg (Kd.C_below HRp.out C1.out) HCp.out
    have Xq := S.arg (Kd.C_below HRq.out C1.out) HCq.out
    have v10 := (blk_cell (blk_below (blk_below BV1.out hb) hb2) 0).trans rfl
    have v11 := (blk_cell (blk_below (blk_below BV1.out hb) hb2) 1).trans rfl
    have v12 := (blk_cell (blk_below (blk_below BV1.out hb) hb2) 2).trans rfl
    have v13 := (blk_cell (blk_below (blk_below BV1.out hb) hb2) 3).trans rfl
    clear hb hb2 hI hG b0 b1 b2 HB BK BV1 HR HC HRkn HCkn HRlo HClo HRp HCp HRq HCq
    go_wp2
    go_quiet (fail)
    replace XF := XF.step (Stp.drewN w3 nq g)
    replace Xkn := Xkn.step (Stp.drewN w3 nq g)
    replace Xlo := Xlo.step (Stp.drewN w3 nq g)
    replace Xp := Xp.step (Stp.drewN w3 nq g)
    replace Xq := Xq.step (Stp.drewN w3 nq g)
    replace S := S.drewN nq
    clear v10 v11 v12 v13
    generalize w3.drewN nq = w3b at *
    by_cases cs : ∀ l, l ∈ [lkn, llo, lp, lq] → l.length ≤ 20
    rotate_left
    · have cb := Aside0.mk (decide_eq_false cs)
      go_wp2_with fail
      refine (short_w S [(Akn, ckn, lkn), (Alo, clo, llo), (Ap, cp, lp), (Aq, cq, lq)] _ (by simp) (fun x hx => by rcases List.mem_cons.1 hx with rfl | hx; exact Xkn; rcases List.mem_cons.1 hx with rfl | hx; exact Xlo; rcases List.mem_cons.1 hx with rfl | hx; exact Xp; rcases List.mem_cons.1 hx with rfl | hx; exact Xq; exact absurd hx List.not_mem_nil) false cb.out).mono ?_
      rintro e w4 ⟨rfl, S2, hK⟩
      replace XF := XF.step hK
      replace Xkn := Xkn.step hK
      replace Xlo := Xlo.step hK
      replace Xp := Xp.step hK
      replace Xq := Xq.step hK
      clear hK S cb
      have S := S2
      clear S2
      go_wp2
      go_ret
      exact ⟨rfl, below_step C1.out S.B⟩
    · have cb := Aside0.mk (decide_eq_true cs)
      go_wp2_with fail
      refine (short_w S [(Akn, ckn, lkn), (Alo, clo, llo), (Ap, cp, lp), (Aq, cq, lq)] _ (by simp) (fun x hx => by rcases List.mem_cons.1 hx with rfl | hx; exact Xkn; rcases List.mem_cons.1 hx with rfl | hx; exact Xlo; rcases List.mem_cons.1 hx with rfl | hx; exact Xp; rcases List.mem_cons.1 hx with rfl | hx; exact Xq; exact absurd hx List.not_mem_nil) true cb.out).mono ?_
      rintro e w4 ⟨rfl, S2, hK⟩
      replace XF := XF.step hK
      replace Xkn := Xkn.step hK
      replace Xlo := Xlo.step hK
      replace Xp := Xp.step hK
      replace Xq := Xq.step hK
      clear hK S cb
      have S := S2
      clear S2
      have hlkn : lkn.length ≤ 20 := cs _ (by simp)
      have hllo : llo.length ≤ 20 := cs _ (by simp)
      have hlp : lp.length ≤ 20 := cs _ (by simp)
      have hlq : lq.length ≤ 20 := cs _ (by simp)
      have HLS := Aside0.mk cs
      clear cs
      obtain ⟨n2, hn2⟩ : ∃ n : Int, n = 2 * (lp.length : Int) := ⟨_, rfl⟩
      have f0 : IntKind.i64.wrap (2 * (lp.length : Int)) = n2 := by rw [hn2, i64_w, w64 (by omega)]
      obtain ⟨n3, hn3⟩ : ∃ n : Int, n = (lkn.length : Int) + n2 := ⟨_, rfl⟩
      have f1 : IntKind.i64.wrap ((lkn.length : Int) + n2) = n3 := by rw [hn3, i64_w, w64 (by omega)]
      by_cases hcA : ar < 1
      · skip
        have d0 : decide (ar < 1) = true := decide_eq_true (by omega)
        go_wp2
        go_ret
        exact ⟨rfl, below_step C1.out S.B⟩
      by_cases hcA : 24 < ar
      · skip
        have d0 : decide (ar < 1) = false := decide_eq_false (by omega)
        have d1 : decide (24 < ar) = true := decide_eq_true (by omega)
        go_wp2
        go_ret
        exact ⟨rfl, below_step C1.out S.B⟩
      by_cases hcA : ¬ lkn.length = llo.length
      · skip
        have d0 : decide (ar < 1) = false := decide_eq_false (by omega)
        have d1 : decide (24 < ar) = false := decide_eq_false (by omega)
        have e1 : ((lkn.length : Int) == (llo.length : Int)) = false := beq_false_of_ne (by omega)
        have e2 : ((lkn.length : Int) != (llo.length : Int)) = true := bne_iff_ne.mpr (by omega)
        have e3 : ¬ lkn.length = llo.length := hcA
        clear hcA
        go_wp2
        go_ret
        exact ⟨rfl, below_step C1.out S.B⟩
      have hkl : lkn.length = llo.length := Classical.byContradiction hcA
      clear hcA
      by_cases hcA : ar < n3
      · skip
        have d0 : decide (ar < 1) = false := decide_eq_false (by omega)
        have d1 : decide (24 < ar) = false := decide_eq_false (by omega)
        have d2 : decide (ar < n3) = true := decide_eq_true (by omega)
        have e1 : ((lkn.length : Int) == (llo.length : Int)) = true := beq_iff_eq.mpr (by omega)
        have e2 : ((lkn.length : Int) != (llo.length : Int)) = false := bne_eq_false_iff_eq.mpr (by omega)
        clear hkl hn2 hn3
        go_wp2
        go_ret
        exact ⟨rfl, below_step C1.out S.B⟩
      have d0 : decide (ar < 1) = false := decide_eq_false (by omega)
      have d1 : decide (24 < ar) = false := decide_eq_false (by omega)
      have d2 : decide (ar < n3) = false := decide_eq_false (by omega)
      have e1 : ((lkn.length : Int) == (llo.length : Int)) = true := beq_iff_eq.mpr (by omega)
      have e2 : ((lkn.length : Int) != (llo.length : Int)) = false := bne_eq_false_iff_eq.mpr (by omega)
      have B1 := Aside0.mk (show 1 ≤ ar ∧ ar ≤ 24 ∧ (lkn.length : Int) + 2 * (lp.length : Int) ≤ ar from ⟨by omega, by omega, by omega⟩)
      obtain ⟨al, hal⟩ : ∃ x, x = [] ++ lkn ++ lp := ⟨_, rfl⟩
      obtain ⟨am, ham⟩ : ∃ x, x = [] ++ llo ++ lq := ⟨_, rfl⟩
      have EAL := Aside0.mk hal
      have EAM := Aside0.mk ham
      obtain ⟨k, b, b2, h1, h2, h3, h4, h5⟩ := kera1 HGO.out lp lq al hlp hlq (by rw [hal]; simp only [List.length_append, List.length_nil]; omega)
      have H1 := Aside0.mk h1
      have H2 := Aside0.mk h2
      have H3 := Aside0.mk h3
      have H4 := Aside0.mk h4
      have H5 := Aside0.mk h5
      have HKL := Aside0.mk hkl
      have HLK := Aside0.mk hlkn
      have HLL := Aside0.mk hllo
      have HLP := Aside0.mk hlp
      have HLQ := Aside0.mk hlq
      clear h1 h2 h3 h4 h5 hkl hn2 hn3 hal ham hlkn hllo hlp hlq
      cases b
      · skip
        have b0 := (S.box BK0.out 0).trans rfl
        have b1 := (S.box BK0.out 1).trans rfl
        have b2 := (S.box BK0.out 2).trans rfl
        go_wp2_with fail
        refine (codewrightlaw38_errors.w k S XF Xp Xq H1.out).mono ?_
        rintro e w5 ⟨rfl, S2, hK⟩
        clear b0 b1 b2
        replace XF := (XF).step hK
        replace Xkn := (Xkn).step hK
        replace Xlo := (Xlo).step hK
        replace Xp := (Xp).step hK
        replace Xq := (Xq).step hK
        clear hK S
        have S := S2
        clear S2
        go_wp2
        go_ret
        exact ⟨rfl, below_step C1.out S.B⟩
      · skip
        have b0 := (S.box BK0.out 0).trans rfl
        have b1 := (S.box BK0.out 1).trans rfl
        have b2 := (S.box BK0.out 2).trans rfl
        go_wp2_with fail
        refine (codewrightlaw38_errors.w k S XF Xp Xq H1.out).mono ?_
        rintro e w5 ⟨rfl, S2, hK⟩
        clear b0 b1 b2
        replace XF := (XF).step hK
        replace Xkn := (Xkn).step hK
        replace Xlo := (Xlo).step hK
        replace Xp := (Xp).step hK
        replace Xq := (Xq).step hK
        clear hK S
        have S := S2
        clear S2
        obtain ⟨ya0, hya0⟩ : ∃ y : List Int, y = [] := ⟨_, rfl⟩
        obtain ⟨ya1, hya1⟩ : ∃ y, y = ya0 ++ lkn := ⟨_, rfl⟩
        have Eya0 := Aside0.mk hya0
        have Eya1 := Aside0.mk hya1
        have Eya2 := Aside0.mk (show al = ya1 ++ lp by rw [EAL.out, hya1, hya0])
        clear hya0 hya1
        obtain ⟨yb0, hyb0⟩ : ∃ y : List Int, y = [] := ⟨_, rfl⟩
        obtain ⟨yb1, hyb1⟩ : ∃ y, y = yb0 ++ llo := ⟨_, rfl⟩
        have Eyb0 := Aside0.mk hyb0
        have Eyb1 := Aside0.mk hyb1
        have Eyb2 := Aside0.mk (show am = yb1 ++ lq by rw [EAM.out, hyb1, hyb0])
        clear hyb0 hyb1
        go_wp2_with (first
          | ((with_reducible refine gate_dst (N := 81) rfl ?_); refine Kd.R_lit (Kd.int .i64) _ 3 ?hg (N := 81) ?hd (xs := ([] : List Int)) (inner := []) (ok := fun _ => True) (okp := fun _ => True) ?hr ?hp (fun _ hk => hk) trivial (Below.refl _ _) (Nat.le_refl _) (by simp) ?_; (case hd => rfl); (case hg => rfl); (case hr => (go_simp; done)); (case hp => exact (Reps.none _ _)); intro v0ya w20ya ho hb hg_ hnew_; clear hg_ hnew_; rw [← Eya0.out] at ho; have HO := Aside0.mk ho; have HB := Aside0.mk hb; clear ho hb)
          | ((with_reducible refine gate_builtin (b := .append) (xs := #[.tmp 81, .tmp 82]) rfl ?_); at_builtin; refine Kd.R_append_rows (Kd.int .i64) (w0 := w5) w5.heap.size rfl (.tmp 81) (.tmp 82) 22 3 (.int .i64 0) 8 rfl Try.underlying22 info3 rfl (by decide) (by omega) v0ya ya0 lkn _ _ _ (fun _ => True) (fun _ => False) rfl rfl HO.out (Kd.C_below Xkn.C HB.out) (fun _ _ h => h) (fun _ h => h.elim) (fun _ _ => trivial) HB.out HB.out.size (by have h8 := HLK.out; rw [Eya0.out]; simp only [List.length_nil]; omega) ?_; intro v1ya w21ya ho hb hg_ hat_; clear hg_ hat_; rw [← Eya1.out] at ho; have HO1 := Aside0.mk ho; have HB1 := Aside0.mk hb; clear ho hb HO HB)
          | ((with_reducible refine gate_builtin (b := .append) (xs := #[.tmp 83, .tmp 84]) rfl ?_); at_builtin; refine Kd.R_append_rows (Kd.int .i64) (w0 := w5) w5.heap.size rfl (.tmp 83) (.tmp 84) 22 3 (.int .i64 0) 8 rfl Try.underlying22 info3 rfl (by decide) (by omega) v1ya ya1 lp _ _ _ (fun _ => True) (fun _ => False) rfl rfl HO1.out (Kd.C_below Xp.C HB1.out) (fun _ _ h => h) (fun _ h => h.elim) (fun _ _ => trivial) HB1.out HB1.out.size (by have h8 := HLK.out; have h9 := HLP.out; rw [Eya1.out, Eya0.out]; simp only [List.length_append, List.length_nil]; omega) ?_; intro v2ya w6 ho hb hg_ hat_; clear hg_ hat_; rw [← Eya2.out] at ho; obtain ⟨Aal, cal, rfl, Xal⟩ := S.own ho; have HB2 := Aside0.mk hb; clear ho hb HO1 HB1; replace XF := XF.step (Stp.of_below HB2.out g); replace Xkn := Xkn.step (Stp.of_below HB2.out g); replace Xlo := Xlo.step (Stp.of_below HB2.out g); replace Xp := Xp.step (Stp.of_below HB2.out g); replace Xq := Xq.step (Stp.of_below HB2.out g); replace S := S.below HB2.out; clear HB2)
          | ((with_reducible refine gate_dst (N := 86) rfl ?_); refine Kd.R_lit (Kd.int .i64) _ 3 ?hg (N := 86) ?hd (xs := ([] : List Int)) (inner := []) (ok := fun _ => True) (okp := fun _ => True) ?hr ?hp (fun _ hk => hk) trivial (Below.refl _ _) (Nat.le_refl _) (by simp) ?_; (case hd => rfl); (case hg => rfl); (case hr => (go_simp; done)); (case hp => exact (Reps.none _ _)); intro v0yb w20yb ho hb hg_ hnew_; clear hg_ hnew_; rw [← Eyb0.out] at ho; have HO := Aside0.mk ho; have HB := Aside0.mk hb; clear ho hb)
          | ((with_reducible refine gate_builtin (b := .append) (xs := #[.tmp 86, .tmp 87]) rfl ?_); at_builtin; refine Kd.R_append_rows (Kd.int .i64) (w0 := w6) w6.heap.size rfl (.tmp 86) (.tmp 87) 22 3 (.int .i64 0) 8 rfl Try.underlying22 info3 rfl (by decide) (by omega) v0yb yb0 llo _ _ _ (fun _ => True) (fun _ => False) rfl rfl HO.out (Kd.C_below Xlo.C HB.out) (fun _ _ h => h) (fun _ h => h.elim) (fun _ _ => trivial) HB.out HB.out.size (by have h8 := HLL.out; rw [Eyb0.out]; simp only [List.length_nil]; omega) ?_; intro v1yb w21yb ho hb hg_ hat_; clear hg_ hat_; rw [← Eyb1.out] at ho; have HO1 := Aside0.mk ho; have HB1 := Aside0.mk hb; clear ho hb HO HB)
          | ((with_reducible refine gate_builtin (b := .append) (xs := #[.tmp 88, .tmp 89]) rfl ?_); at_builtin; refine Kd.R_append_rows (Kd.int .i64) (w0 := w6) w6.heap.size rfl (.tmp 88) (.tmp 89) 22 3 (.int .i64 0) 8 rfl Try.underlying22 info3 rfl (by decide) (by omega) v1yb yb1 lq _ _ _ (fun _ => True) (fun _ => False) rfl rfl HO1.out (Kd.C_below Xq.C HB1.out) (fun _ _ h => h) (fun _ h => h.elim) (fun _ _ => trivial) HB1.out HB1.out.size (by have h8 := HLL.out; have h9 := HLQ.out; rw [Eyb1.out, Eyb0.out]; simp only [List.length_append, List.length_nil]; omega) ?_; intro v2yb w7 ho hb hg_ hat_; clear hg_ hat_; rw [← Eyb2.out] at ho; obtain ⟨Aam, cam, rfl, Xam⟩ := S.own ho; have HB2 := Aside0.mk hb; clear ho hb HO1 HB1; replace XF := XF.step (Stp.of_below HB2.out g); replace Xkn := Xkn.step (Stp.of_below HB2.out g); replace Xlo := Xlo.step (Stp.of_below HB2.out g); replace Xp := Xp.step (Stp.of_below HB2.out g); replace Xq := Xq.step (Stp.of_below HB2.out g); replace Xal := Xal.step (Stp.of_below HB2.out g); replace S := S.below HB2.out; clear HB2; have b0 := (S.box BK0.out 0).trans rfl; have b1 := (S.box BK0.out 1).trans rfl; have b2_ := (S.box BK0.out 2).trans rfl))
        clear Eya0 Eya1 Eya2 Eyb0 Eyb1 Eyb2
        cases b2
        · skip
          refine (codewrightref38_Different.w k S XF Xal H3.out).mono ?_
          rintro e w8 ⟨rfl, S2, hK⟩
          clear b0 b1 b2_
          replace XF := XF.step hK
          replace Xkn := Xkn.step hK
          replace Xlo := Xlo.step hK
          replace Xp := Xp.step hK
          replace Xq := Xq.step hK
          replace Xal := Xal.step hK
          replace Xam := Xam.step hK
          clear hK S
          have S := S2
          clear S2
          go_wp2
          go_ret
          exact ⟨rfl, below_step C1.out S.B⟩
        · skip
          refine (codewrightref38_Different.w k S XF Xal H3.out).mono ?_
          rintro e w8 ⟨rfl, S2, hK⟩
          clear b0 b1 b2_
          replace XF := XF.step hK
          replace Xkn := Xkn.step hK
          replace Xlo := Xlo.step hK
          replace Xp := Xp.step hK
          replace Xq := Xq.step hK
          replace Xal := Xal.step hK
          replace Xam := Xam.step hK
          clear hK S
          have S := S2
          clear S2
          clear Xlo
          go_wp2
          have LE : Aside0 ((0 : Int) ≤ 0 ∧ (0 : Int).toNat + lkn.length = lkn.length ∧ ∀ j, j < (0 : Int).toNat → inq ((p : Int) ^ m) (lkn.getD j 0) ≠ 0) := ⟨Int.le_refl 0, Nat.zero_add _, fun j hj => absurd hj (Nat.not_lt_zero _)⟩
          have YF := Aside0.mk XF
          have Ykn := Aside0.mk Xkn
          have Yp := Aside0.mk Xp
          have Yal := Aside0.mk Xal
          have Yam := Aside0.mk Xam
          have T := Aside0.mk S
          clear XF Xkn Xp Xal Xam S
          go_loopg [97] lkn.length (fun kq v97 W => ∃ (i : Int), v97 = .int .i64 i ∧ Aside0 (0 ≤ i ∧ i.toNat + kq = lkn.length ∧ ∀ j, j < i.toNat → inq ((p : Int) ^ m) (lkn.getD j 0) ≠ 0) ∧ Aside0 (Row W g A c md) ∧ Aside0 (Row W g Akn ckn lkn) ∧ Aside0 (Row W g Ap cp lp) ∧ Aside0 (Row W g Aal cal al) ∧ Aside0 (Row W g Aam cam am) ∧ Aside0 (St W0 W g p m md ((p : Int) ^ m) ex lg))
          case atStart => exact ⟨0, rfl, LE, YF, Ykn, Yp, Yal, Yam, T⟩
          case round =>
            clear LE YF Ykn Yp Yal Yam T
            obtain ⟨i, rfl, HE, YF, Ykn, Yp, Yal, Yam, T⟩ := hrel
            have XF := YF.out
            have Xkn := Ykn.out
            have Xp := Yp.out
            have Xal := Yal.out
            have Xam := Yam.out
            have S := T.out
            clear YF Ykn Yp Yal Yam T
            by_cases hct : i < (lkn.length : Int)
            · have ctb : decide (i < (lkn.length : Int)) = true := decide_eq_true hct
              obtain ⟨a, ha⟩ : ∃ a, rd lkn i = a := ⟨_, rfl⟩
              have HI := Aside0.mk (show 0 ≤ i ∧ i < lkn.length ∧ rd lkn i = a from ⟨HE.out.1, hct, ha⟩)
              have HII := Aside0.mk (show 0 ≤ i ∧ i < lkn.length ∧ i.toNat + gk = lkn.length ∧ ∀ j, j < i.toNat → inq ((p : Int) ^ m) (lkn.getD j 0) ≠ 0 from ⟨HE.out.1, hct, HE.out.2⟩)
              obtain ⟨ad, rfl, hz⟩ := Xkn.at i HI.out.1 HI.out.2.1
              have cc := Xkn.cell HI
              have p1 := eq_true HI.out.1
              have p2 := eq_true HI.out.2.1
              have E1 := Aside0.mk (H2.out a)
              obtain ⟨x, hx⟩ : ∃ x, x = inq ((p : Int) ^ m) a := ⟨_, rfl⟩
              rw [← hx] at E1
              have HX := Aside0.mk hx
              clear hz ha HE hct hx
              by_cases hxz : x = 0
              · have q1 : (x == 0) = true := beq_iff_eq.mpr hxz
                have q2 : x = 0 := hxz
                have b0 := (S.box BK0.out 0).trans rfl
                have b1 := (S.box BK0.out 1).trans rfl
                have b2 := (S.box BK0.out 2).trans rfl
                go_wp2_with fail
                refine (codewrightref04_In.w k S XF E1.out).mono ?_
                rintro e w9 ⟨rfl, S2, hK⟩
                clear b0 b1 b2
                replace XF := (XF).step hK
                replace Xkn := (Xkn).step hK
                replace Xp := (Xp).step hK
                replace Xal := (Xal).step hK
                replace Xam := (Xam).step hK
                clear hK S
                have S := S2
                clear S2
                clear cc
                go_wp2
                go_ret
                exact ⟨rfl, below_step C1.out S.B⟩
              · have q1 : (x == 0) = false := beq_false_of_ne hxz
                have q2 : ¬ x = 0 := hxz
                have b0 := (S.box BK0.out 0).trans rfl
                have b1 := (S.box BK0.out 1).trans rfl
                have b2 := (S.box BK0.out 2).trans rfl
                go_wp2_with fail
                refine (codewrightref04_In.w k S XF E1.out).mono ?_
                rintro e w9 ⟨rfl, S2, hK⟩
                clear b0 b1 b2
                replace XF := (XF).step hK
                replace Xkn := (Xkn).step hK
                replace Xp := (Xp).step hK
                replace Xal := (Xal).step hK
                replace Xam := (Xam).step hK
                clear hK S
                have S := S2
                clear S2
                clear cc
                go_wp2
                go_roundg (gk - 1)
                case measure =>
                  have := HII.out
                  omega
                case rel =>
                  have h2 := HII.out
                  have h9 := HLK.out
                  refine ⟨i + 1, (by first | rfl | rw [w64 (n := i + 1) (by omega)]), ⟨by omega, by omega, fun j hj => ?_⟩, ⟨XF⟩, ⟨Xkn⟩, ⟨Xp⟩, ⟨Xal⟩, ⟨Xam⟩, ⟨S⟩⟩
                  by_cases e : j = i.toNat
                  · subst e
                    have h3 := HI.out.2.2
                    rw [show lkn.getD i.toNat 0 = a from h3, ← HX.out]
                    exact hxz
                  · exact h2.2.2.2 j (by omega)
            · have ctb : decide (i < (lkn.length : Int)) = false := decide_eq_false hct
              have b1 := B1.out
              have eal : lkn ++ lp = al := by rw [EAL.out, List.nil_append]
              have eam : llo ++ lq = am := by rw [EAM.out, List.nil_append]
              obtain ⟨k2, er, s0, s, L, V, wh, g1, g2, g3, g4, g5, g6, g7, g8, g9, g10, g11⟩ := kera2 HGO.out lkn llo lp lq ar HKL.out b1.1 b1.2.1 b1.2.2 (H4.out (by trivial)) (by rw [eal]; exact H5.out (by trivial)) (fun j hj => HE.out.2.2 j (by have := HE.out; omega))
              rw [eal] at g2 g8 g10 g11
              rw [eam] at g2 g8 g10
              have G1 := Aside0.mk g1
              have G2 := Aside0.mk g2
              have G3 := Aside0.mk g3
              have G4 := Aside0.mk g4
              have G5 := Aside0.mk g5
              have G6 := Aside0.mk g6
              have G7 := Aside0.mk g7
              have G8 := Aside0.mk g8
              have G9 := Aside0.mk g9
              have G10 := Aside0.mk g10
              have G11 := Aside0.mk g11
              clear hct HE b1 eal eam HGO g1 g2 g3 g4 g5 g6 g7 g8 g9 g10 g11
              have b0 := (S.box BK0.out 0).trans rfl
              have b1 := (S.box BK0.out 1).trans rfl
              have b2 := (S.box BK0.out 2).trans rfl
              go_wp2_with fail
              refine (codewrightref38_Locator.w k2 S XF Xkn G1.out).mono ?_
              rintro e w10 ⟨Aer, cer, rfl, Xer, S2, hK⟩
              clear b0 b1 b2
              replace XF := (XF).step hK
              replace Xkn := (Xkn).step hK
              replace Xp := (Xp).step hK
              replace Xal := (Xal).step hK
              replace Xam := (Xam).step hK
              clear hK S
              have S := S2
              clear S2
              have hk2 : ∃ x, x = k := ⟨_, rfl⟩
              clear hk2
              go_wp2_with fail
              have b0 := S.keep BK0.out
              replace XF := XF.step (Stp.drew _ _)
              replace Xkn := Xkn.step (Stp.drew _ _)
              replace Xp := Xp.step (Stp.drew _ _)
              replace Xal := Xal.step (Stp.drew _ _)
              replace Xam := Xam.step (Stp.drew _ _)
              replace Xer := Xer.step (Stp.drew _ _)
              replace S := S.drew
              go_region_held3 (fun W => W.cell? ⟨w.heap.size, 0, none⟩ = some (.int .i64 p) ∧ W.cell? ⟨w.heap.size, 1, none⟩ = some (.int .i64 m) ∧ W.cell? ⟨w.heap.size, 2, none⟩ = some (.slice A md.length c))
                (first | exact b0 | exact S.keep BK0.out)
                (first
                  | ((with_reducible refine (codewrightref38_Syndrome.w k2 S XF Xal Xam G2.out).mono ?_); rintro e w11 ⟨As0, cs0, rfl, Xs0, S2, hK⟩; replace XF := XF.step hK; replace Xkn := Xkn.step hK; replace Xp := Xp.step hK; replace Xal := Xal.step hK; replace Xam := Xam.step hK; replace Xer := Xer.step hK; clear hK S; have S := S2; clear S2)
                  | ((with_reducible refine (codewrightref05_Mul.w k2 S XF Xs0 Xer G3.out).mono ?_); rintro e w12 ⟨As, cs, rfl, Xs, S2, hK⟩; replace XF := XF.step hK; replace Xkn := Xkn.step hK; replace Xp := Xp.step hK; replace Xal := Xal.step hK; replace Xam := Xam.step hK; replace Xer := Xer.step hK; replace Xs0 := Xs0.step hK; clear hK S; have S := S2; clear S2))
              go_wp2_with fail
              refine (keyequation_Solve.w k2 S Xs G4.out).mono ?_
              rintro e w13 ⟨AL, cL, AV, cV, rfl, XL, XV, S2, hK⟩
              replace XF := (XF).step hK
              replace Xkn := (Xkn).step hK
              replace Xp := (Xp).step hK
              replace Xal := (Xal).step hK
              replace Xam := (Xam).step hK
              replace Xer := (Xer).step hK
              replace Xs0 := (Xs0).step hK
              replace Xs := (Xs).step hK
              clear hK S
              have S := S2
              clear S2
              clear Xs
              clear Xs0
              have b0 := (S.box BK0.out 0).trans rfl
              have b1 := (S.box BK0.out 1).trans rfl
              have b2 := (S.box BK0.out 2).trans rfl
              go_wp2_with fail
              refine (codewrightref38_Locator.w k2 S XF Xp G5.out).mono ?_
              rintro e w14 ⟨AM, cM, rfl, XM, S2, hK⟩
              clear b0 b1 b2
              replace XF := (XF).step hK
              replace Xkn := (Xkn).step hK
              replace Xp := (Xp).step hK
              replace Xal := (Xal).step hK
              replace Xam := (Xam).step hK
              replace Xer := (Xer).step hK
              replace XL := (XL).step hK
              replace XV := (XV).step hK
              clear hK S
              have S := S2
              clear S2
              go_wp2_with fail
              refine (codewrightlaw38_same.w k2 S XL XM G6.out).mono ?_
              rintro e w15 ⟨rfl, S2, hK⟩
              replace XF := (XF).step hK
              replace Xkn := (Xkn).step hK
              replace Xp := (Xp).step hK
              replace Xal := (Xal).step hK
              replace Xam := (Xam).step hK
              replace Xer := (Xer).step hK
              replace XL := (XL).step hK
              replace XV := (XV).step hK
              replace XM := (XM).step hK
              clear hK S
              have S := S2
              clear S2
              clear XM
              have b0 := (S.box BK0.out 0).trans rfl
              have b1 := (S.box BK0.out 1).trans rfl
              have b2 := (S.box BK0.out 2).trans rfl
              go_wp2_with fail
              refine (codewrightref05_Mul.w k2 S XF XL Xer G7.out).mono ?_
              rintro e w16 ⟨Awh, cwh, rfl, Xwh, S2, hK⟩
              clear b0 b1 b2
              replace XF := (XF).step hK
              replace Xkn := (Xkn).step hK
              replace Xp := (Xp).step hK
              replace Xal := (Xal).step hK
              replace Xam := (Xam).step hK
              replace Xer := (Xer).step hK
              replace XL := (XL).step hK
              replace XV := (XV).step hK
              clear hK S
              have S := S2
              clear S2
              clear XL
              clear Xer
              clear Xp
              clear Xkn
              go_wp2
              have LE : Aside0 ((0 : Int) ≤ 0 ∧ (0 : Int).toNat + al.length = al.length) := ⟨Int.le_refl 0, Nat.zero_add _⟩
              have YF := Aside0.mk XF
              have Yal := Aside0.mk Xal
              have Yam := Aside0.mk Xam
              have YV := Aside0.mk XV
              have Ywh := Aside0.mk Xwh
              have T := Aside0.mk S
              clear XF Xal Xam XV Xwh S
              go_loopg [143] al.length (fun kq v143 W => ∃ (i : Int), v143 = .int .i64 i ∧ Aside0 (0 ≤ i ∧ i.toNat + kq = al.length) ∧ Aside0 (Row W g A c md) ∧ Aside0 (Row W g Aal cal al) ∧ Aside0 (Row W g Aam cam am) ∧ Aside0 (Row W g AV cV V) ∧ Aside0 (Row W g Awh cwh wh) ∧ Aside0 (St W0 W g p m md ((p : Int) ^ m) ex lg))
              case atStart => exact ⟨0, rfl, LE, YF, Yal, Yam, YV, Ywh, T⟩
              case round =>
                clear LE YF Yal Yam YV Ywh T
                obtain ⟨i, rfl, HE, YF, Yal, Yam, YV, Ywh, T⟩ := hrel
                have XF := YF.out
                have Xal := Yal.out
                have Xam := Yam.out
                have XV := YV.out
                have Xwh := Ywh.out
                have S := T.out
                clear YF Yal Yam YV Ywh T
                by_cases hct : i < (al.length : Int)
                · have ctb : decide (i < (al.length : Int)) = true := decide_eq_true hct
                  obtain ⟨a, ha⟩ : ∃ a, rd al i = a := ⟨_, rfl⟩
                  obtain ⟨y, hy⟩ : ∃ y, rd am i = y := ⟨_, rfl⟩
                  have HI := Aside0.mk (show 0 ≤ i ∧ i < al.length ∧ rd al i = a from ⟨HE.out.1, hct, ha⟩)
                  have HQ := Aside0.mk (show 0 ≤ i ∧ i < am.length ∧ rd am i = y from ⟨HE.out.1, by have := G10.out; omega, hy⟩)
                  have HII := Aside0.mk (show 0 ≤ i ∧ i < al.length ∧ i.toNat + gk = al.length from ⟨HE.out.1, hct, HE.out.2⟩)
                  obtain ⟨x, hx⟩ : ∃ x, x = inq ((p : Int) ^ m) y := ⟨_, rfl⟩
                  have E1 : Aside0 (keyequation_Forney.f k2 p m md ((p : Int) ^ m) ex lg wh V a = some (x, 0, (p : Int), (m : Int), (p : Int) ^ m)) := ⟨by
                    have := G8.out i.toNat (by have := HE.out; omega)
                    rw [hx, ← ha, ← hy]
                    exact this⟩
                  have E2 := Aside0.mk (G9.out y)
                  rw [← hx] at E2
                  obtain ⟨ap, rfl, hz⟩ := Xal.at i HI.out.1 HI.out.2.1
                  obtain ⟨aq, rfl, hz2⟩ := Xam.at i HQ.out.1 HQ.out.2.1
                  have cc := Xal.cell HI
                  have p1 := eq_true HI.out.1
                  have p2 := eq_true HI.out.2.1
                  have p3 := eq_true HQ.out.2.1
                  clear hz hz2 ha hy HE hct hx
                  go_wp2_with fail
                  refine (keyequation_Forney.w k2 S Xwh XV E1.out).mono ?_
                  rintro e w30 ⟨rfl, S2, hK⟩
                  replace XF := XF.step hK
                  replace Xal := Xal.step hK
                  replace Xam := Xam.step hK
                  replace XV := XV.step hK
                  replace Xwh := Xwh.step hK
                  clear hK S cc
                  have S := S2
                  clear S2
                  go_wp2_with fail
                  have b0 := S.keep BK0.out
                  have bx := Xam.cell HQ
                  replace XF := XF.step (Stp.drew _ _)
                  replace Xal := Xal.step (Stp.drew _ _)
                  replace Xam := Xam.step (Stp.drew _ _)
                  replace XV := XV.step (Stp.drew _ _)
                  replace Xwh := Xwh.step (Stp.drew _ _)
                  replace S := S.drew
                  go_region_held3 (fun W => W.cell? ⟨w.heap.size, 0, none⟩ = some (.int .i64 p) ∧ W.cell? ⟨w.heap.size, 1, none⟩ = some (.int .i64 m) ∧ W.cell? ⟨w.heap.size, 2, none⟩ = some (.slice A md.length c) ∧ W.cell? (aq.add i.toNat) = some (.int .i64 y))
                    (first | exact ⟨b0.1, b0.2.1, b0.2.2, bx⟩ | exact ⟨(S.keep BK0.out).1, (S.keep BK0.out).2.1, (S.keep BK0.out).2.2, Xam.cell HQ⟩)
                    (first
                      | ((with_reducible refine (codewrightref04_In.w k2 S XF E2.out).mono ?_); rintro e w31 ⟨rfl, S2, hK⟩; replace XF := XF.step hK; replace Xal := Xal.step hK; replace Xam := Xam.step hK; replace XV := XV.step hK; replace Xwh := Xwh.step hK; clear hK S; have S := S2; clear S2))
                  go_wp2
                  go_roundg (gk - 1)
                  case measure =>
                    have := HII.out
                    omega
                  case rel =>
                    have h2 := HII.out
                    have h9 := G11.out
                    exact ⟨i + 1, (by first | rfl | rw [w64 (n := i + 1) (by omega)]), ⟨by omega, by omega⟩, ⟨XF⟩, ⟨Xal⟩, ⟨Xam⟩, ⟨XV⟩, ⟨Xwh⟩, ⟨S⟩⟩
                · have ctb : decide (i < (al.length : Int)) = false := decide_eq_false hct
                  clear hct HE
                  go_wp2
                  go_ret
                  exact ⟨rfl, below_step C1.out S.B⟩
end Go.Proofs.Ytkdakjlopheefaa.PA
end
section
namespace Go.Proofs.Ytkdakjlopheefaa.PA
open Go.Joins Go.ChangeShapes Go.WideShapes Go.ChangeAt Go.RowKit Go.Proofs.YtkdakjlopheefaaW.PrintWords Go.Proofs.YtkdakjlopheefaaW.PrintLast Go.Proofs.YtkdakjlopheefaaW.PrintMore
set_option linter.unusedVariables false
set_option maxRecDepth 100000
theorem own : ownKnob Try.prog.godebug = none := by kernel_rfl
theorem laidOut : laidOutB Try.prog = true := by kernel_rfl
theorem reads_trod {H : Type} {enc : TypeId × Value → H} {P : Program} {w : World} {t e fuel : Nat} {v : Value} {x : DataW H × List MemPlace} (ht : P.underlying t = some (.slice e)) (he : P.underlying e = some (.int .i64)) (hc : P.cellsOf e = 1)
    (h : DataW.trod enc P w 0 (fun _ => true) true fuel t [v] = some x) : ∃ a l c, v = .slice a l.length c ∧ l.length ≤ c ∧ Kd.C (Kd.int .i64) w a l.length l := by
  rcases open_ints ht he hc h with ⟨hcs, _⟩ | ⟨a, len, cap, zs, hcs, _, hl, hm, hz, _, hcell, hwz⟩
  · injection hcs with hcs _
    subst hcs
    exact ⟨none, [], 0, rfl, Nat.le_refl _, Kd.C_nil _ _⟩
  · injection hcs with hcs _
    subst hcs
    have hz' : zs.length = cap := by simpa using hz
    obtain ⟨l, hl', hr, _, _, hcc⟩ := ReadsInt.ofRowC (k := .i64) (w := w) (a := some a) (len := len) (cap := cap) (zs := zs) (.inr ⟨a, rfl, hl, hm, hz', hcell, hwz⟩)
    subst hl'
    exact ⟨some a, l, cap, rfl, hcc, Kd.C_of_reads (d := (0 : Int)) (h1 := fun _ => rfl) hr⟩
theorem reads_field {H : Type} {enc : TypeId × Value → H} {w : World} {v : Value} {d : DataW H} {p : List MemPlace} (hv : Value.okWide Try.prog w .any 0 24 v) (h : DataW.Trod enc Try.prog w 0 (fun _ => true) true 24 v d p) :
    ∃ P M a l c, v = .agg #[.int .i64 P, .int .i64 M, .slice a l.length c] ∧ l.length ≤ c ∧ Kd.C (Kd.int .i64) w a l.length l := by
  obtain ⟨v0, v1, v2, y0, y1, y2, n, rfl, _, _, h0, h1, h2⟩ := open_agg3 Try.underlying24 (by kernel_rfl) (by kernel_rfl) hv h
  obtain ⟨n0, e0, _⟩ := DataW.trod_int Try.underlying3 h0
  obtain ⟨n1, e1, _⟩ := DataW.trod_int Try.underlying3 h1
  obtain ⟨a, l, c, rfl, hc, hC⟩ := reads_trod Try.underlying22 Try.underlying3 (by kernel_rfl) h2
  injection e0 with e0
  injection e1 with e1
  subst e0
  subst e1
  exact ⟨_, _, a, l, c, rfl, hc, hC⟩
theorem open_arrs {H : Type} {enc : TypeId × Value → H} {P : Program} {w : World} {t e n : Nat} {v : Value} {d : DataW H} {p : List MemPlace} (ht : P.underlying t = some (.array n e)) (hc : P.cellsOf e = 1) (hn : P.cellsOf t = n)
    (hv : Value.okWide P w .any 0 t v) (h : DataW.Trod enc P w 0 (fun _ => true) true t v d p) : ∃ (cs : Array Value) (m : Nat), v = .agg cs ∧ cs.size = n ∧ ∀ (i : Nat) (x : Value), cs[i]? = some x → ∃ y, DataW.trod enc P w 0 (fun _ => true) true m e [x] = some y := by
  simp only [Value.okWide, ht] at hv
  obtain ⟨cs, rfl, hs, _⟩ := hv
  obtain ⟨fuel, hf⟩ := h
  obtain ⟨xs, m, _, _, hl, hx, hi⟩ := DataW.trod_array ht hf
  refine ⟨cs, m, rfl, hs.trans hn, fun i x hix => ?_⟩
  have hin : i < n := by
    have := (Array.getElem?_eq_some_iff.1 hix).1
    omega
  have h1 := hi i hin
  rw [hc, Nat.mul_one] at h1
  have h2 : (List.drop i cs.toList).take 1 = [x] := by
    have h3 : i < cs.toList.length := by rw [Array.length_toList]; omega
    have h4 : cs.toList[i] = x := by
      have := (Array.getElem?_eq_some_iff.1 hix).2
      simpa using this
    rw [List.drop_eq_getElem_cons h3, h4]; rfl
  have h5 : Value.cells (.agg cs) = cs := rfl
  rw [h5, h2] at h1
  rw [h1]
  exact ⟨_, List.getElem?_eq_getElem (by omega)⟩
theorem reads_arr4 {H : Type} {enc : TypeId × Value → H} {P : Program} {w : World} {t e i : Nat} {v : Value} {d : DataW H} {p : List MemPlace} (ht : P.underlying t = some (.array 4 e)) (hc : P.cellsOf e = 1) (hn : P.cellsOf t = 4) (he : P.underlying e = some (.slice i)) (hi : P.underlying i = some (.int .i64)) (hci : P.cellsOf i = 1)
    (hv : Value.okWide P w .any 0 t v) (h : DataW.Trod enc P w 0 (fun _ => true) true t v d p) : ∃ a l c a' l' c' a2 l2 c2 a3 l3 c3, v = .agg #[.slice a l.length c, .slice a' l'.length c', .slice a2 l2.length c2, .slice a3 l3.length c3] ∧ (l.length ≤ c ∧ Kd.C (Kd.int .i64) w a l.length l) ∧ (l'.length ≤ c' ∧ Kd.C (Kd.int .i64) w a' l'.length l') ∧ (l2.length ≤ c2 ∧ Kd.C (Kd.int .i64) w a2 l2.length l2) ∧ (l3.length ≤ c3 ∧ Kd.C (Kd.int .i64) w a3 l3.length l3) := by
  obtain ⟨cs, m, rfl, hs, hr⟩ := open_arrs ht hc hn hv h
  obtain ⟨x, y, z, u, rfl⟩ := array4 hs
  obtain ⟨_, h0⟩ := hr 0 x rfl
  obtain ⟨_, h1⟩ := hr 1 y rfl
  obtain ⟨_, h2⟩ := hr 2 z rfl
  obtain ⟨_, h3⟩ := hr 3 u rfl
  obtain ⟨a, l, c, rfl, b0, b1⟩ := reads_trod he hi hci h0
  obtain ⟨a', l', c', rfl, b2, b3⟩ := reads_trod he hi hci h1
  obtain ⟨a2, l2, c2, rfl, b4, b5⟩ := reads_trod he hi hci h2
  obtain ⟨a3, l3, c3, rfl, b6, b7⟩ := reads_trod he hi hci h3
  exact ⟨a, l, c, a', l', c', a2, l2, c2, a3, l3, c3, rfl, ⟨b0, b1⟩, ⟨b2, b3⟩, ⟨b4, b5⟩, b6, b7⟩
end Go.Proofs.Ytkdakjlopheefaa.PA
end
section
namespace Go.Proofs.Ytkdakjlopheefaa.keyequationErasures
open Go.Joins Go.ChangeShapes Go.WideShapes Go.ChangeAt Go.RowKit Go.Proofs.YtkdakjlopheefaaW.PrintWords Go.Proofs.YtkdakjlopheefaaW.PrintLast Go.Proofs.YtkdakjlopheefaaW.PrintMore Go.Proofs.Ytkdakjlopheefaa.PA
set_option linter.unusedVariables false
set_option maxRecDepth 100000 in
theorem lifted (os : Os) (started : os.Started) (H : Type) (enc : TypeId × Value → H) :
    ReturnsInHanded {} Try.checked os 9 .any (Rows.keyequationErasuresSpec.pre6 enc Try.prog Try.f9 Rows.keyequationErasuresRow.domain false) (Rows.keyequationErasuresSpec.post enc Try.prog Try.f9 false true false false) := by
  refine returnsInHanded_of_change_sized (C := Try.checked) own started (by kernel_rfl) Try.func9
    (ChangeSpec.witness6 (enc := enc) (C := Try.checked) false ⟨#[], #[.agg #[.int .i64 0, .int .i64 0, .slice none 0 0], .agg #[.slice none 0 0, .slice none 0 0, .slice none 0 0, .slice none 0 0], .int .i64 0], []⟩ 8 (by kernel_rfl) (by kernel_rfl) (by kernel_rfl) (by kernel_rfl)) ?_
  intro W base args ds gs before hval0 hW hcnd hsz0 _
  have hval : ∀ (j : Nat) t v, Try.f9.params[j]? = some t → args[j]? = some v → Value.okWide Try.prog W .any base t v := hval0
  have hW' := hW
  obtain ⟨p, q, hA0, hV, rfl, hfz, hnd⟩ := hW
  have hA : DataW.TrodAll enc Try.prog W 0 (fun _ => true) true Try.f9.params.toList args.toList ds p := hA0
  rw [Try.params9] at hA hval
  obtain ⟨v0, vs0, d0, ds0, p0, q0, hargs, rfl, rfl, h0, r0⟩ := trodAll_cons hA
  obtain ⟨v1, vs1, d1, ds1, p1, q1, rfl, rfl, rfl, h1, r1⟩ := trodAll_cons r0
  obtain ⟨v2, vs2, d2, ds2, p2, q2, rfl, rfl, rfl, h2, r2⟩ := trodAll_cons r1
  obtain ⟨rfl, rfl, rfl⟩ := trodAll_nil r2
  obtain rfl : args = #[v0, v1, v2] := by cases args; simp_all
  obtain ⟨rfl, rfl⟩ := trodVars_none hV
  have k0 := h0
  have lt0 : ∀ x ∈ p0, x.block < W.heap.size := by obtain ⟨m, hm⟩ := k0; exact DataW.trod_lt m _ _ _ hm
  obtain ⟨P0, M0, A0, l0, c0, rfl, hc0, hC0⟩ := reads_field (hval 0 24 v0 rfl rfl) h0
  have k1 := h1
  have lt1 : ∀ x ∈ p1, x.block < W.heap.size := by obtain ⟨m, hm⟩ := k1; exact DataW.trod_lt m _ _ _ hm
  obtain ⟨A1_0, l1_0, c1_0, A1_1, l1_1, c1_1, A1_2, l1_2, c1_2, A1_3, l1_3, c1_3, rfl, ⟨hc1_0, hC1_0⟩, ⟨hc1_1, hC1_1⟩, ⟨hc1_2, hC1_2⟩, ⟨hc1_3, hC1_3⟩⟩ := reads_arr4 Try.underlying56 (by kernel_rfl) (by kernel_rfl) Try.underlying22 Try.underlying3 (by kernel_rfl) (hval 1 56 v1 rfl rfl) h1
  obtain ⟨a2, rfl, rfl, rfl, w2⟩ := open_int Try.underlying3 (hval 2 3 v2 rfl rfl) h2
  clear hA0 hval0 hsz0
  refine (KeyequationErasures_calls P0 M0 A0 c0 l0 A1_0 c1_0 l1_0 A1_1 c1_1 l1_1 A1_2 c1_2 l1_2 A1_3 c1_3 l1_3 a2 W hC0 hc0 hC1_0 hc1_0 hC1_1 hc1_1 hC1_2 hc1_2 hC1_3 hc1_3 w2).mono fun e W' ⟨he, bel⟩ => ?_
  subst he
  exact ⟨_, rfl, _, _, _, [], _, [], hW', trodAll_mk1 (shut_bool Try.underlying4 _), (trodAll_cons_mk (Below.trod laidOut (by kernel_rfl) (of_decide_eq_true (by kernel_rfl)) k0 bel lt0) (trodAll_cons_mk (Below.trod laidOut (by kernel_rfl) (of_decide_eq_true (by kernel_rfl)) k1 bel lt1) (trodAll_cons_mk (shut_int Try.underlying3 w2) trodAll_mk0))), rfl, bel.frame _, fun h => by cases h⟩
theorem over : Rows.keyequationErasuresRow.holds Try.pinned (OpenSpec.ofChange Rows.keyequationErasuresSpec) :=
  OpenClaim.holds_of_wide 9 Try.f9 rfl rfl rfl rfl rfl rfl rfl ⟨rfl, rfl, rfl, rfl, rfl⟩ rfl rfl rfl rfl rfl (by kernel_rfl) Try.func9 (by kernel_rfl)
    (of_decide_eq_true (by kernel_rfl)) (by unfold Func.isWrapper; first | (rw [if_pos (by decide +kernel)]; kernel_rfl) | (rw [if_neg (by decide +kernel)]; exact ⟨rfl, rfl⟩))
    (fun os started H enc _ => lifted os started H enc)
end Go.Proofs.Ytkdakjlopheefaa.keyequationErasures
namespace Go.Proofs.Ytkdakjlopheefaa
theorem keyequationErasures_holds : Rows.KeyequationErasuresSaid := keyequationErasures.over
end Go.Proofs.Ytkdakjlopheefaa
end
