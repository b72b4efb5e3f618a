/- Proved: for every input the law KeyequationRecovers returns true and leaves its arguments as they were; no conditions. Part 7 of 7 of the proof. -/
import Derived.Test.YtkdakjlopheefaaZKeyequationRecovers5
import Derived.Test.YtkdakjlopheefaaRows
import Derived.WalkKit
import Derived.ProofKit
import Derived.OpenShut
import Derived.ShutString
import Derived.ChangeOld
import Derived.Below
import Derived.SizedLaws
import Derived.Lib.SmallJoins
import Derived.Deep.Matrix
set_option linter.unusedSectionVars false
set_option linter.unusedSimpArgs false
set_option linter.unusedVariables false
section
namespace Go.Proofs.Ytkdakjlopheefaa.PA
open Alg Go.RowKit Go.Proofs.YtkdakjlopheefaaW.PrintWords Go.Proofs.YtkdakjlopheefaaW.PrintLast Go.Proofs.YtkdakjlopheefaaW.PrintMore
set_option linter.unusedVariables false
set_option maxHeartbeats 4000000 in
set_option maxRecDepth 100000 in
theorem KeyequationRecovers_calls (P M : Int) (A : Option Addr) (c : Nat) (md : List Int) (Ap : Option Addr) (cp : Nat) (lp : List Int) (Aq : Option Addr) (cq : Nat) (lq : List Int) (Au : Option Addr) (cu : Nat) (lu : List Int) (aj : Int) (w : World) (hr : Kd.C (Kd.int .i64) w A md.length md) (hc : md.length ≤ c) (hrp : Kd.C (Kd.int .i64) w Ap lp.length lp) (hcp : lp.length ≤ cp) (hrq : Kd.C (Kd.int .i64) w Aq lq.length lq) (hcq : lq.length ≤ cq) (hru : Kd.C (Kd.int .i64) w Au lu.length lu) (hcu : lu.length ≤ cu) (hij : (Lit.int .i64 aj).wf = true) :
    Calls Try.prog 4 #[.agg #[.int .i64 P, .int .i64 M, .slice A md.length c], .agg #[.slice Ap lp.length cp, .slice Aq lq.length cq, .slice Au lu.length cu], .int .i64 aj] w fun e w' => e = .returned (.bool true) ∧ Below w.heap.size w w' := by
  have HR := Aside0.mk hr
  have HC := Aside0.mk hc
  have HRp := Aside0.mk hrp
  have HCp := Aside0.mk hcp
  have HRq := Aside0.mk hrq
  have HCq := Aside0.mk hcq
  have HRu := Aside0.mk hru
  have HCu := Aside0.mk hcu
  have HIj := Aside0.mk hij
  clear hr hc  hrp hcp hrq hcq hru hcu hij
  go_enter Try.func4, Try.ntmps4
  go_wp2_with fail
  refine (alive_calls _).mono ?_
  rintro e w2 ⟨rfl, hb⟩
  have HB := Aside0.mk (below_step (below_alloc (below_alloc (Below.refl _ w) _) _) hb)
  have BK := Aside0.mk (blk_below (blk_alloc (blk_new w _) _) hb)
  have BV1 := Aside0.mk (blk_below (blk_new1 w _ _) hb)
  clear hb
  have b0 := (blk_cell BK.out 0).trans rfl
  have b1 := (blk_cell BK.out 1).trans rfl
  have b2 := (blk_cell BK.out 2).trans rfl
  go_wp2_with fail
  refine (made_calls P M A c md _ (Kd.C_below HR.out HB.out) HC.out).mono ?_
  rintro e w3 ⟨v, rfl, h⟩
  rcases h with ⟨rfl, hb⟩ | ⟨g, rfl, W0, hb, hb2, p, m, ex, lg, rfl, rfl, ⟨ht, hG⟩, hI⟩
  · have HB2 := Aside0.mk (below_step HB.out hb)
    have v10 := (blk_cell (blk_below BV1.out hb) 0).trans rfl
    have v11 := (blk_cell (blk_below BV1.out hb) 1).trans rfl
    have v12 := (blk_cell (blk_below BV1.out hb) 2).trans rfl
    clear hb
    go_wp2
    go_quiet (fail)
    go_wp2
    go_ret
    exact ⟨rfl, pw_below_drewN HB2.out nq⟩
  · have C1 := Aside0.mk (below_step HB.out hb)
    have BK0 := Aside0.mk (blk_below BK.out hb)
    have S : St W0 w3 g p m md _ ex lg := ⟨hI, hb2⟩
    have HGO := Aside0.mk hG
    have XF := S.arg (Kd.C_below HR.out C1.out) HC.out
    have Xp := S.arg (Kd.C_below HRp.out C1.out) HCp.out
    have Xq := S.arg (Kd.C_below HRq.out C1.out) HCq.out
    have Xu := S.arg (Kd.C_below HRu.out C1.out) HCu.out
    have v10 := (blk_cell (blk_below (blk_below BV1.out hb) hb2) 0).trans rfl
    have v11 := (blk_cell (blk_below (blk_below BV1.out hb) hb2) 1).trans rfl
    have v12 := (blk_cell (blk_below (blk_below BV1.out hb) hb2) 2).trans rfl
    clear hb hb2 hI hG b0 b1 b2 HB BK BV1 HR HC HRp HCp HRq HCq HRu HCu
    go_wp2
    go_quiet (fail)
    replace XF := XF.step (Stp.drewN w3 nq g)
    replace Xp := Xp.step (Stp.drewN w3 nq g)
    replace Xq := Xq.step (Stp.drewN w3 nq g)
    replace Xu := Xu.step (Stp.drewN w3 nq g)
    replace S := S.drewN nq
    clear v10 v11 v12
    generalize w3.drewN nq = w3b at *
    by_cases cs : ∀ l, l ∈ [lp, lq, lu] → l.length ≤ 20
    rotate_left
    · have cb := Aside0.mk (decide_eq_false cs)
      go_wp2_with fail
      refine (short_w S [(Ap, cp, lp), (Aq, cq, lq), (Au, cu, lu)] _ (by simp) (fun x hx => by rcases List.mem_cons.1 hx with rfl | hx; exact Xp; rcases List.mem_cons.1 hx with rfl | hx; exact Xq; rcases List.mem_cons.1 hx with rfl | hx; exact Xu; exact absurd hx List.not_mem_nil) false cb.out).mono ?_
      rintro e w4 ⟨rfl, S2, hK⟩
      replace XF := XF.step hK
      replace Xp := Xp.step hK
      replace Xq := Xq.step hK
      replace Xu := Xu.step hK
      clear hK S cb
      have S := S2
      clear S2
      go_wp2
      go_ret
      exact ⟨rfl, below_step C1.out S.B⟩
    · have cb := Aside0.mk (decide_eq_true cs)
      go_wp2_with fail
      refine (short_w S [(Ap, cp, lp), (Aq, cq, lq), (Au, cu, lu)] _ (by simp) (fun x hx => by rcases List.mem_cons.1 hx with rfl | hx; exact Xp; rcases List.mem_cons.1 hx with rfl | hx; exact Xq; rcases List.mem_cons.1 hx with rfl | hx; exact Xu; exact absurd hx List.not_mem_nil) true cb.out).mono ?_
      rintro e w4 ⟨rfl, S2, hK⟩
      replace XF := XF.step hK
      replace Xp := Xp.step hK
      replace Xq := Xq.step hK
      replace Xu := Xu.step hK
      clear hK S cb
      have S := S2
      clear S2
      have hlp : lp.length ≤ 20 := cs _ (by simp)
      have hlq : lq.length ≤ 20 := cs _ (by simp)
      have hlu : lu.length ≤ 20 := cs _ (by simp)
      have HLS := Aside0.mk cs
      clear cs
      by_cases hcA : ¬ lp.length = lq.length
      · skip
        have e1 : ((lp.length : Int) == (lq.length : Int)) = false := beq_false_of_ne (by omega)
        have e2 : ((lp.length : Int) != (lq.length : Int)) = true := bne_iff_ne.mpr (by omega)
        have e3 : ¬ lp.length = lq.length := hcA
        clear hcA
        go_wp2
        go_ret
        exact ⟨rfl, below_step C1.out S.B⟩
      have hpq : lp.length = lq.length := Classical.byContradiction hcA
      clear hcA
      obtain ⟨k, b, dg, ds, h1, h2, h3, b1, b2, b3, b4, hz⟩ := krec_pure HGO.out lp lq lu aj hlp hlu hpq
      have H1 := Aside0.mk h1
      have H2 := Aside0.mk h2
      have H3 := Aside0.mk h3
      have HZ := Aside0.mk hz
      obtain ⟨n2, hn2⟩ : ∃ n : Int, n = 2 * ds := ⟨_, rfl⟩
      have f0 : IntKind.i64.wrap (2 * ds) = n2 := by rw [hn2, i64_w, w64 (by omega)]
      clear h1 h2 h3 hz HGO
      have e1 : ((lp.length : Int) == (lq.length : Int)) = true := beq_iff_eq.mpr (by omega)
      have e2 : ((lp.length : Int) != (lq.length : Int)) = false := bne_eq_false_iff_eq.mpr (by omega)
      cases b
      · skip
        clear hpq
        have b0 := (S.box BK0.out 0).trans rfl
        have b1 := (S.box BK0.out 1).trans rfl
        have b2 := (S.box BK0.out 2).trans rfl
        go_wp2_with fail
        refine (codewrightref38_Different.w k S XF Xp H1.out).mono ?_
        rintro e w5 ⟨rfl, S2, hK⟩
        clear b0 b1 b2
        replace XF := (XF).step hK
        replace Xp := (Xp).step hK
        replace Xq := (Xq).step hK
        replace Xu := (Xu).step hK
        clear hK S
        have S := S2
        clear S2
        go_wp2
        go_ret
        exact ⟨rfl, below_step C1.out S.B⟩
      · skip
        by_cases hcA : aj < 0
        · skip
          have d0 : decide (aj < 0) = true := decide_eq_true (by omega)
          clear hpq
          have b0 := (S.box BK0.out 0).trans rfl
          have b1 := (S.box BK0.out 1).trans rfl
          have b2 := (S.box BK0.out 2).trans rfl
          go_wp2_with fail
          refine (codewrightref38_Different.w k S XF Xp H1.out).mono ?_
          rintro e w5 ⟨rfl, S2, hK⟩
          clear b0 b1 b2
          replace XF := (XF).step hK
          replace Xp := (Xp).step hK
          replace Xq := (Xq).step hK
          replace Xu := (Xu).step hK
          clear hK S
          have S := S2
          clear S2
          go_wp2
          go_ret
          exact ⟨rfl, below_step C1.out S.B⟩
        by_cases hcA : (lp.length : Int) < aj
        · skip
          have d0 : decide (aj < 0) = false := decide_eq_false (by omega)
          have d1 : decide ((lp.length : Int) < aj) = true := decide_eq_true (by omega)
          clear hpq
          have b0 := (S.box BK0.out 0).trans rfl
          have b1 := (S.box BK0.out 1).trans rfl
          have b2 := (S.box BK0.out 2).trans rfl
          go_wp2_with fail
          refine (codewrightref38_Different.w k S XF Xp H1.out).mono ?_
          rintro e w5 ⟨rfl, S2, hK⟩
          clear b0 b1 b2
          replace XF := (XF).step hK
          replace Xp := (Xp).step hK
          replace Xq := (Xq).step hK
          replace Xu := (Xu).step hK
          clear hK S
          have S := S2
          clear S2
          go_wp2
          go_ret
          exact ⟨rfl, below_step C1.out S.B⟩
        by_cases hcA : aj ≤ dg
        · skip
          have d0 : decide (aj < 0) = false := decide_eq_false (by omega)
          have d1 : decide ((lp.length : Int) < aj) = false := decide_eq_false (by omega)
          have d2 : decide (aj ≤ dg) = true := decide_eq_true (by omega)
          clear hpq
          have b0 := (S.box BK0.out 0).trans rfl
          have b1 := (S.box BK0.out 1).trans rfl
          have b2 := (S.box BK0.out 2).trans rfl
          go_wp2_with fail
          refine (codewrightref38_Different.w k S XF Xp H1.out).mono ?_
          rintro e w5 ⟨rfl, S2, hK⟩
          clear b0 b1 b2
          replace XF := (XF).step hK
          replace Xp := (Xp).step hK
          replace Xq := (Xq).step hK
          replace Xu := (Xu).step hK
          clear hK S
          have S := S2
          clear S2
          have b0 := (S.box BK0.out 0).trans rfl
          have b1 := (S.box BK0.out 1).trans rfl
          have b2 := (S.box BK0.out 2).trans rfl
          go_wp2_with fail
          refine (codewrightref05_Degree.w k S XF Xu H2.out).mono ?_
          rintro e w6 ⟨rfl, S2, hK⟩
          clear b0 b1 b2
          replace XF := (XF).step hK
          replace Xp := (Xp).step hK
          replace Xq := (Xq).step hK
          replace Xu := (Xu).step hK
          clear hK S
          have S := S2
          clear S2
          go_wp2
          go_ret
          exact ⟨rfl, below_step C1.out S.B⟩
        obtain ⟨nk, hnk⟩ : ∃ n : Int, n = (lp.length : Int) - aj := ⟨_, rfl⟩
        have f1 : IntKind.i64.wrap ((lp.length : Int) - aj) = nk := by rw [hnk, i64_w, w64 (by omega)]
        by_cases hcA : nk < n2
        · skip
          have d0 : decide (aj < 0) = false := decide_eq_false (by omega)
          have d1 : decide ((lp.length : Int) < aj) = false := decide_eq_false (by omega)
          have d2 : decide (aj ≤ dg) = false := decide_eq_false (by omega)
          have d3 : decide (nk < n2) = true := decide_eq_true (by omega)
          clear hpq hn2 hnk
          have b0 := (S.box BK0.out 0).trans rfl
          have b1 := (S.box BK0.out 1).trans rfl
          have b2 := (S.box BK0.out 2).trans rfl
          go_wp2_with fail
          refine (codewrightref38_Different.w k S XF Xp H1.out).mono ?_
          rintro e w5 ⟨rfl, S2, hK⟩
          clear b0 b1 b2
          replace XF := (XF).step hK
          replace Xp := (Xp).step hK
          replace Xq := (Xq).step hK
          replace Xu := (Xu).step hK
          clear hK S
          have S := S2
          clear S2
          have b0 := (S.box BK0.out 0).trans rfl
          have b1 := (S.box BK0.out 1).trans rfl
          have b2 := (S.box BK0.out 2).trans rfl
          go_wp2_with fail
          refine (codewrightref05_Degree.w k S XF Xu H2.out).mono ?_
          rintro e w6 ⟨rfl, S2, hK⟩
          clear b0 b1 b2
          replace XF := (XF).step hK
          replace Xp := (Xp).step hK
          replace Xq := (Xq).step hK
          replace Xu := (Xu).step hK
          clear hK S
          have S := S2
          clear S2
          have b0 := (S.box BK0.out 0).trans rfl
          have b1 := (S.box BK0.out 1).trans rfl
          have b2 := (S.box BK0.out 2).trans rfl
          go_wp2_with fail
          refine (codewrightref38_Distance.w k S XF Xu Xp Xq H3.out).mono ?_
          rintro e w7 ⟨rfl, S2, hK⟩
          clear b0 b1 b2
          replace XF := (XF).step hK
          replace Xp := (Xp).step hK
          replace Xq := (Xq).step hK
          replace Xu := (Xu).step hK
          clear hK S
          have S := S2
          clear S2
          go_wp2
          go_ret
          exact ⟨rfl, below_step C1.out S.B⟩
        obtain ⟨k2, c2, h4, h5, h6⟩ := HZ.out rfl (by omega) (by omega) (by omega) (by omega)
        have H4 := Aside0.mk h4
        have H5 := Aside0.mk h5
        have H6 := Aside0.mk h6
        have d0 : decide (aj < 0) = false := decide_eq_false (by omega)
        have d1 : decide ((lp.length : Int) < aj) = false := decide_eq_false (by omega)
        have d2 : decide (aj ≤ dg) = false := decide_eq_false (by omega)
        have d3 : decide (nk < n2) = false := decide_eq_false (by omega)
        clear h4 h5 h6 hn2 hnk hpq HZ
        have b0 := (S.box BK0.out 0).trans rfl
        have b1 := (S.box BK0.out 1).trans rfl
        have b2 := (S.box BK0.out 2).trans rfl
        go_wp2_with fail
        refine (codewrightref38_Different.w k S XF Xp H1.out).mono ?_
        rintro e w5 ⟨rfl, S2, hK⟩
        clear b0 b1 b2
        replace XF := (XF).step hK
        replace Xp := (Xp).step hK
        replace Xq := (Xq).step hK
        replace Xu := (Xu).step hK
        clear hK S
        have S := S2
        clear S2
        have b0 := (S.box BK0.out 0).trans rfl
        have b1 := (S.box BK0.out 1).trans rfl
        have b2 := (S.box BK0.out 2).trans rfl
        go_wp2_with fail
        refine (codewrightref05_Degree.w k S XF Xu H2.out).mono ?_
        rintro e w6 ⟨rfl, S2, hK⟩
        clear b0 b1 b2
        replace XF := (XF).step hK
        replace Xp := (Xp).step hK
        replace Xq := (Xq).step hK
        replace Xu := (Xu).step hK
        clear hK S
        have S := S2
        clear S2
        have b0 := (S.box BK0.out 0).trans rfl
        have b1 := (S.box BK0.out 1).trans rfl
        have b2 := (S.box BK0.out 2).trans rfl
        go_wp2_with fail
        refine (codewrightref38_Distance.w k S XF Xu Xp Xq H3.out).mono ?_
        rintro e w7 ⟨rfl, S2, hK⟩
        clear b0 b1 b2
        replace XF := (XF).step hK
        replace Xp := (Xp).step hK
        replace Xq := (Xq).step hK
        replace Xu := (Xu).step hK
        clear hK S
        have S := S2
        clear S2
        go_wp2_with fail
        refine (keyequation_Gao.w k2 S Xp Xq H4.out).mono ?_
        rintro e w8 ⟨Ao, co, rfl, Xo, S2, hK⟩
        replace XF := (XF).step hK
        replace Xp := (Xp).step hK
        replace Xq := (Xq).step hK
        replace Xu := (Xu).step hK
        clear hK S
        have S := S2
        clear S2
        have b0 := (S.box BK0.out 0).trans rfl
        have b1 := (S.box BK0.out 1).trans rfl
        have b2 := (S.box BK0.out 2).trans rfl
        go_wp2_with fail
        refine (codewrightref05_Canon.w k2 S XF Xu H5.out).mono ?_
        rintro e w9 ⟨An, cn, rfl, Xn, S2, hK⟩
        clear b0 b1 b2
        replace XF := (XF).step hK
        replace Xp := (Xp).step hK
        replace Xq := (Xq).step hK
        replace Xu := (Xu).step hK
        replace Xo := (Xo).step hK
        clear hK S
        have S := S2
        clear S2
        go_wp2_with fail
        refine (codewrightlaw38_same.w k2 S Xo Xn H6.out).mono ?_
        rintro e w10 ⟨rfl, S2, hK⟩
        replace XF := (XF).step hK
        replace Xp := (Xp).step hK
        replace Xq := (Xq).step hK
        replace Xu := (Xu).step hK
        replace Xo := (Xo).step hK
        replace Xn := (Xn).step hK
        clear hK S
        have S := S2
        clear S2
        go_wp2
        go_ret
        exact ⟨rfl, below_step C1.out S.B⟩
end Go.Proofs.Ytkdakjlopheefaa.PA
end
section
namespace Go.Proofs.Ytkdakjlopheefaa.PA
open Go.Joins Go.ChangeShapes Go.WideShapes Go.ChangeAt Go.RowKit Go.Proofs.YtkdakjlopheefaaW.PrintWords Go.Proofs.YtkdakjlopheefaaW.PrintLast Go.Proofs.YtkdakjlopheefaaW.PrintMore
set_option linter.unusedVariables false
set_option maxRecDepth 100000
theorem own : ownKnob Try.prog.godebug = none := by kernel_rfl
theorem laidOut : laidOutB Try.prog = true := by kernel_rfl
theorem reads_trod {H : Type} {enc : TypeId × Value → H} {P : Program} {w : World} {t e fuel : Nat} {v : Value} {x : DataW H × List MemPlace} (ht : P.underlying t = some (.slice e)) (he : P.underlying e = some (.int .i64)) (hc : P.cellsOf e = 1)
    (h : DataW.trod enc P w 0 (fun _ => true) true fuel t [v] = some x) : ∃ a l c, v = .slice a l.length c ∧ l.length ≤ c ∧ Kd.C (Kd.int .i64) w a l.length l := by
  rcases open_ints ht he hc h with ⟨hcs, _⟩ | ⟨a, len, cap, zs, hcs, _, hl, hm, hz, _, hcell, hwz⟩
  · injection hcs with hcs _
    subst hcs
    exact ⟨none, [], 0, rfl, Nat.le_refl _, Kd.C_nil _ _⟩
  · injection hcs with hcs _
    subst hcs
    have hz' : zs.length = cap := by simpa using hz
    obtain ⟨l, hl', hr, _, _, hcc⟩ := ReadsInt.ofRowC (k := .i64) (w := w) (a := some a) (len := len) (cap := cap) (zs := zs) (.inr ⟨a, rfl, hl, hm, hz', hcell, hwz⟩)
    subst hl'
    exact ⟨some a, l, cap, rfl, hcc, Kd.C_of_reads (d := (0 : Int)) (h1 := fun _ => rfl) hr⟩
theorem reads_field {H : Type} {enc : TypeId × Value → H} {w : World} {v : Value} {d : DataW H} {p : List MemPlace} (hv : Value.okWide Try.prog w .any 0 24 v) (h : DataW.Trod enc Try.prog w 0 (fun _ => true) true 24 v d p) :
    ∃ P M a l c, v = .agg #[.int .i64 P, .int .i64 M, .slice a l.length c] ∧ l.length ≤ c ∧ Kd.C (Kd.int .i64) w a l.length l := by
  obtain ⟨v0, v1, v2, y0, y1, y2, n, rfl, _, _, h0, h1, h2⟩ := open_agg3 Try.underlying24 (by kernel_rfl) (by kernel_rfl) hv h
  obtain ⟨n0, e0, _⟩ := DataW.trod_int Try.underlying3 h0
  obtain ⟨n1, e1, _⟩ := DataW.trod_int Try.underlying3 h1
  obtain ⟨a, l, c, rfl, hc, hC⟩ := reads_trod Try.underlying22 Try.underlying3 (by kernel_rfl) h2
  injection e0 with e0
  injection e1 with e1
  subst e0
  subst e1
  exact ⟨_, _, a, l, c, rfl, hc, hC⟩
theorem open_arrs {H : Type} {enc : TypeId × Value → H} {P : Program} {w : World} {t e n : Nat} {v : Value} {d : DataW H} {p : List MemPlace} (ht : P.underlying t = some (.array n e)) (hc : P.cellsOf e = 1) (hn : P.cellsOf t = n)
    (hv : Value.okWide P w .any 0 t v) (h : DataW.Trod enc P w 0 (fun _ => true) true t v d p) : ∃ (cs : Array Value) (m : Nat), v = .agg cs ∧ cs.size = n ∧ ∀ (i : Nat) (x : Value), cs[i]? = some x → ∃ y, DataW.trod enc P w 0 (fun _ => true) true m e [x] = some y := by
  simp only [Value.okWide, ht] at hv
  obtain ⟨cs, rfl, hs, _⟩ := hv
  obtain ⟨fuel, hf⟩ := h
  obtain ⟨xs, m, _, _, hl, hx, hi⟩ := DataW.trod_array ht hf
  refine ⟨cs, m, rfl, hs.trans hn, fun i x hix => ?_⟩
  have hin : i < n := by
    have := (Array.getElem?_eq_some_iff.1 hix).1
    omega
  have h1 := hi i hin
  rw [hc, Nat.mul_one] at h1
  have h2 : (List.drop i cs.toList).take 1 = [x] := by
    have h3 : i < cs.toList.length := by rw [Array.length_toList]; omega
    have h4 : cs.toList[i] = x := by
      have := (Array.getElem?_eq_some_iff.1 hix).2
      simpa using this
    rw [List.drop_eq_getElem_cons h3, h4]; rfl
  have h5 : Value.cells (.agg cs) = cs := rfl
  rw [h5, h2] at h1
  rw [h1]
  exact ⟨_, List.getElem?_eq_getElem (by omega)⟩
theorem reads_arr3 {H : Type} {enc : TypeId × Value → H} {P : Program} {w : World} {t e i : Nat} {v : Value} {d : DataW H} {p : List MemPlace} (ht : P.underlying t = some (.array 3 e)) (hc : P.cellsOf e = 1) (hn : P.cellsOf t = 3) (he : P.underlying e = some (.slice i)) (hi : P.underlying i = some (.int .i64)) (hci : P.cellsOf i = 1)
    (hv : Value.okWide P w .any 0 t v) (h : DataW.Trod enc P w 0 (fun _ => true) true t v d p) : ∃ a l c a' l' c' a2 l2 c2, v = .agg #[.slice a l.length c, .slice a' l'.length c', .slice a2 l2.length c2] ∧ (l.length ≤ c ∧ Kd.C (Kd.int .i64) w a l.length l) ∧ (l'.length ≤ c' ∧ Kd.C (Kd.int .i64) w a' l'.length l') ∧ (l2.length ≤ c2 ∧ Kd.C (Kd.int .i64) w a2 l2.length l2) := by
  obtain ⟨cs, m, rfl, hs, hr⟩ := open_arrs ht hc hn hv h
  obtain ⟨x, y, z, rfl⟩ := array3 hs
  obtain ⟨_, h0⟩ := hr 0 x rfl
  obtain ⟨_, h1⟩ := hr 1 y rfl
  obtain ⟨_, h2⟩ := hr 2 z rfl
  obtain ⟨a, l, c, rfl, b0, b1⟩ := reads_trod he hi hci h0
  obtain ⟨a', l', c', rfl, b2, b3⟩ := reads_trod he hi hci h1
  obtain ⟨a2, l2, c2, rfl, b4, b5⟩ := reads_trod he hi hci h2
  exact ⟨a, l, c, a', l', c', a2, l2, c2, rfl, ⟨b0, b1⟩, ⟨b2, b3⟩, b4, b5⟩
end Go.Proofs.Ytkdakjlopheefaa.PA
end
section
namespace Go.Proofs.Ytkdakjlopheefaa.keyequationRecovers
open Go.Joins Go.ChangeShapes Go.WideShapes Go.ChangeAt Go.RowKit Go.Proofs.YtkdakjlopheefaaW.PrintWords Go.Proofs.YtkdakjlopheefaaW.PrintLast Go.Proofs.YtkdakjlopheefaaW.PrintMore Go.Proofs.Ytkdakjlopheefaa.PA
set_option linter.unusedVariables false
set_option maxRecDepth 100000 in
theorem lifted (os : Os) (started : os.Started) (H : Type) (enc : TypeId × Value → H) :
    ReturnsInHanded {} Try.checked os 4 .any (Rows.keyequationRecoversSpec.pre6 enc Try.prog Try.f4 Rows.keyequationRecoversRow.domain false) (Rows.keyequationRecoversSpec.post enc Try.prog Try.f4 false true false false) := by
  refine returnsInHanded_of_change_sized (C := Try.checked) own started (by kernel_rfl) Try.func4
    (ChangeSpec.witness6 (enc := enc) (C := Try.checked) false ⟨#[], #[.agg #[.int .i64 0, .int .i64 0, .slice none 0 0], .agg #[.slice none 0 0, .slice none 0 0, .slice none 0 0], .int .i64 0], []⟩ 8 (by kernel_rfl) (by kernel_rfl) (by kernel_rfl) (by kernel_rfl)) ?_
  intro W base args ds gs before hval0 hW hcnd hsz0 _
  have hval : ∀ (j : Nat) t v, Try.f4.params[j]? = some t → args[j]? = some v → Value.okWide Try.prog W .any base t v := hval0
  have hW' := hW
  obtain ⟨p, q, hA0, hV, rfl, hfz, hnd⟩ := hW
  have hA : DataW.TrodAll enc Try.prog W 0 (fun _ => true) true Try.f4.params.toList args.toList ds p := hA0
  rw [Try.params4] at hA hval
  obtain ⟨v0, vs0, d0, ds0, p0, q0, hargs, rfl, rfl, h0, r0⟩ := trodAll_cons hA
  obtain ⟨v1, vs1, d1, ds1, p1, q1, rfl, rfl, rfl, h1, r1⟩ := trodAll_cons r0
  obtain ⟨v2, vs2, d2, ds2, p2, q2, rfl, rfl, rfl, h2, r2⟩ := trodAll_cons r1
  obtain ⟨rfl, rfl, rfl⟩ := trodAll_nil r2
  obtain rfl : args = #[v0, v1, v2] := by cases args; simp_all
  obtain ⟨rfl, rfl⟩ := trodVars_none hV
  have k0 := h0
  have lt0 : ∀ x ∈ p0, x.block < W.heap.size := by obtain ⟨m, hm⟩ := k0; exact DataW.trod_lt m _ _ _ hm
  obtain ⟨P0, M0, A0, l0, c0, rfl, hc0, hC0⟩ := reads_field (hval 0 24 v0 rfl rfl) h0
  have k1 := h1
  have lt1 : ∀ x ∈ p1, x.block < W.heap.size := by obtain ⟨m, hm⟩ := k1; exact DataW.trod_lt m _ _ _ hm
  obtain ⟨A1_0, l1_0, c1_0, A1_1, l1_1, c1_1, A1_2, l1_2, c1_2, rfl, ⟨hc1_0, hC1_0⟩, ⟨hc1_1, hC1_1⟩, ⟨hc1_2, hC1_2⟩⟩ := reads_arr3 Try.underlying35 (by kernel_rfl) (by kernel_rfl) Try.underlying22 Try.underlying3 (by kernel_rfl) (hval 1 35 v1 rfl rfl) h1
  obtain ⟨a2, rfl, rfl, rfl, w2⟩ := open_int Try.underlying3 (hval 2 3 v2 rfl rfl) h2
  clear hA0 hval0 hsz0
  refine (KeyequationRecovers_calls P0 M0 A0 c0 l0 A1_0 c1_0 l1_0 A1_1 c1_1 l1_1 A1_2 c1_2 l1_2 a2 W hC0 hc0 hC1_0 hc1_0 hC1_1 hc1_1 hC1_2 hc1_2 w2).mono fun e W' ⟨he, bel⟩ => ?_
  subst he
  exact ⟨_, rfl, _, _, _, [], _, [], hW', trodAll_mk1 (shut_bool Try.underlying4 _), (trodAll_cons_mk (Below.trod laidOut (by kernel_rfl) (of_decide_eq_true (by kernel_rfl)) k0 bel lt0) (trodAll_cons_mk (Below.trod laidOut (by kernel_rfl) (of_decide_eq_true (by kernel_rfl)) k1 bel lt1) (trodAll_cons_mk (shut_int Try.underlying3 w2) trodAll_mk0))), rfl, bel.frame _, fun h => by cases h⟩
theorem over : Rows.keyequationRecoversRow.holds Try.pinned (OpenSpec.ofChange Rows.keyequationRecoversSpec) :=
  OpenClaim.holds_of_wide 4 Try.f4 rfl rfl rfl rfl rfl rfl rfl ⟨rfl, rfl, rfl, rfl, rfl⟩ rfl rfl rfl rfl rfl (by kernel_rfl) Try.func4 (by kernel_rfl)
    (of_decide_eq_true (by kernel_rfl)) (by unfold Func.isWrapper; first | (rw [if_pos (by decide +kernel)]; kernel_rfl) | (rw [if_neg (by decide +kernel)]; exact ⟨rfl, rfl⟩))
    (fun os started H enc _ => lifted os started H enc)
end Go.Proofs.Ytkdakjlopheefaa.keyequationRecovers
namespace Go.Proofs.Ytkdakjlopheefaa
theorem keyequationRecovers_holds : Rows.KeyequationRecoversSaid := keyequationRecovers.over
end Go.Proofs.Ytkdakjlopheefaa
end
