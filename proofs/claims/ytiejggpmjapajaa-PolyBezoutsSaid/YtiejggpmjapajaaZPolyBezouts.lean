/- Proved: for every input the law PolyBezouts returns true and leaves its arguments as they were; no conditions. Part 7 of 7 of the proof. -/
import Derived.Test.YtiejggpmjapajaaZPolyBezouts5
import Derived.Test.YtiejggpmjapajaaRows
import Derived.WalkKit
import Derived.ProofKit
import Derived.OpenShut
import Derived.ShutString
import Derived.ChangeOld
import Derived.Below
import Derived.SizedLaws
import Derived.Lib.SmallJoins
import Derived.Deep.Matrix
set_option linter.unusedSectionVars false
set_option linter.unusedSimpArgs false
set_option linter.unusedVariables false
section
namespace Go.Proofs.Ytiejggpmjapajaa.PA
open Alg Go.RowKit Go.Proofs.YtiejggpmjapajaaW.PrintWords Go.Proofs.YtiejggpmjapajaaW.PrintLast Go.Proofs.YtiejggpmjapajaaW.PrintMore
set_option linter.unusedVariables false
set_option maxHeartbeats 4000000 in
set_option maxRecDepth 100000 in
theorem PolyBezouts_calls (P M : Int) (A : Option Addr) (c : Nat) (md : List Int) (Ap : Option Addr) (cp : Nat) (lp : List Int) (Aq : Option Addr) (cq : Nat) (lq : List Int) (w : World) (hr : Kd.C (Kd.int .i64) w A md.length md) (hc : md.length ≤ c) (hrp : Kd.C (Kd.int .i64) w Ap lp.length lp) (hcp : lp.length ≤ cp) (hrq : Kd.C (Kd.int .i64) w Aq lq.length lq) (hcq : lq.length ≤ cq) :
    Calls Try.prog 9 #[.agg #[.int .i64 P, .int .i64 M, .slice A md.length c], .slice Ap lp.length cp, .slice Aq lq.length cq] w fun e w' => e = .returned (.bool true) ∧ Below w.heap.size w w' := by
  have HR := Aside0.mk hr
  have HC := Aside0.mk hc
  have HRp := Aside0.mk hrp
  have HCp := Aside0.mk hcp
  have HRq := Aside0.mk hrq
  have HCq := Aside0.mk hcq
  clear hr hc  hrp hcp hrq hcq
  go_enter Try.func9, Try.ntmps9
  go_wp2_with fail
  refine (alive_calls _).mono ?_
  rintro e w2 ⟨rfl, hb⟩
  have HB := Aside0.mk (below_step (below_alloc (Below.refl _ w) _) hb)
  have BK := Aside0.mk (blk_below (blk_new w _) hb)
  clear hb
  have b0 := (blk_cell BK.out 0).trans rfl
  have b1 := (blk_cell BK.out 1).trans rfl
  have b2 := (blk_cell BK.out 2).trans rfl
  go_wp2_with fail
  refine (made_calls P M A c md _ (Kd.C_below HR.out HB.out) HC.out).mono ?_
  rintro e w3 ⟨v, rfl, h⟩
  rcases h with ⟨rfl, hb⟩ | ⟨g, rfl, W0, hb, hb2, p, m, ex, lg, rfl, rfl, ⟨ht, hG⟩, hI⟩
  · have HB2 := Aside0.mk (below_step HB.out hb)
    clear hb
    go_wp2
    go_ret
    exact ⟨rfl, HB2.out⟩
  · have C1 := Aside0.mk (below_step HB.out hb)
    have BK0 := Aside0.mk (blk_below BK.out hb)
    have S : St W0 w3 g p m md _ ex lg := ⟨hI, hb2⟩
    have HGO := Aside0.mk hG
    have XF := S.arg (Kd.C_below HR.out C1.out) HC.out
    have Xp := S.arg (Kd.C_below HRp.out C1.out) HCp.out
    have Xq := S.arg (Kd.C_below HRq.out C1.out) HCq.out
    clear hb hb2 hI hG b0 b1 b2 HB BK  HR HC HRp HCp HRq HCq
    by_cases cs : ∀ l, l ∈ [lp, lq] → l.length ≤ 24
    rotate_left
    · have cb := Aside0.mk (decide_eq_false cs)
      go_wp2_with fail
      refine (short_w S [(Ap, cp, lp), (Aq, cq, lq)] _ (by simp) (fun x hx => by rcases List.mem_cons.1 hx with rfl | hx; exact Xp; rcases List.mem_cons.1 hx with rfl | hx; exact Xq; exact absurd hx List.not_mem_nil) false cb.out).mono ?_
      rintro e w4 ⟨rfl, S2, hK⟩
      replace XF := XF.step hK
      replace Xp := Xp.step hK
      replace Xq := Xq.step hK
      clear hK S cb
      have S := S2
      clear S2
      go_wp2
      go_ret
      exact ⟨rfl, below_step C1.out S.B⟩
    · have cb := Aside0.mk (decide_eq_true cs)
      go_wp2_with fail
      refine (short_w S [(Ap, cp, lp), (Aq, cq, lq)] _ (by simp) (fun x hx => by rcases List.mem_cons.1 hx with rfl | hx; exact Xp; rcases List.mem_cons.1 hx with rfl | hx; exact Xq; exact absurd hx List.not_mem_nil) true cb.out).mono ?_
      rintro e w4 ⟨rfl, S2, hK⟩
      replace XF := XF.step hK
      replace Xp := Xp.step hK
      replace Xq := Xq.step hK
      clear hK S cb
      have S := S2
      clear S2
      have hlp : lp.length ≤ 24 := cs _ (by simp)
      have hlq : lq.length ≤ 24 := cs _ (by simp)
      have HLS := Aside0.mk cs
      clear cs
      obtain ⟨k, dd, u, v, m1, m2, d1, d2, h1, h2, h3, h4, h5, h6, h7, h8, h9, h10, h11, h12, b1, b2, b3, b4, b5, hz⟩ := bezouts_pure HGO.out lp lq hlp hlq
      have H1 := Aside0.mk h1
      have H2 := Aside0.mk h2
      have H3 := Aside0.mk h3
      have H4 := Aside0.mk h4
      have H5 := Aside0.mk h5
      have H6 := Aside0.mk h6
      have H7 := Aside0.mk h7
      have H8 := Aside0.mk h8
      have H9 := Aside0.mk h9
      have H10 := Aside0.mk h10
      have H11 := Aside0.mk h11
      have H12 := Aside0.mk h12
      clear h1 h2 h3 h4 h5 h6 h7 h8 h9 h10 h11 h12 HGO
      rcases hz with ⟨c1, c2, hu, hv⟩ | ⟨c1, c2, c3, hv⟩ | ⟨c1, c2⟩
      · skip
        have f1 : decide (d1 < 0) = true := decide_eq_true c1
        have f2 : decide (d2 < 0) = true := decide_eq_true c2
        have HU := Aside0.mk (show (u.length : Int) = 0 from by rw [hu]; rfl)
        have HV := Aside0.mk (show (v.length : Int) = 0 from by rw [hv]; rfl)
        clear hu hv
        clear b1 b2 b3 b4 b5
        go_wp2_with fail
        refine (poly_Bezout.w k S Xp Xq H1.out).mono ?_
        rintro e w5 ⟨Agd, cgd, Agu, cgu, Agv, cgv, rfl, Xgd, Xgu, Xgv, S2, hK⟩
        replace XF := (XF).step hK
        replace Xp := (Xp).step hK
        replace Xq := (Xq).step hK
        clear hK S
        have S := S2
        clear S2
        have b0 := (S.box BK0.out 0).trans rfl
        have b1 := (S.box BK0.out 1).trans rfl
        have b2 := (S.box BK0.out 2).trans rfl
        go_wp2_with fail
        refine (codewrightref05_Gcd.w k S XF Xp Xq H2.out).mono ?_
        rintro e w6 ⟨Agw, cgw, rfl, Xgw, S2, hK⟩
        clear b0 b1 b2
        replace XF := (XF).step hK
        replace Xp := (Xp).step hK
        replace Xq := (Xq).step hK
        replace Xgd := (Xgd).step hK
        replace Xgu := (Xgu).step hK
        replace Xgv := (Xgv).step hK
        clear hK S
        have S := S2
        clear S2
        go_wp2_with fail
        have b0 := S.keep BK0.out
        replace XF := XF.step (Stp.drew _ _)
        replace Xp := Xp.step (Stp.drew _ _)
        replace Xq := Xq.step (Stp.drew _ _)
        replace Xgd := Xgd.step (Stp.drew _ _)
        replace Xgu := Xgu.step (Stp.drew _ _)
        replace Xgv := Xgv.step (Stp.drew _ _)
        replace Xgw := Xgw.step (Stp.drew _ _)
        replace S := S.drew
        go_region_held3 (fun W => W.cell? ⟨w.heap.size, 0, none⟩ = some (.int .i64 p) ∧ W.cell? ⟨w.heap.size, 1, none⟩ = some (.int .i64 m) ∧ W.cell? ⟨w.heap.size, 2, none⟩ = some (.slice A md.length c))
          (first | exact b0 | exact S.keep BK0.out)
          (first
            | ((with_reducible refine (codewrightref05_Mul.w k S XF Xgu Xp H3.out).mono ?_); rintro e w7 ⟨Am1, cm1, rfl, Xm1, S2, hK⟩; replace XF := XF.step hK; replace Xp := Xp.step hK; replace Xq := Xq.step hK; replace Xgd := Xgd.step hK; replace Xgu := Xgu.step hK; replace Xgv := Xgv.step hK; replace Xgw := Xgw.step hK; clear hK S; have S := S2; clear S2)
            | ((with_reducible refine (codewrightref05_Mul.w k S XF Xgv Xq H4.out).mono ?_); rintro e w8 ⟨Am2, cm2, rfl, Xm2, S2, hK⟩; replace XF := XF.step hK; replace Xp := Xp.step hK; replace Xq := Xq.step hK; replace Xgd := Xgd.step hK; replace Xgu := Xgu.step hK; replace Xgv := Xgv.step hK; replace Xgw := Xgw.step hK; replace Xm1 := Xm1.step hK; clear hK S; have S := S2; clear S2)
            | ((with_reducible refine (codewrightref05_Add.w k S XF Xm1 Xm2 H5.out).mono ?_); rintro e w9 ⟨Ags, cgs, rfl, Xgs, S2, hK⟩; replace XF := XF.step hK; replace Xp := Xp.step hK; replace Xq := Xq.step hK; replace Xgd := Xgd.step hK; replace Xgu := Xgu.step hK; replace Xgv := Xgv.step hK; replace Xgw := Xgw.step hK; replace Xm1 := Xm1.step hK; replace Xm2 := Xm2.step hK; clear hK S; have S := S2; clear S2))
        go_wp2_with fail
        refine (codewrightlaw05_same.w k S Xgd Xgw H6.out).mono ?_
        rintro e w10 ⟨rfl, S2, hK⟩
        replace XF := (XF).step hK
        replace Xp := (Xp).step hK
        replace Xq := (Xq).step hK
        replace Xgd := (Xgd).step hK
        replace Xgu := (Xgu).step hK
        replace Xgv := (Xgv).step hK
        replace Xgw := (Xgw).step hK
        replace Xm1 := (Xm1).step hK
        replace Xm2 := (Xm2).step hK
        replace Xgs := (Xgs).step hK
        clear hK S
        have S := S2
        clear S2
        go_wp2_with fail
        refine (codewrightlaw05_same.w k S Xgs Xgw H6.out).mono ?_
        rintro e w11 ⟨rfl, S2, hK⟩
        replace XF := (XF).step hK
        replace Xp := (Xp).step hK
        replace Xq := (Xq).step hK
        replace Xgd := (Xgd).step hK
        replace Xgu := (Xgu).step hK
        replace Xgv := (Xgv).step hK
        replace Xgw := (Xgw).step hK
        replace Xm1 := (Xm1).step hK
        replace Xm2 := (Xm2).step hK
        replace Xgs := (Xgs).step hK
        clear hK S
        have S := S2
        clear S2
        have b0 := (S.box BK0.out 0).trans rfl
        have b1 := (S.box BK0.out 1).trans rfl
        have b2 := (S.box BK0.out 2).trans rfl
        go_wp2_with fail
        refine (codewrightref05_Canon.w k S XF Xgu H7.out).mono ?_
        rintro e w12 ⟨Anu, cnu, rfl, Xnu, S2, hK⟩
        clear b0 b1 b2
        replace XF := (XF).step hK
        replace Xp := (Xp).step hK
        replace Xq := (Xq).step hK
        replace Xgd := (Xgd).step hK
        replace Xgu := (Xgu).step hK
        replace Xgv := (Xgv).step hK
        replace Xgw := (Xgw).step hK
        replace Xm1 := (Xm1).step hK
        replace Xm2 := (Xm2).step hK
        replace Xgs := (Xgs).step hK
        clear hK S
        have S := S2
        clear S2
        go_wp2_with fail
        refine (codewrightlaw05_same.w k S Xgu Xnu H8.out).mono ?_
        rintro e w13 ⟨rfl, S2, hK⟩
        replace XF := (XF).step hK
        replace Xp := (Xp).step hK
        replace Xq := (Xq).step hK
        replace Xgd := (Xgd).step hK
        replace Xgu := (Xgu).step hK
        replace Xgv := (Xgv).step hK
        replace Xgw := (Xgw).step hK
        replace Xm1 := (Xm1).step hK
        replace Xm2 := (Xm2).step hK
        replace Xgs := (Xgs).step hK
        replace Xnu := (Xnu).step hK
        clear hK S
        have S := S2
        clear S2
        have b0 := (S.box BK0.out 0).trans rfl
        have b1 := (S.box BK0.out 1).trans rfl
        have b2 := (S.box BK0.out 2).trans rfl
        go_wp2_with fail
        refine (codewrightref05_Canon.w k S XF Xgv H9.out).mono ?_
        rintro e w14 ⟨Anv, cnv, rfl, Xnv, S2, hK⟩
        clear b0 b1 b2
        replace XF := (XF).step hK
        replace Xp := (Xp).step hK
        replace Xq := (Xq).step hK
        replace Xgd := (Xgd).step hK
        replace Xgu := (Xgu).step hK
        replace Xgv := (Xgv).step hK
        replace Xgw := (Xgw).step hK
        replace Xm1 := (Xm1).step hK
        replace Xm2 := (Xm2).step hK
        replace Xgs := (Xgs).step hK
        replace Xnu := (Xnu).step hK
        clear hK S
        have S := S2
        clear S2
        go_wp2_with fail
        refine (codewrightlaw05_same.w k S Xgv Xnv H10.out).mono ?_
        rintro e w15 ⟨rfl, S2, hK⟩
        replace XF := (XF).step hK
        replace Xp := (Xp).step hK
        replace Xq := (Xq).step hK
        replace Xgd := (Xgd).step hK
        replace Xgu := (Xgu).step hK
        replace Xgv := (Xgv).step hK
        replace Xgw := (Xgw).step hK
        replace Xm1 := (Xm1).step hK
        replace Xm2 := (Xm2).step hK
        replace Xgs := (Xgs).step hK
        replace Xnu := (Xnu).step hK
        replace Xnv := (Xnv).step hK
        clear hK S
        have S := S2
        clear S2
        go_wp2_with fail
        have b0 := S.keep BK0.out
        replace XF := XF.step (Stp.drew _ _)
        replace Xp := Xp.step (Stp.drew _ _)
        replace Xq := Xq.step (Stp.drew _ _)
        replace Xgd := Xgd.step (Stp.drew _ _)
        replace Xgu := Xgu.step (Stp.drew _ _)
        replace Xgv := Xgv.step (Stp.drew _ _)
        replace Xgw := Xgw.step (Stp.drew _ _)
        replace Xm1 := Xm1.step (Stp.drew _ _)
        replace Xm2 := Xm2.step (Stp.drew _ _)
        replace Xgs := Xgs.step (Stp.drew _ _)
        replace Xnu := Xnu.step (Stp.drew _ _)
        replace Xnv := Xnv.step (Stp.drew _ _)
        replace S := S.drew
        go_region_held3 (fun W => W.cell? ⟨w.heap.size, 0, none⟩ = some (.int .i64 p) ∧ W.cell? ⟨w.heap.size, 1, none⟩ = some (.int .i64 m) ∧ W.cell? ⟨w.heap.size, 2, none⟩ = some (.slice A md.length c))
          (first | exact b0 | exact S.keep BK0.out)
          (first
            | ((with_reducible refine (codewrightref05_Degree.w k S XF Xp H11.out).mono ?_); rintro e w16 ⟨rfl, S2, hK⟩; replace XF := XF.step hK; replace Xp := Xp.step hK; replace Xq := Xq.step hK; replace Xgd := Xgd.step hK; replace Xgu := Xgu.step hK; replace Xgv := Xgv.step hK; replace Xgw := Xgw.step hK; replace Xm1 := Xm1.step hK; replace Xm2 := Xm2.step hK; replace Xgs := Xgs.step hK; replace Xnu := Xnu.step hK; replace Xnv := Xnv.step hK; clear hK S; have S := S2; clear S2)
            | ((with_reducible refine (codewrightref05_Degree.w k S XF Xq H12.out).mono ?_); rintro e w17 ⟨rfl, S2, hK⟩; replace XF := XF.step hK; replace Xp := Xp.step hK; replace Xq := Xq.step hK; replace Xgd := Xgd.step hK; replace Xgu := Xgu.step hK; replace Xgv := Xgv.step hK; replace Xgw := Xgw.step hK; replace Xm1 := Xm1.step hK; replace Xm2 := Xm2.step hK; replace Xgs := Xgs.step hK; replace Xnu := Xnu.step hK; replace Xnv := Xnv.step hK; clear hK S; have S := S2; clear S2))
        have fu := HU.out
        have fv := HV.out
        go_wp2_with fail
        all_goals
          go_ret
          exact ⟨rfl, below_step C1.out S.B⟩
      · skip
        have f1 : decide (d1 < 0) = false := decide_eq_false (by omega)
        have f2 : decide (d2 < 0) = true := decide_eq_true c2
        have f3 : ¬ (d1 < 0) := by omega
        have HU := Aside0.mk (show (u.length : Int) = 1 from by omega)
        have HV := Aside0.mk (show (v.length : Int) = 0 from by rw [hv]; rfl)
        clear hv c3
        clear b1 b2 b3 b4 b5
        go_wp2_with fail
        refine (poly_Bezout.w k S Xp Xq H1.out).mono ?_
        rintro e w5 ⟨Agd, cgd, Agu, cgu, Agv, cgv, rfl, Xgd, Xgu, Xgv, S2, hK⟩
        replace XF := (XF).step hK
        replace Xp := (Xp).step hK
        replace Xq := (Xq).step hK
        clear hK S
        have S := S2
        clear S2
        have b0 := (S.box BK0.out 0).trans rfl
        have b1 := (S.box BK0.out 1).trans rfl
        have b2 := (S.box BK0.out 2).trans rfl
        go_wp2_with fail
        refine (codewrightref05_Gcd.w k S XF Xp Xq H2.out).mono ?_
        rintro e w6 ⟨Agw, cgw, rfl, Xgw, S2, hK⟩
        clear b0 b1 b2
        replace XF := (XF).step hK
        replace Xp := (Xp).step hK
        replace Xq := (Xq).step hK
        replace Xgd := (Xgd).step hK
        replace Xgu := (Xgu).step hK
        replace Xgv := (Xgv).step hK
        clear hK S
        have S := S2
        clear S2
        go_wp2_with fail
        have b0 := S.keep BK0.out
        replace XF := XF.step (Stp.drew _ _)
        replace Xp := Xp.step (Stp.drew _ _)
        replace Xq := Xq.step (Stp.drew _ _)
        replace Xgd := Xgd.step (Stp.drew _ _)
        replace Xgu := Xgu.step (Stp.drew _ _)
        replace Xgv := Xgv.step (Stp.drew _ _)
        replace Xgw := Xgw.step (Stp.drew _ _)
        replace S := S.drew
        go_region_held3 (fun W => W.cell? ⟨w.heap.size, 0, none⟩ = some (.int .i64 p) ∧ W.cell? ⟨w.heap.size, 1, none⟩ = some (.int .i64 m) ∧ W.cell? ⟨w.heap.size, 2, none⟩ = some (.slice A md.length c))
          (first | exact b0 | exact S.keep BK0.out)
          (first
            | ((with_reducible refine (codewrightref05_Mul.w k S XF Xgu Xp H3.out).mono ?_); rintro e w7 ⟨Am1, cm1, rfl, Xm1, S2, hK⟩; replace XF := XF.step hK; replace Xp := Xp.step hK; replace Xq := Xq.step hK; replace Xgd := Xgd.step hK; replace Xgu := Xgu.step hK; replace Xgv := Xgv.step hK; replace Xgw := Xgw.step hK; clear hK S; have S := S2; clear S2)
            | ((with_reducible refine (codewrightref05_Mul.w k S XF Xgv Xq H4.out).mono ?_); rintro e w8 ⟨Am2, cm2, rfl, Xm2, S2, hK⟩; replace XF := XF.step hK; replace Xp := Xp.step hK; replace Xq := Xq.step hK; replace Xgd := Xgd.step hK; replace Xgu := Xgu.step hK; replace Xgv := Xgv.step hK; replace Xgw := Xgw.step hK; replace Xm1 := Xm1.step hK; clear hK S; have S := S2; clear S2)
            | ((with_reducible refine (codewrightref05_Add.w k S XF Xm1 Xm2 H5.out).mono ?_); rintro e w9 ⟨Ags, cgs, rfl, Xgs, S2, hK⟩; replace XF := XF.step hK; replace Xp := Xp.step hK; replace Xq := Xq.step hK; replace Xgd := Xgd.step hK; replace Xgu := Xgu.step hK; replace Xgv := Xgv.step hK; replace Xgw := Xgw.step hK; replace Xm1 := Xm1.step hK; replace Xm2 := Xm2.step hK; clear hK S; have S := S2; clear S2))
        go_wp2_with fail
        refine (codewrightlaw05_same.w k S Xgd Xgw H6.out).mono ?_
        rintro e w10 ⟨rfl, S2, hK⟩
        replace XF := (XF).step hK
        replace Xp := (Xp).step hK
        replace Xq := (Xq).step hK
        replace Xgd := (Xgd).step hK
        replace Xgu := (Xgu).step hK
        replace Xgv := (Xgv).step hK
        replace Xgw := (Xgw).step hK
        replace Xm1 := (Xm1).step hK
        replace Xm2 := (Xm2).step hK
        replace Xgs := (Xgs).step hK
        clear hK S
        have S := S2
        clear S2
        go_wp2_with fail
        refine (codewrightlaw05_same.w k S Xgs Xgw H6.out).mono ?_
        rintro e w11 ⟨rfl, S2, hK⟩
        replace XF := (XF).step hK
        replace Xp := (Xp).step hK
        replace Xq := (Xq).step hK
        replace Xgd := (Xgd).step hK
        replace Xgu := (Xgu).step hK
        replace Xgv := (Xgv).step hK
        replace Xgw := (Xgw).step hK
        replace Xm1 := (Xm1).step hK
        replace Xm2 := (Xm2).step hK
        replace Xgs := (Xgs).step hK
        clear hK S
        have S := S2
        clear S2
        have b0 := (S.box BK0.out 0).trans rfl
        have b1 := (S.box BK0.out 1).trans rfl
        have b2 := (S.box BK0.out 2).trans rfl
        go_wp2_with fail
        refine (codewrightref05_Canon.w k S XF Xgu H7.out).mono ?_
        rintro e w12 ⟨Anu, cnu, rfl, Xnu, S2, hK⟩
        clear b0 b1 b2
        replace XF := (XF).step hK
        replace Xp := (Xp).step hK
        replace Xq := (Xq).step hK
        replace Xgd := (Xgd).step hK
        replace Xgu := (Xgu).step hK
        replace Xgv := (Xgv).step hK
        replace Xgw := (Xgw).step hK
        replace Xm1 := (Xm1).step hK
        replace Xm2 := (Xm2).step hK
        replace Xgs := (Xgs).step hK
        clear hK S
        have S := S2
        clear S2
        go_wp2_with fail
        refine (codewrightlaw05_same.w k S Xgu Xnu H8.out).mono ?_
        rintro e w13 ⟨rfl, S2, hK⟩
        replace XF := (XF).step hK
        replace Xp := (Xp).step hK
        replace Xq := (Xq).step hK
        replace Xgd := (Xgd).step hK
        replace Xgu := (Xgu).step hK
        replace Xgv := (Xgv).step hK
        replace Xgw := (Xgw).step hK
        replace Xm1 := (Xm1).step hK
        replace Xm2 := (Xm2).step hK
        replace Xgs := (Xgs).step hK
        replace Xnu := (Xnu).step hK
        clear hK S
        have S := S2
        clear S2
        have b0 := (S.box BK0.out 0).trans rfl
        have b1 := (S.box BK0.out 1).trans rfl
        have b2 := (S.box BK0.out 2).trans rfl
        go_wp2_with fail
        refine (codewrightref05_Canon.w k S XF Xgv H9.out).mono ?_
        rintro e w14 ⟨Anv, cnv, rfl, Xnv, S2, hK⟩
        clear b0 b1 b2
        replace XF := (XF).step hK
        replace Xp := (Xp).step hK
        replace Xq := (Xq).step hK
        replace Xgd := (Xgd).step hK
        replace Xgu := (Xgu).step hK
        replace Xgv := (Xgv).step hK
        replace Xgw := (Xgw).step hK
        replace Xm1 := (Xm1).step hK
        replace Xm2 := (Xm2).step hK
        replace Xgs := (Xgs).step hK
        replace Xnu := (Xnu).step hK
        clear hK S
        have S := S2
        clear S2
        go_wp2_with fail
        refine (codewrightlaw05_same.w k S Xgv Xnv H10.out).mono ?_
        rintro e w15 ⟨rfl, S2, hK⟩
        replace XF := (XF).step hK
        replace Xp := (Xp).step hK
        replace Xq := (Xq).step hK
        replace Xgd := (Xgd).step hK
        replace Xgu := (Xgu).step hK
        replace Xgv := (Xgv).step hK
        replace Xgw := (Xgw).step hK
        replace Xm1 := (Xm1).step hK
        replace Xm2 := (Xm2).step hK
        replace Xgs := (Xgs).step hK
        replace Xnu := (Xnu).step hK
        replace Xnv := (Xnv).step hK
        clear hK S
        have S := S2
        clear S2
        go_wp2_with fail
        have b0 := S.keep BK0.out
        replace XF := XF.step (Stp.drew _ _)
        replace Xp := Xp.step (Stp.drew _ _)
        replace Xq := Xq.step (Stp.drew _ _)
        replace Xgd := Xgd.step (Stp.drew _ _)
        replace Xgu := Xgu.step (Stp.drew _ _)
        replace Xgv := Xgv.step (Stp.drew _ _)
        replace Xgw := Xgw.step (Stp.drew _ _)
        replace Xm1 := Xm1.step (Stp.drew _ _)
        replace Xm2 := Xm2.step (Stp.drew _ _)
        replace Xgs := Xgs.step (Stp.drew _ _)
        replace Xnu := Xnu.step (Stp.drew _ _)
        replace Xnv := Xnv.step (Stp.drew _ _)
        replace S := S.drew
        go_region_held3 (fun W => W.cell? ⟨w.heap.size, 0, none⟩ = some (.int .i64 p) ∧ W.cell? ⟨w.heap.size, 1, none⟩ = some (.int .i64 m) ∧ W.cell? ⟨w.heap.size, 2, none⟩ = some (.slice A md.length c))
          (first | exact b0 | exact S.keep BK0.out)
          (first
            | ((with_reducible refine (codewrightref05_Degree.w k S XF Xp H11.out).mono ?_); rintro e w16 ⟨rfl, S2, hK⟩; replace XF := XF.step hK; replace Xp := Xp.step hK; replace Xq := Xq.step hK; replace Xgd := Xgd.step hK; replace Xgu := Xgu.step hK; replace Xgv := Xgv.step hK; replace Xgw := Xgw.step hK; replace Xm1 := Xm1.step hK; replace Xm2 := Xm2.step hK; replace Xgs := Xgs.step hK; replace Xnu := Xnu.step hK; replace Xnv := Xnv.step hK; clear hK S; have S := S2; clear S2)
            | ((with_reducible refine (codewrightref05_Degree.w k S XF Xq H12.out).mono ?_); rintro e w17 ⟨rfl, S2, hK⟩; replace XF := XF.step hK; replace Xp := Xp.step hK; replace Xq := Xq.step hK; replace Xgd := Xgd.step hK; replace Xgu := Xgu.step hK; replace Xgv := Xgv.step hK; replace Xgw := Xgw.step hK; replace Xm1 := Xm1.step hK; replace Xm2 := Xm2.step hK; replace Xgs := Xgs.step hK; replace Xnu := Xnu.step hK; replace Xnv := Xnv.step hK; clear hK S; have S := S2; clear S2))
        have fu := HU.out
        have fv := HV.out
        go_wp2_with fail
        all_goals
          go_ret
          exact ⟨rfl, below_step C1.out S.B⟩
      · skip
        have f2 : decide (d2 < 0) = false := decide_eq_false (by omega)
        have f3 : ¬ (d2 < 0) := by omega
        obtain ⟨y, hy⟩ : ∃ y, y = d2 - ((dd.length : Int) - 1) := ⟨_, rfl⟩
        have f5 : IntKind.i64.wrap ((u.length : Int) - 1) = (u.length : Int) - 1 := by rw [i64_w, w64 (by omega)]
        have f6 : IntKind.i64.wrap ((dd.length : Int) - 1) = (dd.length : Int) - 1 := by rw [i64_w, w64 (by omega)]
        have f7 : IntKind.i64.wrap (d2 - ((dd.length : Int) - 1)) = y := by rw [← hy, i64_w, w64 (by omega)]
        have f8 : ¬ (y < 0) := by omega
        have f9 : decide ((u.length : Int) - 1 < y) = true := decide_eq_true (by omega)
        have f10 : (u.length : Int) - 1 < y := by omega
        clear hy
        clear b1 b2 b3 b4 b5
        go_wp2_with fail
        refine (poly_Bezout.w k S Xp Xq H1.out).mono ?_
        rintro e w5 ⟨Agd, cgd, Agu, cgu, Agv, cgv, rfl, Xgd, Xgu, Xgv, S2, hK⟩
        replace XF := (XF).step hK
        replace Xp := (Xp).step hK
        replace Xq := (Xq).step hK
        clear hK S
        have S := S2
        clear S2
        have b0 := (S.box BK0.out 0).trans rfl
        have b1 := (S.box BK0.out 1).trans rfl
        have b2 := (S.box BK0.out 2).trans rfl
        go_wp2_with fail
        refine (codewrightref05_Gcd.w k S XF Xp Xq H2.out).mono ?_
        rintro e w6 ⟨Agw, cgw, rfl, Xgw, S2, hK⟩
        clear b0 b1 b2
        replace XF := (XF).step hK
        replace Xp := (Xp).step hK
        replace Xq := (Xq).step hK
        replace Xgd := (Xgd).step hK
        replace Xgu := (Xgu).step hK
        replace Xgv := (Xgv).step hK
        clear hK S
        have S := S2
        clear S2
        go_wp2_with fail
        have b0 := S.keep BK0.out
        replace XF := XF.step (Stp.drew _ _)
        replace Xp := Xp.step (Stp.drew _ _)
        replace Xq := Xq.step (Stp.drew _ _)
        replace Xgd := Xgd.step (Stp.drew _ _)
        replace Xgu := Xgu.step (Stp.drew _ _)
        replace Xgv := Xgv.step (Stp.drew _ _)
        replace Xgw := Xgw.step (Stp.drew _ _)
        replace S := S.drew
        go_region_held3 (fun W => W.cell? ⟨w.heap.size, 0, none⟩ = some (.int .i64 p) ∧ W.cell? ⟨w.heap.size, 1, none⟩ = some (.int .i64 m) ∧ W.cell? ⟨w.heap.size, 2, none⟩ = some (.slice A md.length c))
          (first | exact b0 | exact S.keep BK0.out)
          (first
            | ((with_reducible refine (codewrightref05_Mul.w k S XF Xgu Xp H3.out).mono ?_); rintro e w7 ⟨Am1, cm1, rfl, Xm1, S2, hK⟩; replace XF := XF.step hK; replace Xp := Xp.step hK; replace Xq := Xq.step hK; replace Xgd := Xgd.step hK; replace Xgu := Xgu.step hK; replace Xgv := Xgv.step hK; replace Xgw := Xgw.step hK; clear hK S; have S := S2; clear S2)
            | ((with_reducible refine (codewrightref05_Mul.w k S XF Xgv Xq H4.out).mono ?_); rintro e w8 ⟨Am2, cm2, rfl, Xm2, S2, hK⟩; replace XF := XF.step hK; replace Xp := Xp.step hK; replace Xq := Xq.step hK; replace Xgd := Xgd.step hK; replace Xgu := Xgu.step hK; replace Xgv := Xgv.step hK; replace Xgw := Xgw.step hK; replace Xm1 := Xm1.step hK; clear hK S; have S := S2; clear S2)
            | ((with_reducible refine (codewrightref05_Add.w k S XF Xm1 Xm2 H5.out).mono ?_); rintro e w9 ⟨Ags, cgs, rfl, Xgs, S2, hK⟩; replace XF := XF.step hK; replace Xp := Xp.step hK; replace Xq := Xq.step hK; replace Xgd := Xgd.step hK; replace Xgu := Xgu.step hK; replace Xgv := Xgv.step hK; replace Xgw := Xgw.step hK; replace Xm1 := Xm1.step hK; replace Xm2 := Xm2.step hK; clear hK S; have S := S2; clear S2))
        go_wp2_with fail
        refine (codewrightlaw05_same.w k S Xgd Xgw H6.out).mono ?_
        rintro e w10 ⟨rfl, S2, hK⟩
        replace XF := (XF).step hK
        replace Xp := (Xp).step hK
        replace Xq := (Xq).step hK
        replace Xgd := (Xgd).step hK
        replace Xgu := (Xgu).step hK
        replace Xgv := (Xgv).step hK
        replace Xgw := (Xgw).step hK
        replace Xm1 := (Xm1).step hK
        replace Xm2 := (Xm2).step hK
        replace Xgs := (Xgs).step hK
        clear hK S
        have S := S2
        clear S2
        go_wp2_with fail
        refine (codewrightlaw05_same.w k S Xgs Xgw H6.out).mono ?_
        rintro e w11 ⟨rfl, S2, hK⟩
        replace XF := (XF).step hK
        replace Xp := (Xp).step hK
        replace Xq := (Xq).step hK
        replace Xgd := (Xgd).step hK
        replace Xgu := (Xgu).step hK
        replace Xgv := (Xgv).step hK
        replace Xgw := (Xgw).step hK
        replace Xm1 := (Xm1).step hK
        replace Xm2 := (Xm2).step hK
        replace Xgs := (Xgs).step hK
        clear hK S
        have S := S2
        clear S2
        have b0 := (S.box BK0.out 0).trans rfl
        have b1 := (S.box BK0.out 1).trans rfl
        have b2 := (S.box BK0.out 2).trans rfl
        go_wp2_with fail
        refine (codewrightref05_Canon.w k S XF Xgu H7.out).mono ?_
        rintro e w12 ⟨Anu, cnu, rfl, Xnu, S2, hK⟩
        clear b0 b1 b2
        replace XF := (XF).step hK
        replace Xp := (Xp).step hK
        replace Xq := (Xq).step hK
        replace Xgd := (Xgd).step hK
        replace Xgu := (Xgu).step hK
        replace Xgv := (Xgv).step hK
        replace Xgw := (Xgw).step hK
        replace Xm1 := (Xm1).step hK
        replace Xm2 := (Xm2).step hK
        replace Xgs := (Xgs).step hK
        clear hK S
        have S := S2
        clear S2
        go_wp2_with fail
        refine (codewrightlaw05_same.w k S Xgu Xnu H8.out).mono ?_
        rintro e w13 ⟨rfl, S2, hK⟩
        replace XF := (XF).step hK
        replace Xp := (Xp).step hK
        replace Xq := (Xq).step hK
        replace Xgd := (Xgd).step hK
        replace Xgu := (Xgu).step hK
        replace Xgv := (Xgv).step hK
        replace Xgw := (Xgw).step hK
        replace Xm1 := (Xm1).step hK
        replace Xm2 := (Xm2).step hK
        replace Xgs := (Xgs).step hK
        replace Xnu := (Xnu).step hK
        clear hK S
        have S := S2
        clear S2
        have b0 := (S.box BK0.out 0).trans rfl
        have b1 := (S.box BK0.out 1).trans rfl
        have b2 := (S.box BK0.out 2).trans rfl
        go_wp2_with fail
        refine (codewrightref05_Canon.w k S XF Xgv H9.out).mono ?_
        rintro e w14 ⟨Anv, cnv, rfl, Xnv, S2, hK⟩
        clear b0 b1 b2
        replace XF := (XF).step hK
        replace Xp := (Xp).step hK
        replace Xq := (Xq).step hK
        replace Xgd := (Xgd).step hK
        replace Xgu := (Xgu).step hK
        replace Xgv := (Xgv).step hK
        replace Xgw := (Xgw).step hK
        replace Xm1 := (Xm1).step hK
        replace Xm2 := (Xm2).step hK
        replace Xgs := (Xgs).step hK
        replace Xnu := (Xnu).step hK
        clear hK S
        have S := S2
        clear S2
        go_wp2_with fail
        refine (codewrightlaw05_same.w k S Xgv Xnv H10.out).mono ?_
        rintro e w15 ⟨rfl, S2, hK⟩
        replace XF := (XF).step hK
        replace Xp := (Xp).step hK
        replace Xq := (Xq).step hK
        replace Xgd := (Xgd).step hK
        replace Xgu := (Xgu).step hK
        replace Xgv := (Xgv).step hK
        replace Xgw := (Xgw).step hK
        replace Xm1 := (Xm1).step hK
        replace Xm2 := (Xm2).step hK
        replace Xgs := (Xgs).step hK
        replace Xnu := (Xnu).step hK
        replace Xnv := (Xnv).step hK
        clear hK S
        have S := S2
        clear S2
        go_wp2_with fail
        have b0 := S.keep BK0.out
        replace XF := XF.step (Stp.drew _ _)
        replace Xp := Xp.step (Stp.drew _ _)
        replace Xq := Xq.step (Stp.drew _ _)
        replace Xgd := Xgd.step (Stp.drew _ _)
        replace Xgu := Xgu.step (Stp.drew _ _)
        replace Xgv := Xgv.step (Stp.drew _ _)
        replace Xgw := Xgw.step (Stp.drew _ _)
        replace Xm1 := Xm1.step (Stp.drew _ _)
        replace Xm2 := Xm2.step (Stp.drew _ _)
        replace Xgs := Xgs.step (Stp.drew _ _)
        replace Xnu := Xnu.step (Stp.drew _ _)
        replace Xnv := Xnv.step (Stp.drew _ _)
        replace S := S.drew
        go_region_held3 (fun W => W.cell? ⟨w.heap.size, 0, none⟩ = some (.int .i64 p) ∧ W.cell? ⟨w.heap.size, 1, none⟩ = some (.int .i64 m) ∧ W.cell? ⟨w.heap.size, 2, none⟩ = some (.slice A md.length c))
          (first | exact b0 | exact S.keep BK0.out)
          (first
            | ((with_reducible refine (codewrightref05_Degree.w k S XF Xp H11.out).mono ?_); rintro e w16 ⟨rfl, S2, hK⟩; replace XF := XF.step hK; replace Xp := Xp.step hK; replace Xq := Xq.step hK; replace Xgd := Xgd.step hK; replace Xgu := Xgu.step hK; replace Xgv := Xgv.step hK; replace Xgw := Xgw.step hK; replace Xm1 := Xm1.step hK; replace Xm2 := Xm2.step hK; replace Xgs := Xgs.step hK; replace Xnu := Xnu.step hK; replace Xnv := Xnv.step hK; clear hK S; have S := S2; clear S2)
            | ((with_reducible refine (codewrightref05_Degree.w k S XF Xq H12.out).mono ?_); rintro e w17 ⟨rfl, S2, hK⟩; replace XF := XF.step hK; replace Xp := Xp.step hK; replace Xq := Xq.step hK; replace Xgd := Xgd.step hK; replace Xgu := Xgu.step hK; replace Xgv := Xgv.step hK; replace Xgw := Xgw.step hK; replace Xm1 := Xm1.step hK; replace Xm2 := Xm2.step hK; replace Xgs := Xgs.step hK; replace Xnu := Xnu.step hK; replace Xnv := Xnv.step hK; clear hK S; have S := S2; clear S2))
        go_wp2_with fail
        all_goals
          go_ret
          exact ⟨rfl, below_step C1.out S.B⟩
end Go.Proofs.Ytiejggpmjapajaa.PA
end
section
namespace Go.Proofs.Ytiejggpmjapajaa.PA
open Go.Joins Go.ChangeShapes Go.WideShapes Go.ChangeAt Go.RowKit Go.Proofs.YtiejggpmjapajaaW.PrintWords Go.Proofs.YtiejggpmjapajaaW.PrintLast Go.Proofs.YtiejggpmjapajaaW.PrintMore
set_option linter.unusedVariables false
theorem own : ownKnob Try.prog.godebug = none := by kernel_rfl
theorem laidOut : laidOutB Try.prog = true := by kernel_rfl
theorem reads_trod {H : Type} {enc : TypeId × Value → H} {P : Program} {w : World} {t e fuel : Nat} {v : Value} {x : DataW H × List MemPlace} (ht : P.underlying t = some (.slice e)) (he : P.underlying e = some (.int .i64)) (hc : P.cellsOf e = 1)
    (h : DataW.trod enc P w 0 (fun _ => true) true fuel t [v] = some x) : ∃ a l c, v = .slice a l.length c ∧ l.length ≤ c ∧ Kd.C (Kd.int .i64) w a l.length l := by
  rcases open_ints ht he hc h with ⟨hcs, _⟩ | ⟨a, len, cap, zs, hcs, _, hl, hm, hz, _, hcell, hwz⟩
  · injection hcs with hcs _
    subst hcs
    exact ⟨none, [], 0, rfl, Nat.le_refl _, Kd.C_nil _ _⟩
  · injection hcs with hcs _
    subst hcs
    have hz' : zs.length = cap := by simpa using hz
    obtain ⟨l, hl', hr, _, _, hcc⟩ := ReadsInt.ofRowC (k := .i64) (w := w) (a := some a) (len := len) (cap := cap) (zs := zs) (.inr ⟨a, rfl, hl, hm, hz', hcell, hwz⟩)
    subst hl'
    exact ⟨some a, l, cap, rfl, hcc, Kd.C_of_reads (d := (0 : Int)) (h1 := fun _ => rfl) hr⟩
theorem reads_field {H : Type} {enc : TypeId × Value → H} {w : World} {v : Value} {d : DataW H} {p : List MemPlace} (hv : Value.okWide Try.prog w .any 0 24 v) (h : DataW.Trod enc Try.prog w 0 (fun _ => true) true 24 v d p) :
    ∃ P M a l c, v = .agg #[.int .i64 P, .int .i64 M, .slice a l.length c] ∧ l.length ≤ c ∧ Kd.C (Kd.int .i64) w a l.length l := by
  obtain ⟨v0, v1, v2, y0, y1, y2, n, rfl, _, _, h0, h1, h2⟩ := open_agg3 Try.underlying24 (by kernel_rfl) (by kernel_rfl) hv h
  obtain ⟨n0, e0, _⟩ := DataW.trod_int Try.underlying3 h0
  obtain ⟨n1, e1, _⟩ := DataW.trod_int Try.underlying3 h1
  obtain ⟨a, l, c, rfl, hc, hC⟩ := reads_trod Try.underlying22 Try.underlying3 (by kernel_rfl) h2
  injection e0 with e0
  injection e1 with e1
  subst e0
  subst e1
  exact ⟨_, _, a, l, c, rfl, hc, hC⟩
end Go.Proofs.Ytiejggpmjapajaa.PA
end
section
namespace Go.Proofs.Ytiejggpmjapajaa.polyBezouts
open Go.Joins Go.ChangeShapes Go.WideShapes Go.ChangeAt Go.RowKit Go.Proofs.YtiejggpmjapajaaW.PrintWords Go.Proofs.YtiejggpmjapajaaW.PrintLast Go.Proofs.YtiejggpmjapajaaW.PrintMore Go.Proofs.Ytiejggpmjapajaa.PA
set_option linter.unusedVariables false
set_option maxRecDepth 100000 in
theorem lifted (os : Os) (started : os.Started) (H : Type) (enc : TypeId × Value → H) :
    ReturnsInHanded {} Try.checked os 9 .any (Rows.polyBezoutsSpec.pre6 enc Try.prog Try.f9 Rows.polyBezoutsRow.domain false) (Rows.polyBezoutsSpec.post enc Try.prog Try.f9 false true false false) := by
  refine returnsInHanded_of_change_sized (C := Try.checked) own started (by kernel_rfl) Try.func9
    (ChangeSpec.witness6 (enc := enc) (C := Try.checked) false ⟨#[], #[.agg #[.int .i64 0, .int .i64 0, .slice none 0 0], .slice none 0 0, .slice none 0 0], []⟩ 8 (by kernel_rfl) (by kernel_rfl) (by kernel_rfl) (by kernel_rfl)) ?_
  intro W base args ds gs before hval0 hW hcnd hsz0 _
  have hval : ∀ (j : Nat) t v, Try.f9.params[j]? = some t → args[j]? = some v → Value.okWide Try.prog W .any base t v := hval0
  have hW' := hW
  obtain ⟨p, q, hA0, hV, rfl, hfz, hnd⟩ := hW
  have hA : DataW.TrodAll enc Try.prog W 0 (fun _ => true) true Try.f9.params.toList args.toList ds p := hA0
  rw [Try.params9] at hA hval
  obtain ⟨v0, vs0, d0, ds0, p0, q0, hargs, rfl, rfl, h0, r0⟩ := trodAll_cons hA
  obtain ⟨v1, vs1, d1, ds1, p1, q1, rfl, rfl, rfl, h1, r1⟩ := trodAll_cons r0
  obtain ⟨v2, vs2, d2, ds2, p2, q2, rfl, rfl, rfl, h2, r2⟩ := trodAll_cons r1
  obtain ⟨rfl, rfl, rfl⟩ := trodAll_nil r2
  obtain rfl : args = #[v0, v1, v2] := by cases args; simp_all
  obtain ⟨rfl, rfl⟩ := trodVars_none hV
  have k0 := h0
  have lt0 : ∀ x ∈ p0, x.block < W.heap.size := by obtain ⟨m, hm⟩ := k0; exact DataW.trod_lt m _ _ _ hm
  obtain ⟨P0, M0, A0, l0, c0, rfl, hc0, hC0⟩ := reads_field (hval 0 24 v0 rfl rfl) h0
  have k1 := h1
  have lt1 : ∀ x ∈ p1, x.block < W.heap.size := by obtain ⟨m, hm⟩ := k1; exact DataW.trod_lt m _ _ _ hm
  obtain ⟨A1, l1, c1, rfl, hc1, hC1⟩ : ∃ a l c, v1 = .slice a l.length c ∧ l.length ≤ c ∧ Kd.C (Kd.int .i64) W a l.length l := by
    obtain ⟨a, n, c, rfl⟩ := okWide_slice Try.underlying22 (hval 1 22 v1 rfl rfl)
    obtain ⟨fuel, hf⟩ := h1
    exact reads_trod Try.underlying22 Try.underlying3 (by kernel_rfl) hf
  have k2 := h2
  have lt2 : ∀ x ∈ p2, x.block < W.heap.size := by obtain ⟨m, hm⟩ := k2; exact DataW.trod_lt m _ _ _ hm
  obtain ⟨A2, l2, c2, rfl, hc2, hC2⟩ : ∃ a l c, v2 = .slice a l.length c ∧ l.length ≤ c ∧ Kd.C (Kd.int .i64) W a l.length l := by
    obtain ⟨a, n, c, rfl⟩ := okWide_slice Try.underlying22 (hval 2 22 v2 rfl rfl)
    obtain ⟨fuel, hf⟩ := h2
    exact reads_trod Try.underlying22 Try.underlying3 (by kernel_rfl) hf
  clear hA0 hval0 hsz0
  refine (PolyBezouts_calls P0 M0 A0 c0 l0 A1 c1 l1 A2 c2 l2 W hC0 hc0 hC1 hc1 hC2 hc2).mono fun e W' ⟨he, bel⟩ => ?_
  subst he
  exact ⟨_, rfl, _, _, _, [], _, [], hW', trodAll_mk1 (shut_bool Try.underlying4 _), (trodAll_cons_mk (Below.trod laidOut (by kernel_rfl) (of_decide_eq_true (by kernel_rfl)) k0 bel lt0) (trodAll_cons_mk (Below.trod laidOut (by kernel_rfl) (of_decide_eq_true (by kernel_rfl)) k1 bel lt1) (trodAll_cons_mk (Below.trod laidOut (by kernel_rfl) (of_decide_eq_true (by kernel_rfl)) k2 bel lt2) trodAll_mk0))), rfl, bel.frame _, fun h => by cases h⟩
theorem over : Rows.polyBezoutsRow.holds Try.pinned (OpenSpec.ofChange Rows.polyBezoutsSpec) :=
  OpenClaim.holds_of_wide 9 Try.f9 rfl rfl rfl rfl rfl rfl rfl ⟨rfl, rfl, rfl, rfl, rfl⟩ rfl rfl rfl rfl rfl (by kernel_rfl) Try.func9 (by kernel_rfl)
    (of_decide_eq_true (by kernel_rfl)) (by unfold Func.isWrapper; first | (rw [if_pos (by decide +kernel)]; kernel_rfl) | (rw [if_neg (by decide +kernel)]; exact ⟨rfl, rfl⟩))
    (fun os started H enc _ => lifted os started H enc)
end Go.Proofs.Ytiejggpmjapajaa.polyBezouts
namespace Go.Proofs.Ytiejggpmjapajaa
theorem polyBezouts_holds : Rows.PolyBezoutsSaid := polyBezouts.over
end Go.Proofs.Ytiejggpmjapajaa
end
