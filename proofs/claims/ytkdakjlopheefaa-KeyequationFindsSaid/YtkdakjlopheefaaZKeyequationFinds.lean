/- Proved: for every input the law KeyequationFinds returns true and leaves its arguments as they were; no conditions. Part 7 of 7 of the proof. -/
import Derived.Test.YtkdakjlopheefaaZKeyequationFinds5
import Derived.Test.YtkdakjlopheefaaRows
import Derived.WalkKit
import Derived.ProofKit
import Derived.OpenShut
import Derived.ShutString
import Derived.ChangeOld
import Derived.Below
import Derived.SizedLaws
import Derived.Lib.SmallJoins
import Derived.Deep.Matrix
set_option linter.unusedSectionVars false
set_option linter.unusedSimpArgs false
set_option linter.unusedVariables false
section
namespace Go.Proofs.Ytkdakjlopheefaa.PA
open Alg Go.RowKit Go.Proofs.YtkdakjlopheefaaW.PrintWords Go.Proofs.YtkdakjlopheefaaW.PrintLast Go.Proofs.YtkdakjlopheefaaW.PrintMore
set_option linter.unusedVariables false
set_option maxHeartbeats 4000000 in
set_option maxRecDepth 100000 in
theorem KeyequationFinds_calls (P M : Int) (A : Option Addr) (c : Nat) (md : List Int) (Ap : Option Addr) (cp : Nat) (lp : List Int) (Aq : Option Addr) (cq : Nat) (lq : List Int) (Au : Option Addr) (cu : Nat) (lu : List Int) (ar : Int) (w : World) (hr : Kd.C (Kd.int .i64) w A md.length md) (hc : md.length ≤ c) (hrp : Kd.C (Kd.int .i64) w Ap lp.length lp) (hcp : lp.length ≤ cp) (hrq : Kd.C (Kd.int .i64) w Aq lq.length lq) (hcq : lq.length ≤ cq) (hru : Kd.C (Kd.int .i64) w Au lu.length lu) (hcu : lu.length ≤ cu) (hir : (Lit.int .i64 ar).wf = true) :
    Calls Try.prog 8 #[.agg #[.int .i64 P, .int .i64 M, .slice A md.length c], .agg #[.slice Ap lp.length cp, .slice Aq lq.length cq, .slice Au lu.length cu], .int .i64 ar] w fun e w' => e = .returned (.bool true) ∧ Below w.heap.size w w' := by
  have HR := Aside0.mk hr
  have HC := Aside0.mk hc
  have HRp := Aside0.mk hrp
  have HCp := Aside0.mk hcp
  have HRq := Aside0.mk hrq
  have HCq := Aside0.mk hcq
  have HRu := Aside0.mk hru
  have HCu := Aside0.mk hcu
  have HIr := Aside0.mk hir
  clear hr hc  hrp hcp hrq hcq hru hcu hir
  go_enter Try.func8, Try.ntmps8
  go_wp2_with fail
  refine (alive_calls _).mono ?_
  rintro e w2 ⟨rfl, hb⟩
  have HB := Aside0.mk (below_step (below_alloc (below_alloc (Below.refl _ w) _) _) hb)
  have BK := Aside0.mk (blk_below (blk_alloc (blk_new w _) _) hb)
  have BV1 := Aside0.mk (blk_below (blk_new1 w _ _) hb)
  clear hb
  have b0 := (blk_cell BK.out 0).trans rfl
  have b1 := (blk_cell BK.out 1).trans rfl
  have b2 := (blk_cell BK.out 2).trans rfl
  go_wp2_with fail
  refine (made_calls P M A c md _ (Kd.C_below HR.out HB.out) HC.out).mono ?_
  rintro e w3 ⟨v, rfl, h⟩
  rcases h with ⟨rfl, hb⟩ | ⟨g, rfl, W0, hb, hb2, p, m, ex, lg, rfl, rfl, ⟨ht, hG⟩, hI⟩
  · have HB2 := Aside0.mk (below_step HB.out hb)
    have v10 := (blk_cell (blk_below BV1.out hb) 0).trans rfl
    have v11 := (blk_cell (blk_below BV1.out hb) 1).trans rfl
    have v12 := (blk_cell (blk_below BV1.out hb) 2).trans rfl
    clear hb
    go_wp2
    go_quiet (fail)
    go_wp2
    go_ret
    exact ⟨rfl, pw_below_drewN HB2.out nq⟩
  · have C1 := Aside0.mk (below_step HB.out hb)
    have BK0 := Aside0.mk (blk_below BK.out hb)
    have S : St W0 w3 g p m md _ ex lg := ⟨hI, hb2⟩
    have HGO := Aside0.mk hG
    have XF := S.arg (Kd.C_below HR.out C1.out) HC.out
    have Xp := S.arg (Kd.C_below HRp.out C1.out) HCp.out
    have Xq := S.arg (Kd.C_below HRq.out C1.out) HCq.out
    have Xu := S.arg (Kd.C_below HRu.out C1.out) HCu.out
    have v10 := (blk_cell (blk_below (blk_below BV1.out hb) hb2) 0).trans rfl
    have v11 := (blk_cell (blk_below (blk_below BV1.out hb) hb2) 1).trans rfl
    have v12 := (blk_cell (blk_below (blk_below BV1.out hb) hb2) 2).trans rfl
    clear hb hb2 hI hG b0 b1 b2 HB BK BV1 HR HC HRp HCp HRq HCq HRu HCu
    go_wp2
    go_quiet (fail)
    replace XF := XF.step (Stp.drewN w3 nq g)
    replace Xp := Xp.step (Stp.drewN w3 nq g)
    replace Xq := Xq.step (Stp.drewN w3 nq g)
    replace Xu := Xu.step (Stp.drewN w3 nq g)
    replace S := S.drewN nq
    clear v10 v11 v12
    generalize w3.drewN nq = w3b at *
    by_cases cs : ∀ l, l ∈ [lp, lq, lu] → l.length ≤ 20
    rotate_left
    · have cb := Aside0.mk (decide_eq_false cs)
      go_wp2_with fail
      refine (short_w S [(Ap, cp, lp), (Aq, cq, lq), (Au, cu, lu)] _ (by simp) (fun x hx => by rcases List.mem_cons.1 hx with rfl | hx; exact Xp; rcases List.mem_cons.1 hx with rfl | hx; exact Xq; rcases List.mem_cons.1 hx with rfl | hx; exact Xu; exact absurd hx List.not_mem_nil) false cb.out).mono ?_
      rintro e w4 ⟨rfl, S2, hK⟩
      replace XF := XF.step hK
      replace Xp := Xp.step hK
      replace Xq := Xq.step hK
      replace Xu := Xu.step hK
      clear hK S cb
      have S := S2
      clear S2
      go_wp2
      go_ret
      exact ⟨rfl, below_step C1.out S.B⟩
    · have cb := Aside0.mk (decide_eq_true cs)
      go_wp2_with fail
      refine (short_w S [(Ap, cp, lp), (Aq, cq, lq), (Au, cu, lu)] _ (by simp) (fun x hx => by rcases List.mem_cons.1 hx with rfl | hx; exact Xp; rcases List.mem_cons.1 hx with rfl | hx; exact Xq; rcases List.mem_cons.1 hx with rfl | hx; exact Xu; exact absurd hx List.not_mem_nil) true cb.out).mono ?_
      rintro e w4 ⟨rfl, S2, hK⟩
      replace XF := XF.step hK
      replace Xp := Xp.step hK
      replace Xq := Xq.step hK
      replace Xu := Xu.step hK
      clear hK S cb
      have S := S2
      clear S2
      have hlp : lp.length ≤ 20 := cs _ (by simp)
      have hlq : lq.length ≤ 20 := cs _ (by simp)
      have hlu : lu.length ≤ 20 := cs _ (by simp)
      have HLS := Aside0.mk cs
      clear cs
      obtain ⟨n2, hn2⟩ : ∃ n : Int, n = 2 * (lp.length : Int) := ⟨_, rfl⟩
      have f0 : IntKind.i64.wrap (2 * (lp.length : Int)) = n2 := by rw [hn2, i64_w, w64 (by omega)]
      by_cases hcA : ar < 1
      · skip
        have d0 : decide (ar < 1) = true := decide_eq_true (by omega)
        go_wp2
        go_ret
        exact ⟨rfl, below_step C1.out S.B⟩
      by_cases hcA : 24 < ar
      · skip
        have d0 : decide (ar < 1) = false := decide_eq_false (by omega)
        have d1 : decide (24 < ar) = true := decide_eq_true (by omega)
        go_wp2
        go_ret
        exact ⟨rfl, below_step C1.out S.B⟩
      by_cases hcA : ar < n2
      · skip
        have d0 : decide (ar < 1) = false := decide_eq_false (by omega)
        have d1 : decide (24 < ar) = false := decide_eq_false (by omega)
        have d2 : decide (ar < n2) = true := decide_eq_true (by omega)
        go_wp2
        go_ret
        exact ⟨rfl, below_step C1.out S.B⟩
      have d0 : decide (ar < 1) = false := decide_eq_false (by omega)
      have d1 : decide (24 < ar) = false := decide_eq_false (by omega)
      have d2 : decide (ar < n2) = false := decide_eq_false (by omega)
      obtain ⟨k, b, h1, h2, hz⟩ := kfin_pure HGO.out lp lq lu ar hlp hlq hlu (by omega) (by omega) (by omega)
      have H1 := Aside0.mk h1
      have H2 := Aside0.mk h2
      have HZ := Aside0.mk hz
      clear h1 h2 hz HGO hn2
      cases b
      · skip
        have b0 := (S.box BK0.out 0).trans rfl
        have b1 := (S.box BK0.out 1).trans rfl
        have b2 := (S.box BK0.out 2).trans rfl
        go_wp2_with fail
        refine (codewrightlaw38_errors.w k S XF Xp Xq H1.out).mono ?_
        rintro e w5 ⟨rfl, S2, hK⟩
        clear b0 b1 b2
        replace XF := (XF).step hK
        replace Xp := (Xp).step hK
        replace Xq := (Xq).step hK
        replace Xu := (Xu).step hK
        clear hK S
        have S := S2
        clear S2
        go_wp2
        go_ret
        exact ⟨rfl, below_step C1.out S.B⟩
      · obtain ⟨s, L, V, h3, h4, h5, h6, h7, h8, h9, h10⟩ := HZ.out rfl
        have H3 := Aside0.mk h3
        have H4 := Aside0.mk h4
        have H5 := Aside0.mk h5
        have H6 := Aside0.mk h6
        have H7 := Aside0.mk h7
        have H8 := Aside0.mk h8
        have H9 := Aside0.mk h9
        have H10 := Aside0.mk h10
        clear h3 h4 h5 h6 h7 h8 h9 h10 HZ
        have b0 := (S.box BK0.out 0).trans rfl
        have b1 := (S.box BK0.out 1).trans rfl
        have b2 := (S.box BK0.out 2).trans rfl
        go_wp2_with fail
        refine (codewrightlaw38_errors.w k S XF Xp Xq H1.out).mono ?_
        rintro e w5 ⟨rfl, S2, hK⟩
        clear b0 b1 b2
        replace XF := (XF).step hK
        replace Xp := (Xp).step hK
        replace Xq := (Xq).step hK
        replace Xu := (Xu).step hK
        clear hK S
        have S := S2
        clear S2
        have b0 := (S.box BK0.out 0).trans rfl
        have b1 := (S.box BK0.out 1).trans rfl
        have b2 := (S.box BK0.out 2).trans rfl
        go_wp2_with fail
        refine (codewrightref38_Syndrome.w k S XF Xp Xq H3.out).mono ?_
        rintro e w6 ⟨As, cs, rfl, Xs, S2, hK⟩
        clear b0 b1 b2
        replace XF := (XF).step hK
        replace Xp := (Xp).step hK
        replace Xq := (Xq).step hK
        replace Xu := (Xu).step hK
        clear hK S
        have S := S2
        clear S2
        go_wp2_with fail
        refine (keyequation_Solve.w k S Xs H4.out).mono ?_
        rintro e w7 ⟨AL, cL, AV, cV, rfl, XL, XV, S2, hK⟩
        replace XF := (XF).step hK
        replace Xp := (Xp).step hK
        replace Xq := (Xq).step hK
        replace Xu := (Xu).step hK
        replace Xs := (Xs).step hK
        clear hK S
        have S := S2
        clear S2
        clear Xs
        have b0 := (S.box BK0.out 0).trans rfl
        have b1 := (S.box BK0.out 1).trans rfl
        have b2 := (S.box BK0.out 2).trans rfl
        go_wp2_with fail
        refine (codewrightref38_Locator.w k S XF Xp H5.out).mono ?_
        rintro e w8 ⟨AM, cM, rfl, XM, S2, hK⟩
        clear b0 b1 b2
        replace XF := (XF).step hK
        replace Xp := (Xp).step hK
        replace Xq := (Xq).step hK
        replace Xu := (Xu).step hK
        replace XL := (XL).step hK
        replace XV := (XV).step hK
        clear hK S
        have S := S2
        clear S2
        go_wp2_with fail
        refine (codewrightlaw38_same.w k S XL XM H6.out).mono ?_
        rintro e w9 ⟨rfl, S2, hK⟩
        replace XF := (XF).step hK
        replace Xp := (Xp).step hK
        replace Xq := (Xq).step hK
        replace Xu := (Xu).step hK
        replace XL := (XL).step hK
        replace XV := (XV).step hK
        replace XM := (XM).step hK
        clear hK S
        have S := S2
        clear S2
        clear XM
        go_wp2
        obtain ⟨wb, hwb⟩ : ∃ x, x = w9 := ⟨_, rfl⟩
        subst hwb
        have LE : Aside0 ((0 : Int) ≤ 0 ∧ (0 : Int).toNat + lu.length = lu.length) := ⟨Int.le_refl 0, Nat.zero_add _⟩
        have YF := Aside0.mk XF
        have Yp := Aside0.mk Xp
        have Yq := Aside0.mk Xq
        have Yu := Aside0.mk Xu
        have YL := Aside0.mk XL
        have YV := Aside0.mk XV
        have T := Aside0.mk S
        have LU := Aside0.mk hlu
        have LP := Aside0.mk hlp
        clear XF Xp Xq Xu XL XV S hlp hlq hlu
        have R0 : Aside0 (Kd.R (Kd.int .i64) 3 wb wb.heap.size (fun _ => True) (.slice none 0 0) (wants ((p : Int) ^ m) lp lu (0 : Int).toNat)) := ⟨Kd.R_nil _ _ _ _ _⟩
        have HBB : Aside0 (Below wb.heap.size wb wb) := ⟨Below.refl _ _⟩
        go_loopg [14, 90] lu.length (fun kq v14 v90 W => ∃ (i : Int) (Aw : Option Addr) (cw : Nat), v14 = .slice Aw (wants ((p : Int) ^ m) lp lu i.toNat).length cw ∧ v90 = .int .i64 i ∧ Aside0 (0 ≤ i ∧ i.toNat + kq = lu.length) ∧ Aside0 (Kd.R (Kd.int .i64) 3 W wb.heap.size (fun _ => True) (.slice Aw (wants ((p : Int) ^ m) lp lu i.toNat).length cw) (wants ((p : Int) ^ m) lp lu i.toNat)) ∧ Aside0 (Below wb.heap.size wb W))
        case atStart => exact ⟨0, none, 0, rfl, rfl, LE, R0, HBB⟩
        case round =>
          clear LE R0 HBB
          obtain ⟨i, Aw, cw, rfl, rfl, HE, HR, HBB⟩ := hrel
          obtain ⟨ko, hko⟩ : ∃ x, x = gk := ⟨gk, rfl⟩
          subst hko
          obtain ⟨ws, hws⟩ : ∃ x, x = wants ((p : Int) ^ m) lp lu i.toNat := ⟨_, rfl⟩
          rw [← hws] at HR
          rw [← hws]
          have HWS := Aside0.mk hws
          clear hws
          by_cases ct : i < (lu.length : Int)
          · have ctb : decide (i < (lu.length : Int)) = true := decide_eq_true ct
            obtain ⟨a, ha⟩ : ∃ a, rd lu i = a := ⟨_, rfl⟩
            have HI := Aside0.mk (show 0 ≤ i ∧ i < lu.length ∧ rd lu i = a from ⟨HE.out.1, ct, ha⟩)
            have HII := Aside0.mk (show 0 ≤ i ∧ i < lu.length ∧ i.toNat + ko = lu.length from ⟨HE.out.1, ct, HE.out.2⟩)
            have Xu := Yu.out.step (Stp.of_below HBB.out g)
            obtain ⟨ad, rfl, hz⟩ := Xu.at i HI.out.1 HI.out.2.1
            have cc := Xu.cell HI
            have p1 := eq_true HI.out.1
            have p2 := eq_true HI.out.2.1
            clear hz ha HE Xu
            have LI : Aside0 ((0 : Int) ≤ 0 ∧ (0 : Int).toNat + lp.length = lp.length) := ⟨Int.le_refl 0, Nat.zero_add _⟩
            clear ct
            go_wp2
            clear cc
            go_loopg [17, 97] lp.length (fun kq v17 v97 W => ∃ (j : Int), v17 = .bool (inAny ((p : Int) ^ m) lp a j.toNat) ∧ v97 = .int .i64 j ∧ Aside0 (0 ≤ j ∧ j.toNat + kq = lp.length) ∧ Aside0 (Kd.R (Kd.int .i64) 3 W wb.heap.size (fun _ => True) (.slice Aw ws.length cw) ws) ∧ Aside0 (Below wb.heap.size wb W))
            case atStart => exact ⟨0, rfl, rfl, LI, HR, HBB⟩
            case round =>
              clear LI HR HBB
              obtain ⟨j, rfl, rfl, HE, HR, HBB⟩ := hrel
              by_cases cj : j < (lp.length : Int)
              · have cjb : decide (j < (lp.length : Int)) = true := decide_eq_true cj
                obtain ⟨x, hx⟩ : ∃ x, rd lp j = x := ⟨_, rfl⟩
                have HJ := Aside0.mk (show 0 ≤ j ∧ j < lp.length ∧ rd lp j = x from ⟨HE.out.1, cj, hx⟩)
                have HJJ := Aside0.mk (show 0 ≤ j ∧ j < lp.length ∧ j.toNat + gk = lp.length from ⟨HE.out.1, cj, HE.out.2⟩)
                have HNX : Aside0 (inAny ((p : Int) ^ m) lp a (j + 1).toNat = (inAny ((p : Int) ^ m) lp a j.toNat || (inq ((p : Int) ^ m) a == x))) := ⟨by
                  rw [show (j + 1).toNat = j.toNat + 1 from by have := HE.out; omega, inAny_succ, ← hx]
                  rfl⟩
                have Xp := Yp.out.step (Stp.of_below HBB.out g)
                obtain ⟨ap, rfl, hz⟩ := Xp.at j HJ.out.1 HJ.out.2.1
                have cc := Xp.cell HJ
                have p3 := eq_true HJ.out.1
                have p4 := eq_true HJ.out.2.1
                clear hz hx HE Xp cj
                cases hb : inAny ((p : Int) ^ m) lp a j.toNat
                · rw [hb] at HNX
                  clear hb
                  have XF := YF.out.step (Stp.of_below HBB.out g)
                  have S := T.out.below HBB.out
                  have b0 := (S.box BK0.out 0).trans rfl
                  have b1 := (S.box BK0.out 1).trans rfl
                  have b2 := (S.box BK0.out 2).trans rfl
                  clear S
                  go_wp2_with fail
                  refine (codewrightref04_In.calls k _ _ A c md a _ _ XF.C XF.cp (H2.out a)).mono ?_
                  rintro e w20 ⟨rfl, hb⟩
                  have HR2 := Aside0.mk (Kd.R_below HR.out hb)
                  have HB2 := Aside0.mk (below_weaken HBB.out HBB.out.size hb)
                  clear hb XF b0 b1 b2 cc
                  go_wp2
                  go_roundg (gk - 1)
                  case measure =>
                    have := HJJ.out
                    omega
                  case rel =>
                    have h2 := HJJ.out
                    have h9 := LP.out
                    refine ⟨j + 1, ?_, (by first | rfl | rw [w64 (n := j + 1) (by omega)]), ⟨by omega, by omega⟩, HR2, HB2⟩
                    rw [HNX.out, Bool.false_or]
                    try rfl
                · rw [hb] at HNX
                  clear hb
                  go_wp2
                  go_roundg (gk - 1)
                  case measure =>
                    have := HJJ.out
                    omega
                  case rel =>
                    have h2 := HJJ.out
                    have h9 := LP.out
                    refine ⟨j + 1, ?_, (by first | rfl | rw [w64 (n := j + 1) (by omega)]), ⟨by omega, by omega⟩, HR, HBB⟩
                    rw [HNX.out, Bool.true_or]
              · have cjb : decide (j < (lp.length : Int)) = false := decide_eq_false cj
                have ej : j.toNat = lp.length := by have := HE.out; omega
                rw [ej]
                have HNX : Aside0 (wants ((p : Int) ^ m) lp lu (i + 1).toNat = if inAny ((p : Int) ^ m) lp a lp.length = true then ws ++ [i] else ws) := ⟨by
                  have h2 := HII.out
                  rw [show (i + 1).toNat = i.toNat + 1 from by omega, wants_succ, ← HI.out.2.2, HWS.out, show ((i.toNat : Nat) : Int) = i from by omega]
                  rfl⟩
                clear ej HE cj
                cases hb : inAny ((p : Int) ^ m) lp a lp.length
                · rw [hb] at HNX
                  clear hb
                  go_wp2
                  go_roundg (ko - 1)
                  case measure =>
                    have := HII.out
                    omega
                  case rel =>
                    have h2 := HII.out
                    have h9 := LU.out
                    have h3 := HNX.out
                    rw [if_neg (by decide)] at h3
                    refine ⟨i + 1, Aw, cw, by rw [h3], (by first | rfl | rw [w64 (n := i + 1) (by omega)]), ⟨by omega, by omega⟩, ?_, HBB⟩
                    rw [h3]; exact HR
                · rw [hb] at HNX
                  clear hb
                  have LW : Aside0 (ws.length ≤ 20) := ⟨by
                    have h2 := idxs_len (fun t => inAny ((p : Int) ^ m) lp (lu.getD t 0) lp.length) i.toNat
                    have h3 := HWS.out
                    have h4 := LU.out
                    have h5 := HII.out
                    rw [h3]
                    show (idxs _ _).length ≤ 20
                    omega⟩
                  go_wp2_with ((with_reducible refine gate_builtin (b := .append) (xs := #[.tmp 111, .tmp 113]) rfl ?_); refine Kd.R_append (Kd.int .i64) wb.heap.size rfl (.tmp 111) (.tmp 113) 22 3 (.int .i64 0) 8 rfl Try.underlying22 info3 rfl (by decide) (by omega) _ ws i [.int .i64 i] (fun _ => True) (fun _ => False) rfl rfl rfl (fun _ hk => hk.elim) (fun _ _ => trivial) HR.out HBB.out HBB.out.size (by have := LW.out; omega) ?_; intro v2 w21 ho hb21 hg_ hat_; clear hg_ hat_; have HO := Aside0.mk ho; have HB2 := Aside0.mk hb21; clear ho hb21)
                  obtain ⟨A2, c2, rfl, hc2, hC2⟩ := Kd.R_reads HO.out
                  clear hc2 hC2
                  go_wp2
                  go_roundg (ko - 1)
                  case measure =>
                    have := HII.out
                    omega
                  case rel =>
                    have h2 := HII.out
                    have h9 := LU.out
                    have h3 := HNX.out
                    rw [if_pos (by trivial)] at h3
                    refine ⟨i + 1, A2, c2, by rw [h3], (by first | rfl | rw [w64 (n := i + 1) (by omega)]), ⟨by omega, by omega⟩, ?_, HB2⟩
                    rw [h3]; exact HO
          · have ctb : decide (i < (lu.length : Int)) = false := decide_eq_false ct
            have ei : i.toNat = lu.length := by have := HE.out; omega
            have HW2 := Aside0.mk (show ws = wants ((p : Int) ^ m) lp lu lu.length by rw [HWS.out, ei])
            clear ei ct HE
            obtain ⟨A2, c2, e2, X2⟩ := T.out.own HR.out
            have hsv := Value.slice.inj e2
            obtain ⟨rfl, _, rfl⟩ := hsv
            have hw2 := HW2.out
            subst hw2
            have S := T.out.below HBB.out
            have Xp := Yp.out.step (Stp.of_below HBB.out g)
            have Xq := Yq.out.step (Stp.of_below HBB.out g)
            have Xu := Yu.out.step (Stp.of_below HBB.out g)
            have XL := YL.out.step (Stp.of_below HBB.out g)
            have XV := YV.out.step (Stp.of_below HBB.out g)
            clear HW2 HWS HR e2 YF Yp Yq Yu YL YV T HBB
            go_wp2
            have LE : Aside0 ((0 : Int) ≤ 0 ∧ (0 : Int).toNat + lp.length = lp.length) := ⟨Int.le_refl 0, Nat.zero_add _⟩
            have Yp := Aside0.mk Xp
            have Yq := Aside0.mk Xq
            have Yu := Aside0.mk Xu
            have YL := Aside0.mk XL
            have YV := Aside0.mk XV
            have YW := Aside0.mk X2
            have T := Aside0.mk S
            clear Xp Xq Xu XL XV X2 S
            go_loopg [118] lp.length (fun kq v118 W => ∃ (i : Int), v118 = .int .i64 i ∧ Aside0 (0 ≤ i ∧ i.toNat + kq = lp.length) ∧ Aside0 (Row W g Ap cp lp) ∧ Aside0 (Row W g Aq cq lq) ∧ Aside0 (Row W g Au cu lu) ∧ Aside0 (Row W g AL cL L) ∧ Aside0 (Row W g AV cV V) ∧ Aside0 (Row W g Aw cw (wants ((p : Int) ^ m) lp lu lu.length)) ∧ Aside0 (St W0 W g p m md ((p : Int) ^ m) ex lg))
            case atStart => exact ⟨0, rfl, LE, Yp, Yq, Yu, YL, YV, YW, T⟩
            case round =>
              clear LE Yp Yq Yu YL YV YW T
              obtain ⟨i, rfl, HE, Yp, Yq, Yu, YL, YV, YW, T⟩ := hrel
              have Xp := Yp.out
              have Xq := Yq.out
              have Xu := Yu.out
              have XL := YL.out
              have XV := YV.out
              have XW := YW.out
              have S := T.out
              clear Yp Yq Yu YL YV YW T
              by_cases ct : i < (lp.length : Int)
              · have ctb : decide (i < (lp.length : Int)) = true := decide_eq_true ct
                obtain ⟨a, ha⟩ : ∃ a, rd lp i = a := ⟨_, rfl⟩
                obtain ⟨y, hy⟩ : ∃ y, rd lq i = y := ⟨_, rfl⟩
                have HI := Aside0.mk (show 0 ≤ i ∧ i < lp.length ∧ rd lp i = a from ⟨HE.out.1, ct, ha⟩)
                have HQ := Aside0.mk (show 0 ≤ i ∧ i < lq.length ∧ rd lq i = y from ⟨HE.out.1, by have := H10.out; omega, hy⟩)
                have HII := Aside0.mk (show 0 ≤ i ∧ i < lp.length ∧ i.toNat + gk = lp.length from ⟨HE.out.1, ct, HE.out.2⟩)
                have E1 : Aside0 (keyequation_Forney.f k p m md ((p : Int) ^ m) ex lg L V a = some (y, 0, (p : Int), (m : Int), (p : Int) ^ m)) := ⟨by
                  have := H7.out i.toNat (by have := HE.out; omega)
                  rw [← ha, ← hy]
                  exact this⟩
                obtain ⟨ap, rfl, hz⟩ := Xp.at i HI.out.1 HI.out.2.1
                obtain ⟨aq, rfl, hz2⟩ := Xq.at i HQ.out.1 HQ.out.2.1
                have cc := Xp.cell HI
                have p1 := eq_true HI.out.1
                have p2 := eq_true HI.out.2.1
                have p3 := eq_true HQ.out.2.1
                clear hz hz2 ha hy HE ct
                go_wp2_with fail
                refine (keyequation_Forney.w k S XL XV E1.out).mono ?_
                rintro e w30 ⟨rfl, S2, hK⟩
                replace Xp := Xp.step hK
                replace Xq := Xq.step hK
                replace Xu := Xu.step hK
                replace XL := XL.step hK
                replace XV := XV.step hK
                replace XW := XW.step hK
                clear hK S cc
                have S := S2
                clear S2
                have cc := Xq.cell HQ
                go_wp2
                go_roundg (gk - 1)
                case measure =>
                  have := HII.out
                  omega
                case rel =>
                  have h2 := HII.out
                  have h9 := LP.out
                  exact ⟨i + 1, (by first | rfl | rw [w64 (n := i + 1) (by omega)]), ⟨by omega, by omega⟩, ⟨Xp⟩, ⟨Xq⟩, ⟨Xu⟩, ⟨XL⟩, ⟨XV⟩, ⟨XW⟩, ⟨S⟩⟩
              · have ctb : decide (i < (lp.length : Int)) = false := decide_eq_false ct
                clear ct HE
                go_wp2_with fail
                refine (keyequation_Chien.w k S XL Xu H8.out).mono ?_
                rintro e w31 ⟨AR, cR, rfl, XR, S2, hK⟩
                replace Xu := (Xu).step hK
                replace XL := (XL).step hK
                replace XW := (XW).step hK
                clear hK S
                have S := S2
                clear S2
                go_wp2_with fail
                refine (codewrightlaw38_same.w k S XR XW H9.out).mono ?_
                rintro e w32 ⟨rfl, S2, hK⟩
                replace Xu := (Xu).step hK
                replace XL := (XL).step hK
                replace XW := (XW).step hK
                replace XR := (XR).step hK
                clear hK S
                have S := S2
                clear S2
                go_wp2
                go_ret
                exact ⟨rfl, below_step C1.out S.B⟩
end Go.Proofs.Ytkdakjlopheefaa.PA
end
section
namespace Go.Proofs.Ytkdakjlopheefaa.PA
open Go.Joins Go.ChangeShapes Go.WideShapes Go.ChangeAt Go.RowKit Go.Proofs.YtkdakjlopheefaaW.PrintWords Go.Proofs.YtkdakjlopheefaaW.PrintLast Go.Proofs.YtkdakjlopheefaaW.PrintMore
set_option linter.unusedVariables false
set_option maxRecDepth 100000
theorem own : ownKnob Try.prog.godebug = none := by kernel_rfl
theorem laidOut : laidOutB Try.prog = true := by kernel_rfl
theorem reads_trod {H : Type} {enc : TypeId × Value → H} {P : Program} {w : World} {t e fuel : Nat} {v : Value} {x : DataW H × List MemPlace} (ht : P.underlying t = some (.slice e)) (he : P.underlying e = some (.int .i64)) (hc : P.cellsOf e = 1)
    (h : DataW.trod enc P w 0 (fun _ => true) true fuel t [v] = some x) : ∃ a l c, v = .slice a l.length c ∧ l.length ≤ c ∧ Kd.C (Kd.int .i64) w a l.length l := by
  rcases open_ints ht he hc h with ⟨hcs, _⟩ | ⟨a, len, cap, zs, hcs, _, hl, hm, hz, _, hcell, hwz⟩
  · injection hcs with hcs _
    subst hcs
    exact ⟨none, [], 0, rfl, Nat.le_refl _, Kd.C_nil _ _⟩
  · injection hcs with hcs _
    subst hcs
    have hz' : zs.length = cap := by simpa using hz
    obtain ⟨l, hl', hr, _, _, hcc⟩ := ReadsInt.ofRowC (k := .i64) (w := w) (a := some a) (len := len) (cap := cap) (zs := zs) (.inr ⟨a, rfl, hl, hm, hz', hcell, hwz⟩)
    subst hl'
    exact ⟨some a, l, cap, rfl, hcc, Kd.C_of_reads (d := (0 : Int)) (h1 := fun _ => rfl) hr⟩
theorem reads_field {H : Type} {enc : TypeId × Value → H} {w : World} {v : Value} {d : DataW H} {p : List MemPlace} (hv : Value.okWide Try.prog w .any 0 24 v) (h : DataW.Trod enc Try.prog w 0 (fun _ => true) true 24 v d p) :
    ∃ P M a l c, v = .agg #[.int .i64 P, .int .i64 M, .slice a l.length c] ∧ l.length ≤ c ∧ Kd.C (Kd.int .i64) w a l.length l := by
  obtain ⟨v0, v1, v2, y0, y1, y2, n, rfl, _, _, h0, h1, h2⟩ := open_agg3 Try.underlying24 (by kernel_rfl) (by kernel_rfl) hv h
  obtain ⟨n0, e0, _⟩ := DataW.trod_int Try.underlying3 h0
  obtain ⟨n1, e1, _⟩ := DataW.trod_int Try.underlying3 h1
  obtain ⟨a, l, c, rfl, hc, hC⟩ := reads_trod Try.underlying22 Try.underlying3 (by kernel_rfl) h2
  injection e0 with e0
  injection e1 with e1
  subst e0
  subst e1
  exact ⟨_, _, a, l, c, rfl, hc, hC⟩
theorem open_arrs {H : Type} {enc : TypeId × Value → H} {P : Program} {w : World} {t e n : Nat} {v : Value} {d : DataW H} {p : List MemPlace} (ht : P.underlying t = some (.array n e)) (hc : P.cellsOf e = 1) (hn : P.cellsOf t = n)
    (hv : Value.okWide P w .any 0 t v) (h : DataW.Trod enc P w 0 (fun _ => true) true t v d p) : ∃ (cs : Array Value) (m : Nat), v = .agg cs ∧ cs.size = n ∧ ∀ (i : Nat) (x : Value), cs[i]? = some x → ∃ y, DataW.trod enc P w 0 (fun _ => true) true m e [x] = some y := by
  simp only [Value.okWide, ht] at hv
  obtain ⟨cs, rfl, hs, _⟩ := hv
  obtain ⟨fuel, hf⟩ := h
  obtain ⟨xs, m, _, _, hl, hx, hi⟩ := DataW.trod_array ht hf
  refine ⟨cs, m, rfl, hs.trans hn, fun i x hix => ?_⟩
  have hin : i < n := by
    have := (Array.getElem?_eq_some_iff.1 hix).1
    omega
  have h1 := hi i hin
  rw [hc, Nat.mul_one] at h1
  have h2 : (List.drop i cs.toList).take 1 = [x] := by
    have h3 : i < cs.toList.length := by rw [Array.length_toList]; omega
    have h4 : cs.toList[i] = x := by
      have := (Array.getElem?_eq_some_iff.1 hix).2
      simpa using this
    rw [List.drop_eq_getElem_cons h3, h4]; rfl
  have h5 : Value.cells (.agg cs) = cs := rfl
  rw [h5, h2] at h1
  rw [h1]
  exact ⟨_, List.getElem?_eq_getElem (by omega)⟩
theorem reads_arr3 {H : Type} {enc : TypeId × Value → H} {P : Program} {w : World} {t e i : Nat} {v : Value} {d : DataW H} {p : List MemPlace} (ht : P.underlying t = some (.array 3 e)) (hc : P.cellsOf e = 1) (hn : P.cellsOf t = 3) (he : P.underlying e = some (.slice i)) (hi : P.underlying i = some (.int .i64)) (hci : P.cellsOf i = 1)
    (hv : Value.okWide P w .any 0 t v) (h : DataW.Trod enc P w 0 (fun _ => true) true t v d p) : ∃ a l c a' l' c' a2 l2 c2, v = .agg #[.slice a l.length c, .slice a' l'.length c', .slice a2 l2.length c2] ∧ (l.length ≤ c ∧ Kd.C (Kd.int .i64) w a l.length l) ∧ (l'.length ≤ c' ∧ Kd.C (Kd.int .i64) w a' l'.length l') ∧ (l2.length ≤ c2 ∧ Kd.C (Kd.int .i64) w a2 l2.length l2) := by
  obtain ⟨cs, m, rfl, hs, hr⟩ := open_arrs ht hc hn hv h
  obtain ⟨x, y, z, rfl⟩ := array3 hs
  obtain ⟨_, h0⟩ := hr 0 x rfl
  obtain ⟨_, h1⟩ := hr 1 y rfl
  obtain ⟨_, h2⟩ := hr 2 z rfl
  obtain ⟨a, l, c, rfl, b0, b1⟩ := reads_trod he hi hci h0
  obtain ⟨a', l', c', rfl, b2, b3⟩ := reads_trod he hi hci h1
  obtain ⟨a2, l2, c2, rfl, b4, b5⟩ := reads_trod he hi hci h2
  exact ⟨a, l, c, a', l', c', a2, l2, c2, rfl, ⟨b0, b1⟩, ⟨b2, b3⟩, b4, b5⟩
end Go.Proofs.Ytkdakjlopheefaa.PA
end
section
namespace Go.Proofs.Ytkdakjlopheefaa.keyequationFinds
open Go.Joins Go.ChangeShapes Go.WideShapes Go.ChangeAt Go.RowKit Go.Proofs.YtkdakjlopheefaaW.PrintWords Go.Proofs.YtkdakjlopheefaaW.PrintLast Go.Proofs.YtkdakjlopheefaaW.PrintMore Go.Proofs.Ytkdakjlopheefaa.PA
set_option linter.unusedVariables false
set_option maxRecDepth 100000 in
theorem lifted (os : Os) (started : os.Started) (H : Type) (enc : TypeId × Value → H) :
    ReturnsInHanded {} Try.checked os 8 .any (Rows.keyequationFindsSpec.pre6 enc Try.prog Try.f8 Rows.keyequationFindsRow.domain false) (Rows.keyequationFindsSpec.post enc Try.prog Try.f8 false true false false) := by
  refine returnsInHanded_of_change_sized (C := Try.checked) own started (by kernel_rfl) Try.func8
    (ChangeSpec.witness6 (enc := enc) (C := Try.checked) false ⟨#[], #[.agg #[.int .i64 0, .int .i64 0, .slice none 0 0], .agg #[.slice none 0 0, .slice none 0 0, .slice none 0 0], .int .i64 0], []⟩ 8 (by kernel_rfl) (by kernel_rfl) (by kernel_rfl) (by kernel_rfl)) ?_
  intro W base args ds gs before hval0 hW hcnd hsz0 _
  have hval : ∀ (j : Nat) t v, Try.f8.params[j]? = some t → args[j]? = some v → Value.okWide Try.prog W .any base t v := hval0
  have hW' := hW
  obtain ⟨p, q, hA0, hV, rfl, hfz, hnd⟩ := hW
  have hA : DataW.TrodAll enc Try.prog W 0 (fun _ => true) true Try.f8.params.toList args.toList ds p := hA0
  rw [Try.params8] at hA hval
  obtain ⟨v0, vs0, d0, ds0, p0, q0, hargs, rfl, rfl, h0, r0⟩ := trodAll_cons hA
  obtain ⟨v1, vs1, d1, ds1, p1, q1, rfl, rfl, rfl, h1, r1⟩ := trodAll_cons r0
  obtain ⟨v2, vs2, d2, ds2, p2, q2, rfl, rfl, rfl, h2, r2⟩ := trodAll_cons r1
  obtain ⟨rfl, rfl, rfl⟩ := trodAll_nil r2
  obtain rfl : args = #[v0, v1, v2] := by cases args; simp_all
  obtain ⟨rfl, rfl⟩ := trodVars_none hV
  have k0 := h0
  have lt0 : ∀ x ∈ p0, x.block < W.heap.size := by obtain ⟨m, hm⟩ := k0; exact DataW.trod_lt m _ _ _ hm
  obtain ⟨P0, M0, A0, l0, c0, rfl, hc0, hC0⟩ := reads_field (hval 0 24 v0 rfl rfl) h0
  have k1 := h1
  have lt1 : ∀ x ∈ p1, x.block < W.heap.size := by obtain ⟨m, hm⟩ := k1; exact DataW.trod_lt m _ _ _ hm
  obtain ⟨A1_0, l1_0, c1_0, A1_1, l1_1, c1_1, A1_2, l1_2, c1_2, rfl, ⟨hc1_0, hC1_0⟩, ⟨hc1_1, hC1_1⟩, ⟨hc1_2, hC1_2⟩⟩ := reads_arr3 Try.underlying35 (by kernel_rfl) (by kernel_rfl) Try.underlying22 Try.underlying3 (by kernel_rfl) (hval 1 35 v1 rfl rfl) h1
  obtain ⟨a2, rfl, rfl, rfl, w2⟩ := open_int Try.underlying3 (hval 2 3 v2 rfl rfl) h2
  clear hA0 hval0 hsz0
  refine (KeyequationFinds_calls P0 M0 A0 c0 l0 A1_0 c1_0 l1_0 A1_1 c1_1 l1_1 A1_2 c1_2 l1_2 a2 W hC0 hc0 hC1_0 hc1_0 hC1_1 hc1_1 hC1_2 hc1_2 w2).mono fun e W' ⟨he, bel⟩ => ?_
  subst he
  exact ⟨_, rfl, _, _, _, [], _, [], hW', trodAll_mk1 (shut_bool Try.underlying4 _), (trodAll_cons_mk (Below.trod laidOut (by kernel_rfl) (of_decide_eq_true (by kernel_rfl)) k0 bel lt0) (trodAll_cons_mk (Below.trod laidOut (by kernel_rfl) (of_decide_eq_true (by kernel_rfl)) k1 bel lt1) (trodAll_cons_mk (shut_int Try.underlying3 w2) trodAll_mk0))), rfl, bel.frame _, fun h => by cases h⟩
theorem over : Rows.keyequationFindsRow.holds Try.pinned (OpenSpec.ofChange Rows.keyequationFindsSpec) :=
  OpenClaim.holds_of_wide 8 Try.f8 rfl rfl rfl rfl rfl rfl rfl ⟨rfl, rfl, rfl, rfl, rfl⟩ rfl rfl rfl rfl rfl (by kernel_rfl) Try.func8 (by kernel_rfl)
    (of_decide_eq_true (by kernel_rfl)) (by unfold Func.isWrapper; first | (rw [if_pos (by decide +kernel)]; kernel_rfl) | (rw [if_neg (by decide +kernel)]; exact ⟨rfl, rfl⟩))
    (fun os started H enc _ => lifted os started H enc)
end Go.Proofs.Ytkdakjlopheefaa.keyequationFinds
namespace Go.Proofs.Ytkdakjlopheefaa
theorem keyequationFinds_holds : Rows.KeyequationFindsSaid := keyequationFinds.over
end Go.Proofs.Ytkdakjlopheefaa
end
