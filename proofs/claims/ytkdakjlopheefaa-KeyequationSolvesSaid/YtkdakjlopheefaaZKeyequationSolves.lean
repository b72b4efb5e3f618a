/- Proved: for every input the law KeyequationSolves returns true and leaves its arguments as they were; no conditions. Part 7 of 7 of the proof. -/
import Derived.Test.YtkdakjlopheefaaZKeyequationSolves5
import Derived.Test.YtkdakjlopheefaaRows
import Derived.WalkKit
import Derived.ProofKit
import Derived.OpenShut
import Derived.ShutString
import Derived.ChangeOld
import Derived.Below
import Derived.SizedLaws
import Derived.Lib.SmallJoins
import Derived.Deep.Matrix
set_option linter.unusedSectionVars false
set_option linter.unusedSimpArgs false
set_option linter.unusedVariables false
section
namespace Go.Proofs.Ytkdakjlopheefaa.PA
open Go.Joins Go.ChangeShapes Go.WideShapes Go.ChangeAt Go.RowKit Go.Proofs.YtkdakjlopheefaaW.PrintWords Go.Proofs.YtkdakjlopheefaaW.PrintLast Go.Proofs.YtkdakjlopheefaaW.PrintMore
set_option linter.unusedVariables false
set_option maxRecDepth 100000
theorem own : ownKnob Try.prog.godebug = none := by kernel_rfl
theorem laidOut : laidOutB Try.prog = true := by kernel_rfl
theorem reads_trod {H : Type} {enc : TypeId × Value → H} {P : Program} {w : World} {t e fuel : Nat} {v : Value} {x : DataW H × List MemPlace} (ht : P.underlying t = some (.slice e)) (he : P.underlying e = some (.int .i64)) (hc : P.cellsOf e = 1)
    (h : DataW.trod enc P w 0 (fun _ => true) true fuel t [v] = some x) : ∃ a l c, v = .slice a l.length c ∧ l.length ≤ c ∧ Kd.C (Kd.int .i64) w a l.length l := by
  rcases open_ints ht he hc h with ⟨hcs, _⟩ | ⟨a, len, cap, zs, hcs, _, hl, hm, hz, _, hcell, hwz⟩
  · injection hcs with hcs _
    subst hcs
    exact ⟨none, [], 0, rfl, Nat.le_refl _, Kd.C_nil _ _⟩
  · injection hcs with hcs _
    subst hcs
    have hz' : zs.length = cap := by simpa using hz
    obtain ⟨l, hl', hr, _, _, hcc⟩ := ReadsInt.ofRowC (k := .i64) (w := w) (a := some a) (len := len) (cap := cap) (zs := zs) (.inr ⟨a, rfl, hl, hm, hz', hcell, hwz⟩)
    subst hl'
    exact ⟨some a, l, cap, rfl, hcc, Kd.C_of_reads (d := (0 : Int)) (h1 := fun _ => rfl) hr⟩
theorem reads_field {H : Type} {enc : TypeId × Value → H} {w : World} {v : Value} {d : DataW H} {p : List MemPlace} (hv : Value.okWide Try.prog w .any 0 24 v) (h : DataW.Trod enc Try.prog w 0 (fun _ => true) true 24 v d p) :
    ∃ P M a l c, v = .agg #[.int .i64 P, .int .i64 M, .slice a l.length c] ∧ l.length ≤ c ∧ Kd.C (Kd.int .i64) w a l.length l := by
  obtain ⟨v0, v1, v2, y0, y1, y2, n, rfl, _, _, h0, h1, h2⟩ := open_agg3 Try.underlying24 (by kernel_rfl) (by kernel_rfl) hv h
  obtain ⟨n0, e0, _⟩ := DataW.trod_int Try.underlying3 h0
  obtain ⟨n1, e1, _⟩ := DataW.trod_int Try.underlying3 h1
  obtain ⟨a, l, c, rfl, hc, hC⟩ := reads_trod Try.underlying22 Try.underlying3 (by kernel_rfl) h2
  injection e0 with e0
  injection e1 with e1
  subst e0
  subst e1
  exact ⟨_, _, a, l, c, rfl, hc, hC⟩
theorem open_arrs {H : Type} {enc : TypeId × Value → H} {P : Program} {w : World} {t e n : Nat} {v : Value} {d : DataW H} {p : List MemPlace} (ht : P.underlying t = some (.array n e)) (hc : P.cellsOf e = 1) (hn : P.cellsOf t = n)
    (hv : Value.okWide P w .any 0 t v) (h : DataW.Trod enc P w 0 (fun _ => true) true t v d p) : ∃ (cs : Array Value) (m : Nat), v = .agg cs ∧ cs.size = n ∧ ∀ (i : Nat) (x : Value), cs[i]? = some x → ∃ y, DataW.trod enc P w 0 (fun _ => true) true m e [x] = some y := by
  simp only [Value.okWide, ht] at hv
  obtain ⟨cs, rfl, hs, _⟩ := hv
  obtain ⟨fuel, hf⟩ := h
  obtain ⟨xs, m, _, _, hl, hx, hi⟩ := DataW.trod_array ht hf
  refine ⟨cs, m, rfl, hs.trans hn, fun i x hix => ?_⟩
  have hin : i < n := by
    have := (Array.getElem?_eq_some_iff.1 hix).1
    omega
  have h1 := hi i hin
  rw [hc, Nat.mul_one] at h1
  have h2 : (List.drop i cs.toList).take 1 = [x] := by
    have h3 : i < cs.toList.length := by rw [Array.length_toList]; omega
    have h4 : cs.toList[i] = x := by
      have := (Array.getElem?_eq_some_iff.1 hix).2
      simpa using this
    rw [List.drop_eq_getElem_cons h3, h4]; rfl
  have h5 : Value.cells (.agg cs) = cs := rfl
  rw [h5, h2] at h1
  rw [h1]
  exact ⟨_, List.getElem?_eq_getElem (by omega)⟩
theorem reads_ints2 {H : Type} {enc : TypeId × Value → H} {P : Program} {w : World} {t e : Nat} {v : Value} {d : DataW H} {p : List MemPlace} (ht : P.underlying t = some (.array 2 e)) (hc : P.cellsOf e = 1) (hn : P.cellsOf t = 2) (he : P.underlying e = some (.int .i64))
    (hv : Value.okWide P w .any 0 t v) (h : DataW.Trod enc P w 0 (fun _ => true) true t v d p) : ∃ a b, v = .agg #[.int .i64 a, .int .i64 b] ∧ (Lit.int .i64 a).wf = true ∧ (Lit.int .i64 b).wf = true := by
  obtain ⟨cs, m, rfl, hs, hr⟩ := open_arrs ht hc hn hv h
  obtain ⟨x, y, rfl⟩ := array2 hs
  obtain ⟨_, h0⟩ := hr 0 x rfl
  obtain ⟨_, h1⟩ := hr 1 y rfl
  obtain ⟨a, ha, _, wa⟩ := DataW.trod_int he h0
  obtain ⟨b, hb, _, wb⟩ := DataW.trod_int he h1
  injection ha with ha
  injection hb with hb
  subst ha
  subst hb
  exact ⟨a, b, rfl, wa, wb⟩
end Go.Proofs.Ytkdakjlopheefaa.PA
end
section
namespace Go.Proofs.Ytkdakjlopheefaa.keyequationSolves
open Go.Joins Go.ChangeShapes Go.WideShapes Go.ChangeAt Go.RowKit Go.Proofs.YtkdakjlopheefaaW.PrintWords Go.Proofs.YtkdakjlopheefaaW.PrintLast Go.Proofs.YtkdakjlopheefaaW.PrintMore Go.Proofs.Ytkdakjlopheefaa.PA
set_option linter.unusedVariables false
set_option maxRecDepth 100000 in
theorem lifted (os : Os) (started : os.Started) (H : Type) (enc : TypeId × Value → H) :
    ReturnsInHanded {} Try.checked os 6 .any (Rows.keyequationSolvesSpec.pre6 enc Try.prog Try.f6 Rows.keyequationSolvesRow.domain false) (Rows.keyequationSolvesSpec.post enc Try.prog Try.f6 false true false false) := by
  refine returnsInHanded_of_change_sized (C := Try.checked) own started (by kernel_rfl) Try.func6
    (ChangeSpec.witness6 (enc := enc) (C := Try.checked) false ⟨#[], #[.agg #[.int .i64 0, .int .i64 0, .slice none 0 0], .slice none 0 0, .agg #[.int .i64 0, .int .i64 0]], []⟩ 8 (by kernel_rfl) (by kernel_rfl) (by kernel_rfl) (by kernel_rfl)) ?_
  intro W base args ds gs before hval0 hW hcnd hsz0 _
  have hval : ∀ (j : Nat) t v, Try.f6.params[j]? = some t → args[j]? = some v → Value.okWide Try.prog W .any base t v := hval0
  have hW' := hW
  obtain ⟨p, q, hA0, hV, rfl, hfz, hnd⟩ := hW
  have hA : DataW.TrodAll enc Try.prog W 0 (fun _ => true) true Try.f6.params.toList args.toList ds p := hA0
  rw [Try.params6] at hA hval
  obtain ⟨v0, vs0, d0, ds0, p0, q0, hargs, rfl, rfl, h0, r0⟩ := trodAll_cons hA
  obtain ⟨v1, vs1, d1, ds1, p1, q1, rfl, rfl, rfl, h1, r1⟩ := trodAll_cons r0
  obtain ⟨v2, vs2, d2, ds2, p2, q2, rfl, rfl, rfl, h2, r2⟩ := trodAll_cons r1
  obtain ⟨rfl, rfl, rfl⟩ := trodAll_nil r2
  obtain rfl : args = #[v0, v1, v2] := by cases args; simp_all
  obtain ⟨rfl, rfl⟩ := trodVars_none hV
  have k0 := h0
  have lt0 : ∀ x ∈ p0, x.block < W.heap.size := by obtain ⟨m, hm⟩ := k0; exact DataW.trod_lt m _ _ _ hm
  obtain ⟨P0, M0, A0, l0, c0, rfl, hc0, hC0⟩ := reads_field (hval 0 24 v0 rfl rfl) h0
  have k1 := h1
  have lt1 : ∀ x ∈ p1, x.block < W.heap.size := by obtain ⟨m, hm⟩ := k1; exact DataW.trod_lt m _ _ _ hm
  obtain ⟨A1, l1, c1, rfl, hc1, hC1⟩ : ∃ a l c, v1 = .slice a l.length c ∧ l.length ≤ c ∧ Kd.C (Kd.int .i64) W a l.length l := by
    obtain ⟨a, n, c, rfl⟩ := okWide_slice Try.underlying22 (hval 1 22 v1 rfl rfl)
    obtain ⟨fuel, hf⟩ := h1
    exact reads_trod Try.underlying22 Try.underlying3 (by kernel_rfl) hf
  have k2 := h2
  have lt2 : ∀ x ∈ p2, x.block < W.heap.size := by obtain ⟨m, hm⟩ := k2; exact DataW.trod_lt m _ _ _ hm
  obtain ⟨a2_0, a2_1, rfl, w2_0, w2_1⟩ := reads_ints2 Try.underlying46 (by kernel_rfl) (by kernel_rfl) Try.underlying3 (hval 2 46 v2 rfl rfl) h2
  clear hA0 hval0 hsz0
  refine (KeyequationSolves_calls P0 M0 A0 c0 l0 A1 c1 l1 a2_0 a2_1 W hC0 hc0 hC1 hc1 w2_0 w2_1).mono fun e W' ⟨he, bel⟩ => ?_
  subst he
  exact ⟨_, rfl, _, _, _, [], _, [], hW', trodAll_mk1 (shut_bool Try.underlying4 _), (trodAll_cons_mk (Below.trod laidOut (by kernel_rfl) (of_decide_eq_true (by kernel_rfl)) k0 bel lt0) (trodAll_cons_mk (Below.trod laidOut (by kernel_rfl) (of_decide_eq_true (by kernel_rfl)) k1 bel lt1) (trodAll_cons_mk (Below.trod laidOut (by kernel_rfl) (of_decide_eq_true (by kernel_rfl)) k2 bel lt2) trodAll_mk0))), rfl, bel.frame _, fun h => by cases h⟩
theorem over : Rows.keyequationSolvesRow.holds Try.pinned (OpenSpec.ofChange Rows.keyequationSolvesSpec) :=
  OpenClaim.holds_of_wide 6 Try.f6 rfl rfl rfl rfl rfl rfl rfl ⟨rfl, rfl, rfl, rfl, rfl⟩ rfl rfl rfl rfl rfl (by kernel_rfl) Try.func6 (by kernel_rfl)
    (of_decide_eq_true (by kernel_rfl)) (by unfold Func.isWrapper; first | (rw [if_pos (by decide +kernel)]; kernel_rfl) | (rw [if_neg (by decide +kernel)]; exact ⟨rfl, rfl⟩))
    (fun os started H enc _ => lifted os started H enc)
end Go.Proofs.Ytkdakjlopheefaa.keyequationSolves
namespace Go.Proofs.Ytkdakjlopheefaa
theorem keyequationSolves_holds : Rows.KeyequationSolvesSaid := keyequationSolves.over
end Go.Proofs.Ytkdakjlopheefaa
end
