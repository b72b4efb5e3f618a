/- Proved: for every input the law PolyCanon returns true and leaves its arguments as they were; no conditions. Part 4 of 5 of the proof. -/
import Derived.Test.YtccmpmkmgehkiaaZPolyCanon2
set_option linter.unusedSectionVars false
set_option linter.unusedSimpArgs false
set_option linter.unusedVariables false
section
namespace Go.Proofs.Ytccmpmkmgehkiaa.PA
open Go.RowKit Go.Proofs.YtccmpmkmgehkiaaW.PrintWords Go.Proofs.YtccmpmkmgehkiaaW.PrintLast Go.Proofs.YtccmpmkmgehkiaaW.PrintMore
attribute [local go_sem] max2_int min2_int max_two min_two max_three min_three max_four min_four
set_option linter.unusedVariables false
set_option linter.unusedSimpArgs false
mutual
def poly_DivMod.l0 : Nat → List Int → List Int → List Int → Int → Int → Int → Int → List Int → Int → List Int → List Int → Option (List Int × List Int × Int × Int × Int × Int)
 | 0, _, _, _, _, _, _, _, _, _, _, _ => none
 | k + 1, x2, x6, x7, x9, x11, x1000, x1001, x1002, x1003, x1004, x1005 => if x11 ≥ 0 then (if 0 ≤ (wrap64 ((wrap64 (x11 + (x2.length : Int))) - 1)) then (if (wrap64 ((wrap64 (x11 + (x2.length : Int))) - 1)) < (x7.length : Int) then ((field_GF_Mul.f x1000 x1001 x1002 x1003 x1004 x1005 (rd x7 (wrap64 ((wrap64 (x11 + (x2.length : Int))) - 1))) x9).bind fun bt269 => (if 0 ≤ x11 then (if x11 < (x6.length : Int) then (poly_DivMod.l1 k x2 (x6.set (x11 : Int).toNat bt269.1) x7 x9 x11 bt269.1 x2 (x2.length : Int) 0 bt269.2.1 bt269.2.2.1 x1002 bt269.2.2.2 x1004 x1005) else (none)) else (none))) else (none)) else (none)) else ((poly_trim.f k x6).bind fun t262 => ((poly_trim.f k x7).bind fun t265 => (some (t262, t265, 0, x1000, x1001, x1003))))
def poly_DivMod.l1 : Nat → List Int → List Int → List Int → Int → Int → Int → List Int → Int → Int → Int → Int → List Int → Int → List Int → List Int → Option (List Int × List Int × Int × Int × Int × Int)
 | 0, _, _, _, _, _, _, _, _, _, _, _, _, _, _, _ => none
 | k + 1, x2, x6, x7, x9, x11, x12, x67, x68, x69, x1000, x1001, x1002, x1003, x1004, x1005 => if x69 < x68 then (if 0 ≤ x69 then (if x69 < (x67.length : Int) then (if 0 ≤ (wrap64 (x11 + x69)) then (if (wrap64 (x11 + x69)) < (x7.length : Int) then ((field_GF_Mul.f x1000 x1001 x1002 x1003 x1004 x1005 x12 (rd x67 x69)).bind fun bt276 => ((field_GF_Sub.f k bt276.2.1 bt276.2.2.1 x1002 bt276.2.2.2 x1004 x1005 (rd x7 (wrap64 (x11 + x69))) bt276.1).bind fun bt280 => (poly_DivMod.l1 k x2 x6 (x7.set ((wrap64 (x11 + x69)) : Int).toNat bt280.1) x9 x11 x12 x67 x68 (wrap64 (x69 + 1)) bt280.2.1 bt280.2.2.1 x1002 bt280.2.2.2 x1004 x1005))) else (none)) else (none)) else (none)) else (none)) else (poly_DivMod.l0 k x2 x6 x7 x9 (wrap64 (x11 - 1)) x1000 x1001 x1002 x1003 x1004 x1005)
end
def poly_DivMod.f (k : Nat) (s0_0 : Int) (s0_1 : Int) (s0_2 : List Int) (s0_3 : Int) (s0_4 : List Int) (s0_5 : List Int) (l1 : List Int) (l2 : List Int) : Option (List Int × List Int × Int × Int × Int × Int) := (poly_Canon.f k s0_0 s0_1 s0_2 s0_3 s0_4 s0_5 l1).bind fun bt241 => ((poly_Canon.f k bt241.2.1 bt241.2.2.1 s0_2 bt241.2.2.2 s0_4 s0_5 l2).bind fun bt247 => (if (bt247.1.length : Int) = 0 then (some (([] : List Int), ([] : List Int), 7, bt247.2.1, bt247.2.2.1, bt247.2.2.2)) else (if 0 ≤ (wrap64 ((bt247.1.length : Int) - 1)) then (if (wrap64 ((bt247.1.length : Int) - 1)) < (bt247.1.length : Int) then ((field_GF_Inv.f bt247.2.1 bt247.2.2.1 s0_2 bt247.2.2.2 s0_4 s0_5 (rd bt247.1 (wrap64 ((bt247.1.length : Int) - 1)))).bind fun bt254 => (if 0 ≤ (mx 0 (wrap64 ((wrap64 ((bt241.1.length : Int) - (bt247.1.length : Int))) + 1))) then (if (mx 0 (wrap64 ((wrap64 ((bt241.1.length : Int) - (bt247.1.length : Int))) + 1)) : Int).toNat ≤ 35184372088832 then (poly_DivMod.l0 k bt247.1 (List.replicate (mx 0 (wrap64 ((wrap64 ((bt241.1.length : Int) - (bt247.1.length : Int))) + 1)) : Int).toNat 0) bt241.1 bt254.1 (wrap64 ((bt241.1.length : Int) - (bt247.1.length : Int))) bt254.2.2.1 bt254.2.2.2.1 s0_2 bt254.2.2.2.2 s0_4 s0_5) else (none)) else (none))) else (none)) else (none))))
def poly_DivMod.T14 : Bool × List (List Nat × List Nat) := (true, [([], []), ([], []), ([], []), ([1, 2], [1, 2]), ([], []), ([], []), ([], []), ([], []), ([6, 7], [6, 7]), ([5, 8], [5, 8]), ([9], [9]), ([], []), ([], []), ([], []), ([11, 12, 13], [11, 12, 13]), ([4, 10, 14, 14], [4, 10, 14]), ([0, 3, 0, 1, 2, 3, 4, 5, 6, 7, 8, 9, 10, 11, 12, 13, 14, 15], [0, 3]), ([16, 15, 15, 0, 1, 2, 3, 4, 5, 6, 7, 8, 9, 10, 11, 12, 13, 14, 15], [15, 16])])
def poly_DivMod.B14 : List Nat := [0, 0, 0, 6, 0, 0, 0, 0, 192, 480, 992, 0, 0, 0, 14336, 32752, 65535, 131071]
theorem poly_DivMod.tab14 : rtab .any (opsOf Try.f16 14) = poly_DivMod.T14 := by kernel_rfl
theorem poly_DivMod.bits14 : waitsOk poly_DivMod.T14.2 poly_DivMod.B14 = true := by kernel_rfl
set_option maxHeartbeats 8000000 in
set_option maxRecDepth 100000 in
theorem poly_DivMod.calls (k : Nat) (g : Nat) (s0_0 : Int) (s0_1 : Int) (s0_2 : List Int) (s0_3 : Int) (s0_4 : List Int) (s0_5 : List Int) (A1 : Option Addr) (c1 : Nat) (l1 : List Int) (A2 : Option Addr) (c2 : Nat) (l2 : List Int) (r1 : List Int) (r2 : List Int) (r3 : Int) (r4 : Int) (r5 : Int) (r6 : Int) (w0 w : World) (hI : IsS74 w0 w g s0_0 s0_1 s0_2 s0_3 s0_4 s0_5) (hB : Below w0.heap.size w0 w) (hr1 : Kd.C (Kd.int .i64) w A1 l1.length l1) (hc1 : l1.length ≤ c1) (hf1 : ∀ ad, A1 = some ad → 0 < l1.length → ad.block ≠ g) (hr2 : Kd.C (Kd.int .i64) w A2 l2.length l2) (hc2 : l2.length ≤ c2) (hf2 : ∀ ad, A2 = some ad → 0 < l2.length → ad.block ≠ g) (h : poly_DivMod.f k s0_0 s0_1 s0_2 s0_3 s0_4 s0_5 l1 l2 = some (r1, r2, r3, r4, r5, r6)) :
  Calls Try.prog 16 #[.pointer (some ⟨g, 0, none⟩), .slice A1 l1.length c1, .slice A2 l2.length c2] w fun e w' => ∃ v0_ v1_ : Value, e = .returned (.tuple #[v0_, v1_, .int .i64 r3]) ∧ Kd.R (Kd.int .i64) 3 w' w.heap.size (fun k_ => some k_ ≠ (v1_ : Value).ownBlock) v0_ r1 ∧ Kd.R (Kd.int .i64) 3 w' w.heap.size (fun k_ => some k_ ≠ (v0_ : Value).ownBlock) v1_ r2 ∧ IsS74 w0 w' g r4 r5 s0_2 r6 s0_4 s0_5 ∧ Below w0.heap.size w0 w' ∧ KeepBut w w' g none := by
 have HR1 := Aside0.mk hr1
 have HC1 := Aside0.mk hc1
 clear hr1 hc1
 have HR2 := Aside0.mk hr2
 have HC2 := Aside0.mk hc2
 clear hr2 hc2
 have HI0 := Aside0.mk hI
 have HK := Aside0.mk (KeepBut.refl w g none)
 have HL := Aside0.mk hB.size
 clear hI
 have HW0 := Aside0.mk hB.size
 have HB := Aside0.mk hB
 clear hB
 have H : ((poly_Canon.f k s0_0 s0_1 s0_2 s0_3 s0_4 s0_5 l1).bind fun bt241 => ((poly_Canon.f k bt241.2.1 bt241.2.2.1 s0_2 bt241.2.2.2 s0_4 s0_5 l2).bind fun bt247 => (if (bt247.1.length : Int) = 0 then (some (([] : List Int), ([] : List Int), 7, bt247.2.1, bt247.2.2.1, bt247.2.2.2)) else (if 0 ≤ (wrap64 ((bt247.1.length : Int) - 1)) then (if (wrap64 ((bt247.1.length : Int) - 1)) < (bt247.1.length : Int) then ((field_GF_Inv.f bt247.2.1 bt247.2.2.1 s0_2 bt247.2.2.2 s0_4 s0_5 (rd bt247.1 (wrap64 ((bt247.1.length : Int) - 1)))).bind fun bt254 => (if 0 ≤ (mx 0 (wrap64 ((wrap64 ((bt241.1.length : Int) - (bt247.1.length : Int))) + 1))) then (if (mx 0 (wrap64 ((wrap64 ((bt241.1.length : Int) - (bt247.1.length : Int))) + 1)) : Int).toNat ≤ 35184372088832 then (poly_DivMod.l0 k bt247.1 (List.replicate (mx 0 (wrap64 ((wrap64 ((bt241.1.length : Int) - (bt247.1.length : Int))) + 1)) : Int).toNat 0) bt241.1 bt254.1 (wrap64 ((bt241.1.length : Int) - (bt247.1.length : Int))) bt254.2.2.1 bt254.2.2.2.1 s0_2 bt254.2.2.2.2 s0_4 s0_5) else (none)) else (none))) else (none)) else (none))))) = some (r1, r2, r3, r4, r5, r6) := h
 clear h
 replace H := Option.bind_eq_some_iff.mp H
 obtain ⟨⟨t241, t244, t245, t246⟩, A40, H⟩ := H
 replace H : ((poly_Canon.f k t244 t245 s0_2 t246 s0_4 s0_5 l2).bind fun bt247 => (if (bt247.1.length : Int) = 0 then (some (([] : List Int), ([] : List Int), 7, bt247.2.1, bt247.2.2.1, bt247.2.2.2)) else (if 0 ≤ (wrap64 ((bt247.1.length : Int) - 1)) then (if (wrap64 ((bt247.1.length : Int) - 1)) < (bt247.1.length : Int) then ((field_GF_Inv.f bt247.2.1 bt247.2.2.1 s0_2 bt247.2.2.2 s0_4 s0_5 (rd bt247.1 (wrap64 ((bt247.1.length : Int) - 1)))).bind fun bt254 => (if 0 ≤ (mx 0 (wrap64 ((wrap64 ((t241.length : Int) - (bt247.1.length : Int))) + 1))) then (if (mx 0 (wrap64 ((wrap64 ((t241.length : Int) - (bt247.1.length : Int))) + 1)) : Int).toNat ≤ 35184372088832 then (poly_DivMod.l0 k bt247.1 (List.replicate (mx 0 (wrap64 ((wrap64 ((t241.length : Int) - (bt247.1.length : Int))) + 1)) : Int).toNat 0) t241 bt254.1 (wrap64 ((t241.length : Int) - (bt247.1.length : Int))) bt254.2.2.1 bt254.2.2.2.1 s0_2 bt254.2.2.2.2 s0_4 s0_5) else (none)) else (none))) else (none)) else (none)))) = some (r1, r2, r3, r4, r5, r6) := H
 have A4 := Aside0.mk A40
 clear A40
 replace H := Option.bind_eq_some_iff.mp H
 obtain ⟨⟨t247, t250, t251, t252⟩, A50, H⟩ := H
 replace H : (if (t247.length : Int) = 0 then (some (([] : List Int), ([] : List Int), 7, t250, t251, t252)) else (if 0 ≤ (wrap64 ((t247.length : Int) - 1)) then (if (wrap64 ((t247.length : Int) - 1)) < (t247.length : Int) then ((field_GF_Inv.f t250 t251 s0_2 t252 s0_4 s0_5 (rd t247 (wrap64 ((t247.length : Int) - 1)))).bind fun bt254 => (if 0 ≤ (mx 0 (wrap64 ((wrap64 ((t241.length : Int) - (t247.length : Int))) + 1))) then (if (mx 0 (wrap64 ((wrap64 ((t241.length : Int) - (t247.length : Int))) + 1)) : Int).toNat ≤ 35184372088832 then (poly_DivMod.l0 k t247 (List.replicate (mx 0 (wrap64 ((wrap64 ((t241.length : Int) - (t247.length : Int))) + 1)) : Int).toNat 0) t241 bt254.1 (wrap64 ((t241.length : Int) - (t247.length : Int))) bt254.2.2.1 bt254.2.2.2.1 s0_2 bt254.2.2.2.2 s0_4 s0_5) else (none)) else (none))) else (none)) else (none))) = some (r1, r2, r3, r4, r5, r6) := H
 have A5 := Aside0.mk A50
 clear A50
 by_cases c6 : (t247.length : Int) = 0
 ·rw [if_pos c6] at H
  have c6b0 : ((t247.length : Int) == 0) = true := beq_iff_eq.mpr c6
  have c6b1 : ((t247.length : Int) != 0) = false := bne_eq_false_iff_eq.mpr c6
  clear c6
  simp only [Option.some.injEq, Prod.mk.injEq] at H
  obtain ⟨rfl, rfl, rfl, rfl, rfl, rfl⟩ := H
  go_enter Try.func16, Try.ntmps16
  go_wp2_with (first | ((with_reducible refine gate_callee (f := 22) rfl ?_); refine goesL_ (some 17) rfl rfl Try.func22 (by kernel_rfl) rfl #[.pointer (some ⟨g, 0, none⟩), .slice A1 l1.length c1] rfl (by (try simp only [List.map_toArray, List.map_cons, List.map_nil]); first | done | rfl | (simp only [List.length_drop, List.length_take]; rfl)) ?_; (with_reducible refine (poly_Canon.calls k g s0_0 s0_1 s0_2 s0_3 s0_4 s0_5 _ _ l1 t241 t244 t245 t246 w0 _ ?side1 ?side2 ?side3 ?side4 ?side5 A4.out).mono ?_); (case side1 => repeat (first | (with_reducible first | exact HI0.out | apply IsS74.alloc | apply IsS74.drewN | apply IsS74.drew | apply IsS74.set_0 | apply IsS74.set_1 | apply IsS74.set_3) | exact HI0.out)); (case side2 => repeat (first | (with_reducible first | exact HB.out | apply below_alloc | apply pw_below_drewN | apply below_drew1 | refine below_set ?_ (IsS74.ge HI0.out)) | exact HB.out)); (case side3 => exact Kd.C_keep 0 HR1.out (by repeat (first | (with_reducible first | exact HK.out | apply KeepBut.set_ | apply keep_drewN | apply keep_drew | apply keep_alloc) | exact HK.out)) hf1); (case side4 => exact HC1.out); (case side5 => exact hf1); rintro e w7 ⟨v242, rfl, ho0, hi, hb, hk⟩; refine ⟨_, rfl, ?_⟩; have n0_ := Aside0.mk (Kd.R_lower ho0 (keep_size (w := w) (g := g) (row := none) (by repeat (first | (with_reducible first | exact HK.out | apply KeepBut.set_ | apply keep_drewN | apply keep_drew | apply keep_alloc) | exact HK.out)))); have n1_ := Aside0.mk (KeepBut.trans (by repeat (first | (with_reducible first | exact HK.out | apply KeepBut.set_ | apply keep_drewN | apply keep_drew | apply keep_alloc) | exact HK.out)) hk (.inl rfl)); have n2_ := Aside0.mk (hb); have n3_ := Aside0.mk (hi); clear HK; clear HB; clear HI0; have HO243 := n0_; have HK := n1_; have HB := n2_; have HI0 := n3_; clear n0_ n1_ n2_ n3_; (try clear hb); (try clear hb2); (try clear hk); (try clear hi); (try clear ho0)) | ((with_reducible refine gate_callee (f := 22) rfl ?_); refine goesL_ (some 20) rfl rfl Try.func22 (by kernel_rfl) rfl #[.pointer (some ⟨g, 0, none⟩), .slice A2 l2.length c2] rfl (by (try simp only [List.map_toArray, List.map_cons, List.map_nil]); first | done | rfl | (simp only [List.length_drop, List.length_take]; rfl)) ?_; (with_reducible refine (poly_Canon.calls k g t244 t245 s0_2 t246 s0_4 s0_5 _ _ l2 t247 t250 t251 t252 w0 _ ?side1 ?side2 ?side3 ?side4 ?side5 A5.out).mono ?_); (case side1 => repeat (first | (with_reducible first | exact HI0.out | apply IsS74.alloc | apply IsS74.drewN | apply IsS74.drew | apply IsS74.set_0 | apply IsS74.set_1 | apply IsS74.set_3) | exact HI0.out)); (case side2 => repeat (first | (with_reducible first | exact HB.out | apply below_alloc | apply pw_below_drewN | apply below_drew1 | refine below_set ?_ (IsS74.ge HI0.out)) | exact HB.out)); (case side3 => exact Kd.C_keep 0 HR2.out (by repeat (first | (with_reducible first | exact HK.out | apply KeepBut.set_ | apply keep_drewN | apply keep_drew | apply keep_alloc) | exact HK.out)) hf2); (case side4 => exact HC2.out); (case side5 => exact hf2); rintro e w8 ⟨v248, rfl, ho0, hi, hb, hk⟩; refine ⟨_, rfl, ?_⟩; have n0_ := Aside0.mk (Kd.R_mono (Kd.R_told (Kd.R_oldK (IsS74.apart (show IsS74 w0 _ g t244 t245 s0_2 t246 s0_4 s0_5 from by repeat (first | (with_reducible first | exact HI0.out | apply IsS74.alloc | apply IsS74.drewN | apply IsS74.drew | apply IsS74.set_0 | apply IsS74.set_1 | apply IsS74.set_3) | exact HI0.out)) (by (with_reducible repeat (first | apply Kd.R_alloc | apply Kd.R_drewN | apply Kd.R_drew)); exact HO243.out) (by decide)) hk) (Kd.R_base ho0)) (fun _ h_ => h_.1)); have n1_ := Aside0.mk (Kd.R_lower (Kd.R_new' ho0 (Kd.R_lt (by (with_reducible repeat (first | apply Kd.R_alloc | apply Kd.R_drewN | apply Kd.R_drew)); exact HO243.out))) (keep_size (w := w) (g := g) (row := none) (by repeat (first | (with_reducible first | exact HK.out | apply KeepBut.set_ | apply keep_drewN | apply keep_drew | apply keep_alloc) | exact HK.out)))); have n2_ := Aside0.mk (KeepBut.trans (by repeat (first | (with_reducible first | exact HK.out | apply KeepBut.set_ | apply keep_drewN | apply keep_drew | apply keep_alloc) | exact HK.out)) hk (.inl rfl)); have n3_ := Aside0.mk (hb); have n4_ := Aside0.mk (hi); clear HO243; clear HK; clear HB; clear HI0; have HO243 := n0_; have HO249 := n1_; have HK := n2_; have HB := n3_; have HI0 := n4_; clear n0_ n1_ n2_ n3_ n4_; (try clear hb); (try clear hb2); (try clear hk); (try clear hi); (try clear ho0); obtain ⟨Ao9, co9, eo9⟩ := Kd.R_slice HO249.out; subst eo9))
  go_ret3
  exact ⟨_, _, by first | rfl | (simp [errW_none, errW_some] <;> rfl) | (simp [*, errW_none, errW_some] <;> rfl), by first | exact Kd.R_nil _ _ _ _ _ | exact Kd.N_nil _ _ _ _ _ | exact Kd.V_nil _ _ _ _ _ | exact Kd.Q_nil _ _ _ _ _ | exact Kd.S_nil _ _ _ _ _, by first | exact Kd.R_nil _ _ _ _ _ | exact Kd.N_nil _ _ _ _ _ | exact Kd.V_nil _ _ _ _ _ | exact Kd.Q_nil _ _ _ _ _ | exact Kd.S_nil _ _ _ _ _, by repeat (first | (with_reducible first | exact HI0.out | apply IsS74.alloc | apply IsS74.drewN | apply IsS74.drew | apply IsS74.set_0 | apply IsS74.set_1 | apply IsS74.set_3) | exact HI0.out), by repeat (first | (with_reducible first | exact HB.out | apply below_alloc | apply pw_below_drewN | apply below_drew1 | refine below_set ?_ (IsS74.ge HI0.out)) | exact HB.out), by repeat (first | (with_reducible first | exact HK.out | apply KeepBut.set_ | apply keep_drewN | apply keep_drew | apply keep_alloc) | exact HK.out)⟩
 ·rw [if_neg c6] at H
  have c6b0 : ((t247.length : Int) == 0) = false := beq_eq_false_iff_ne.mpr c6
  have c6b1 : ((t247.length : Int) != 0) = true := bne_iff_ne.mpr c6
  have c6b2 : ¬ (t247 = []) := fun h_ => c6 (by rw [h_]; rfl)
  obtain ⟨ji10, hji10⟩ : ∃ j_ : Int, (wrap64 ((t247.length : Int) - 1)) = j_ := ⟨_, rfl⟩
  replace H : (if 0 ≤ (ji10) then (if (ji10) < (t247.length : Int) then ((field_GF_Inv.f t250 t251 s0_2 t252 s0_4 s0_5 (rd t247 (ji10))).bind fun bt254 => (if 0 ≤ (mx 0 (wrap64 ((wrap64 ((t241.length : Int) - (t247.length : Int))) + 1))) then (if (mx 0 (wrap64 ((wrap64 ((t241.length : Int) - (t247.length : Int))) + 1)) : Int).toNat ≤ 35184372088832 then (poly_DivMod.l0 k t247 (List.replicate (mx 0 (wrap64 ((wrap64 ((t241.length : Int) - (t247.length : Int))) + 1)) : Int).toNat 0) t241 bt254.1 (wrap64 ((t241.length : Int) - (t247.length : Int))) bt254.2.2.1 bt254.2.2.2.1 s0_2 bt254.2.2.2.2 s0_4 s0_5) else (none)) else (none))) else (none)) else (none)) = some (r1, r2, r3, r4, r5, r6) := by first | (rw [hji10] at H; exact H) | (simp only [hji10] at H ⊢; exact H)
  (try rw [hji10] at A4)
  (try rw [hji10] at A5)
  have hji10w : (IntKind.i64.wrap ((t247.length : Int) - 1)) = ji10 := (i64_w _).trans hji10
  by_cases c11 : 0 ≤ (ji10)
  ·rw [if_pos c11] at H
   have c11b0 : decide (0 ≤ (ji10)) = true := decide_eq_true c11
   clear c11
   by_cases c12 : (ji10) < (t247.length : Int)
   ·rw [if_pos c12] at H
    have c12b0 : decide ((ji10) < (t247.length : Int)) = true := decide_eq_true c12
    clear c12
    replace H := Option.bind_eq_some_iff.mp H
    obtain ⟨⟨t254, t255, t256, t257, t258⟩, A130, H⟩ := H
    replace H : (if 0 ≤ (mx 0 (wrap64 ((wrap64 ((t241.length : Int) - (t247.length : Int))) + 1))) then (if (mx 0 (wrap64 ((wrap64 ((t241.length : Int) - (t247.length : Int))) + 1)) : Int).toNat ≤ 35184372088832 then (poly_DivMod.l0 k t247 (List.replicate (mx 0 (wrap64 ((wrap64 ((t241.length : Int) - (t247.length : Int))) + 1)) : Int).toNat 0) t241 t254 (wrap64 ((t241.length : Int) - (t247.length : Int))) t256 t257 s0_2 t258 s0_4 s0_5) else (none)) else (none)) = some (r1, r2, r3, r4, r5, r6) := H
    have A13 := Aside0.mk A130
    clear A130
    obtain ⟨ji14, hji14⟩ : ∃ j_ : Int, (mx 0 (wrap64 ((wrap64 ((t241.length : Int) - (t247.length : Int))) + 1))) = j_ := ⟨_, rfl⟩
    replace H : (if 0 ≤ (ji14) then (if (ji14 : Int).toNat ≤ 35184372088832 then (poly_DivMod.l0 k t247 (List.replicate (ji14 : Int).toNat 0) t241 t254 (wrap64 ((t241.length : Int) - (t247.length : Int))) t256 t257 s0_2 t258 s0_4 s0_5) else (none)) else (none)) = some (r1, r2, r3, r4, r5, r6) := by first | (rw [hji14] at H; exact H) | (simp only [hji14] at H ⊢; exact H)
    (try rw [hji14] at A4)
    (try rw [hji14] at A5)
    (try rw [hji14] at A13)
    (try (have hji14l : 0 ≤ ji14 := by (rw [← hji14]; unfold mx; (repeat' split) <;> omega)))
    (try (have hji14m : 0 ≤ ji14 := by omega))
    have hji14_ : (if 0 < (wrap64 ((wrap64 ((t241.length : Int) - (t247.length : Int))) + 1)) then (wrap64 ((wrap64 ((t241.length : Int) - (t247.length : Int))) + 1)) else 0) = ji14 := hji14
    by_cases c15 : 0 ≤ (ji14)
    ·rw [if_pos c15] at H
     have c15b0 := eq_true c15
     have c15b1 : decide (0 ≤ (ji14)) = true := decide_eq_true c15
     clear c15
     by_cases c16 : (ji14 : Int).toNat ≤ 35184372088832
     ·rw [if_pos c16] at H
      have c16b0 := eq_true c16
      have c16b1 : decide ((ji14 : Int).toNat ≤ 35184372088832) = true := decide_eq_true c16
      clear c16
      obtain ⟨y259, hy259⟩ : ∃ y_ : List Int, y_ = (List.replicate (ji14 : Int).toNat 0) := ⟨_, rfl⟩
      replace H : (poly_DivMod.l0 k t247 y259 t241 t254 (wrap64 ((t241.length : Int) - (t247.length : Int))) t256 t257 s0_2 t258 s0_4 s0_5) = some (r1, r2, r3, r4, r5, r6) := by first | (rw [hy259]; with_reducible exact H) | (have H2_ := (Option.bind_some _ _).symm.trans H; rw [hy259]; with_reducible exact H2_) | (have H2_ := (Option.bind_some _ _).symm.trans H; with_reducible exact H2_) | with_reducible exact H | (rw [hy259]; exact H) | exact H
      have Ny259 := Aside0.mk hy259
      clear hy259
      have H' := Aside0.mk H
      clear H
      go_enter Try.func16, Try.ntmps16
      go_wp2_with (first | ((with_reducible refine gate_callee (f := 22) rfl ?_); refine goesL_ (some 17) rfl rfl Try.func22 (by kernel_rfl) rfl #[.pointer (some ⟨g, 0, none⟩), .slice A1 l1.length c1] rfl (by (try simp only [List.map_toArray, List.map_cons, List.map_nil]); first | done | rfl | (simp only [List.length_drop, List.length_take]; rfl)) ?_; (with_reducible refine (poly_Canon.calls k g s0_0 s0_1 s0_2 s0_3 s0_4 s0_5 _ _ l1 t241 t244 t245 t246 w0 _ ?side1 ?side2 ?side3 ?side4 ?side5 A4.out).mono ?_); (case side1 => repeat (first | (with_reducible first | exact HI0.out | apply IsS74.alloc | apply IsS74.drewN | apply IsS74.drew | apply IsS74.set_0 | apply IsS74.set_1 | apply IsS74.set_3) | exact HI0.out)); (case side2 => repeat (first | (with_reducible first | exact HB.out | apply below_alloc | apply pw_below_drewN | apply below_drew1 | refine below_set ?_ (IsS74.ge HI0.out)) | exact HB.out)); (case side3 => exact Kd.C_keep 0 HR1.out (by repeat (first | (with_reducible first | exact HK.out | apply KeepBut.set_ | apply keep_drewN | apply keep_drew | apply keep_alloc) | exact HK.out)) hf1); (case side4 => exact HC1.out); (case side5 => exact hf1); rintro e w17 ⟨v242, rfl, ho0, hi, hb, hk⟩; refine ⟨_, rfl, ?_⟩; have n0_ := Aside0.mk (Kd.R_lower ho0 (keep_size (w := w) (g := g) (row := none) (by repeat (first | (with_reducible first | exact HK.out | apply KeepBut.set_ | apply keep_drewN | apply keep_drew | apply keep_alloc) | exact HK.out)))); have n1_ := Aside0.mk (KeepBut.trans (by repeat (first | (with_reducible first | exact HK.out | apply KeepBut.set_ | apply keep_drewN | apply keep_drew | apply keep_alloc) | exact HK.out)) hk (.inl rfl)); have n2_ := Aside0.mk (hb); have n3_ := Aside0.mk (hi); clear HK; clear HB; clear HI0; have HO243 := n0_; have HK := n1_; have HB := n2_; have HI0 := n3_; clear n0_ n1_ n2_ n3_; (try clear hb); (try clear hb2); (try clear hk); (try clear hi); (try clear ho0)) | ((with_reducible refine gate_callee (f := 22) rfl ?_); refine goesL_ (some 20) rfl rfl Try.func22 (by kernel_rfl) rfl #[.pointer (some ⟨g, 0, none⟩), .slice A2 l2.length c2] rfl (by (try simp only [List.map_toArray, List.map_cons, List.map_nil]); first | done | rfl | (simp only [List.length_drop, List.length_take]; rfl)) ?_; (with_reducible refine (poly_Canon.calls k g t244 t245 s0_2 t246 s0_4 s0_5 _ _ l2 t247 t250 t251 t252 w0 _ ?side1 ?side2 ?side3 ?side4 ?side5 A5.out).mono ?_); (case side1 => repeat (first | (with_reducible first | exact HI0.out | apply IsS74.alloc | apply IsS74.drewN | apply IsS74.drew | apply IsS74.set_0 | apply IsS74.set_1 | apply IsS74.set_3) | exact HI0.out)); (case side2 => repeat (first | (with_reducible first | exact HB.out | apply below_alloc | apply pw_below_drewN | apply below_drew1 | refine below_set ?_ (IsS74.ge HI0.out)) | exact HB.out)); (case side3 => exact Kd.C_keep 0 HR2.out (by repeat (first | (with_reducible first | exact HK.out | apply KeepBut.set_ | apply keep_drewN | apply keep_drew | apply keep_alloc) | exact HK.out)) hf2); (case side4 => exact HC2.out); (case side5 => exact hf2); rintro e w18 ⟨v248, rfl, ho0, hi, hb, hk⟩; refine ⟨_, rfl, ?_⟩; have n0_ := Aside0.mk (Kd.R_mono (Kd.R_told (Kd.R_oldK (IsS74.apart (show IsS74 w0 _ g t244 t245 s0_2 t246 s0_4 s0_5 from by repeat (first | (with_reducible first | exact HI0.out | apply IsS74.alloc | apply IsS74.drewN | apply IsS74.drew | apply IsS74.set_0 | apply IsS74.set_1 | apply IsS74.set_3) | exact HI0.out)) (by (with_reducible repeat (first | apply Kd.R_alloc | apply Kd.R_drewN | apply Kd.R_drew)); exact HO243.out) (by decide)) hk) (Kd.R_base ho0)) (fun _ h_ => h_.1)); have n1_ := Aside0.mk (Kd.R_lower (Kd.R_new' ho0 (Kd.R_lt (by (with_reducible repeat (first | apply Kd.R_alloc | apply Kd.R_drewN | apply Kd.R_drew)); exact HO243.out))) (keep_size (w := w) (g := g) (row := none) (by repeat (first | (with_reducible first | exact HK.out | apply KeepBut.set_ | apply keep_drewN | apply keep_drew | apply keep_alloc) | exact HK.out)))); have n2_ := Aside0.mk (KeepBut.trans (by repeat (first | (with_reducible first | exact HK.out | apply KeepBut.set_ | apply keep_drewN | apply keep_drew | apply keep_alloc) | exact HK.out)) hk (.inl rfl)); have n3_ := Aside0.mk (hb); have n4_ := Aside0.mk (hi); clear HO243; clear HK; clear HB; clear HI0; have HO243 := n0_; have HO249 := n1_; have HK := n2_; have HB := n3_; have HI0 := n4_; clear n0_ n1_ n2_ n3_ n4_; (try clear hb); (try clear hb2); (try clear hk); (try clear hi); (try clear ho0); obtain ⟨Ao19, co19, eo19⟩ := Kd.R_slice HO249.out; subst eo19; have p253 : 0 ≤ ((ji10) : Int) := of_decide_eq_true (by first | (with_reducible assumption) | assumption); have q253 : (ji10) < (t247.length : Int) := of_decide_eq_true (by first | (with_reducible assumption) | assumption); obtain ⟨ad253, e253, hx253_0⟩ := Kd.at_int (Kd.R_reads' HO249.out).2.2 (ji10) p253 q253; cases e253; replace p253 := eq_true p253; replace q253 := eq_true q253) | ((with_reducible refine gate_callee (f := 43) rfl ?_); refine goesL_ (some 32) rfl rfl Try.func43 (by kernel_rfl) rfl #[.pointer (some ⟨g, 0, none⟩), .int .i64 (rd t247 (ji10))] rfl (by (try simp only [List.map_toArray, List.map_cons, List.map_nil]); first | done | (simp only [hji10]; rfl) | rfl | (simp only [List.length_drop, List.length_take]; rfl)) ?_; (with_reducible refine (field_GF_Inv.calls g t250 t251 s0_2 t252 s0_4 s0_5 (rd t247 (ji10)) t254 t255 t256 t257 t258 w0 _ ?side1 ?side2 A13.out).mono ?_); (case side1 => repeat (first | (with_reducible first | exact HI0.out | apply IsS74.alloc | apply IsS74.drewN | apply IsS74.drew | apply IsS74.set_0 | apply IsS74.set_1 | apply IsS74.set_3) | exact HI0.out)); (case side2 => repeat (first | (with_reducible first | exact HB.out | apply below_alloc | apply pw_below_drewN | apply below_drew1 | refine below_set ?_ (IsS74.ge HI0.out)) | exact HB.out)); rintro e w20 ⟨rfl, hi, hb, hk⟩; refine ⟨_, rfl, ?_⟩; have n0_ := Aside0.mk (Kd.R_mono (Kd.R_keep (IsS74.apart (show IsS74 w0 _ g t250 t251 s0_2 t252 s0_4 s0_5 from by repeat (first | (with_reducible first | exact HI0.out | apply IsS74.alloc | apply IsS74.drewN | apply IsS74.drew | apply IsS74.set_0 | apply IsS74.set_1 | apply IsS74.set_3) | exact HI0.out)) (by (with_reducible repeat (first | apply Kd.R_alloc | apply Kd.R_drewN | apply Kd.R_drew)); exact HO243.out) (by decide)) hk (fun _ h => h.2)) (fun _ h => h.1)); have n1_ := Aside0.mk (Kd.R_mono (Kd.R_keep (IsS74.apart (show IsS74 w0 _ g t250 t251 s0_2 t252 s0_4 s0_5 from by repeat (first | (with_reducible first | exact HI0.out | apply IsS74.alloc | apply IsS74.drewN | apply IsS74.drew | apply IsS74.set_0 | apply IsS74.set_1 | apply IsS74.set_3) | exact HI0.out)) (by (with_reducible repeat (first | apply Kd.R_alloc | apply Kd.R_drewN | apply Kd.R_drew)); exact HO249.out) (by decide)) hk (fun _ h => h.2)) (fun _ h => h.1)); have n2_ := Aside0.mk (KeepBut.trans (by repeat (first | (with_reducible first | exact HK.out | apply KeepBut.set_ | apply keep_drewN | apply keep_drew | apply keep_alloc) | exact HK.out)) hk (.inl rfl)); have n3_ := Aside0.mk (hb); have n4_ := Aside0.mk (hi); clear HO243; clear HO249; clear HK; clear HB; clear HI0; have HO243 := n0_; have HO249 := n1_; have HK := n2_; have HB := n3_; have HI0 := n4_; clear n0_ n1_ n2_ n3_ n4_; (try clear hb); (try clear hb2); (try clear hk); (try clear hi); obtain ⟨Ao21, co21, eo21⟩ := Kd.R_slice HO243.out; subst eo21) | ((with_reducible refine gate_dst (N := 42) rfl ?_); refine Kd.R_make (Kd.int .i64) _ 3 rfl (N := 42) rfl 22 _ _ rfl ji14 rfl rfl Try.underlying22 (.int .i64 0) 8 info3 rfl (by decide) (by omega) 0 (ok := fun _ => True) (okp := fun _ => True) rfl (fun _ hk => hk) trivial (of_decide_eq_true (by first | (with_reducible assumption) | assumption)) (Nat.le_trans (Nat.mul_le_mul_right _ (of_decide_eq_true (by first | (with_reducible assumption) | assumption) : ji14.toNat ≤ 35184372088832)) (by omega)) (Below.refl _ _) (Nat.le_refl _) ?_; intro v260 w22 ho23 hb hg_ hnew_; clear hg_ hnew_; (first | rw [← Ny259.out] at ho23 | (simp only [Int.reduceToNat] at ho23; rw [← Ny259.out] at ho23)); have n0_ := Aside0.mk (Kd.R_elder' (by (with_reducible repeat (first | apply Kd.R_alloc | apply Kd.R_drewN | apply Kd.R_drew)); exact HO243.out) (Kd.R_base ho23) hb); have n1_ := Aside0.mk (Kd.R_elder' (by (with_reducible repeat (first | apply Kd.R_alloc | apply Kd.R_drewN | apply Kd.R_drew)); exact HO249.out) (Kd.R_base ho23) hb); have n2_ := Aside0.mk (Kd.R_lower (Kd.R_new' (Kd.R_new' ho23 (Kd.R_lt (by (with_reducible repeat (first | apply Kd.R_alloc | apply Kd.R_drewN | apply Kd.R_drew)); exact HO243.out))) (Kd.R_lt (by (with_reducible repeat (first | apply Kd.R_alloc | apply Kd.R_drewN | apply Kd.R_drew)); exact HO249.out))) (keep_size (w := w) (g := g) (row := none) (by repeat (first | (with_reducible first | exact HK.out | apply KeepBut.set_ | apply keep_drewN | apply keep_drew | apply keep_alloc) | exact HK.out)))); have n3_ := Aside0.mk (IsS74.below (by repeat (first | (with_reducible first | exact HI0.out | apply IsS74.alloc | apply IsS74.drewN | apply IsS74.drew | apply IsS74.set_0 | apply IsS74.set_1 | apply IsS74.set_3) | exact HI0.out)) hb); have n4_ := Aside0.mk (KeepBut.trans (by repeat (first | (with_reducible first | exact HK.out | apply KeepBut.set_ | apply keep_drewN | apply keep_drew | apply keep_alloc) | exact HK.out)) (KeepBut.of_below hb g none) (.inl rfl)); have n5_ := Aside0.mk (below_step (by repeat (first | (with_reducible first | exact HB.out | apply below_alloc | apply pw_below_drewN | apply below_drew1 | refine below_set ?_ (IsS74.ge HI0.out)) | exact HB.out)) hb); clear HO243; clear HO249; clear HI0; clear HK; clear HB; have HO243 := n0_; have HO249 := n1_; have HO261 := n2_; have HI0 := n3_; have HK := n4_; have HB := n5_; clear n0_ n1_ n2_ n3_ n4_ n5_; clear hb ho23))
      go_loopg [11] k (fun kq v11 w' => ∃ (x6_1 : List Int) (x7_1 : List Int) (x11_1 : Int) (x1000_1 : Int) (x1001_1 : Int) (x1003_1 : Int), v11 = .int .i64 x11_1 ∧ Aside0 (poly_DivMod.l0 kq t247 x6_1 x7_1 t254 x11_1 x1000_1 x1001_1 s0_2 x1003_1 s0_4 s0_5 = some (r1, r2, r3, r4, r5, r6)) ∧ Aside0 (kq ≤ k) ∧ Aside0 (Kd.R (Kd.int .i64) 3 w' w.heap.size (fun k_ => some k_ ≠ (v260 : Value).ownBlock ∧ some k_ ≠ ((.slice Ao21 t241.length co21) : Value).ownBlock) (.slice (some ad253) t247.length co19) t247) ∧ Aside0 (Kd.R (Kd.int .i64) 3 w' w.heap.size (fun k_ => some k_ ≠ ((.slice (some ad253) t247.length co19) : Value).ownBlock ∧ some k_ ≠ ((.slice Ao21 t241.length co21) : Value).ownBlock) v260 x6_1) ∧ Aside0 (Kd.R (Kd.int .i64) 3 w' w.heap.size (fun k_ => some k_ ≠ ((.slice (some ad253) t247.length co19) : Value).ownBlock ∧ some k_ ≠ (v260 : Value).ownBlock) (.slice Ao21 t241.length co21) x7_1) ∧ Aside0 (IsS74 w0 w' g x1000_1 x1001_1 s0_2 x1003_1 s0_4 s0_5) ∧ Aside0 (KeepBut w w' g none) ∧ Aside0 (Below w0.heap.size w0 w'))
      case atStart => exact ⟨(y259), (t241), (wrap64 ((t241.length : Int) - (t247.length : Int))), (t256), (t257), (t258), (by first | rfl | (simp; done) | (simp [*]; done)), H', ⟨Nat.le_refl _⟩, ⟨by (with_reducible repeat (first | apply Kd.R_alloc | apply Kd.R_drewN | apply Kd.R_drew)); exact Kd.R_mono HO249.out (fun _ hk => ⟨hk.2, hk.1.2⟩)⟩, ⟨by (with_reducible repeat (first | apply Kd.R_alloc | apply Kd.R_drewN | apply Kd.R_drew)); exact Kd.R_mono HO261.out (fun _ hk => ⟨hk.2, hk.1.2⟩)⟩, ⟨by (with_reducible repeat (first | apply Kd.R_alloc | apply Kd.R_drewN | apply Kd.R_drew)); exact Kd.R_mono HO243.out (fun _ hk => ⟨hk.1.2, hk.2⟩)⟩, ⟨by repeat (first | (with_reducible first | exact HI0.out | apply IsS74.alloc | apply IsS74.drewN | apply IsS74.drew | apply IsS74.set_0 | apply IsS74.set_1 | apply IsS74.set_3) | exact HI0.out)⟩, ⟨by repeat (first | (with_reducible first | exact HK.out | apply KeepBut.set_ | apply keep_drewN | apply keep_drew | apply keep_alloc) | exact HK.out)⟩, ⟨by repeat (first | (with_reducible first | exact HB.out | apply below_alloc | apply pw_below_drewN | apply below_drew1 | refine below_set ?_ (IsS74.ge HI0.out)) | exact HB.out)⟩⟩
      case round =>
       clear H'
       try clear c1
       try clear c2
       try clear p2
       try clear q2
       try clear hx2
       try clear c4
       try clear c6
       try clear c6b0
       try clear c6b1
       try clear c6b2
       try clear p6
       try clear c11
       try clear c11b0
       try clear c12
       try clear c12b0
       try clear c15
       try clear c15b0
       try clear c15b1
       try clear c16
       try clear c16b0
       try clear c16b1
       try clear c22
       try clear hx253_0
       try clear p253
       try clear q253
       obtain ⟨x6_1, x7_1, x11_1, x1000_1, x1001_1, x1003_1, rfl, HA, HK1, HO_2, HO_6, HO_7, HI0, HK, HB⟩ := hrel
       have hl7_1 := (Kd.R_reads' HO_7.out).1
       rw [hl7_1] at HO_7
       (try simp only [hl7_1])
       (try simp only [hl7_1] at HO_2)
       (try simp only [hl7_1] at HO_6)
       cases gk with
       | zero => exact absurd HA.out (by simp [poly_DivMod.l0])
       | succ k1 =>
        have H := HA.out
        clear HA
        simp only [poly_DivMod.l0] at H
        by_cases c24 : x11_1 ≥ 0
        ·rw [if_pos c24] at H
         have c24b0 : decide (0 ≤ x11_1) = true := decide_eq_true c24
         clear c24
         obtain ⟨ji25, hji25⟩ : ∃ j_ : Int, (wrap64 ((wrap64 (x11_1 + (t247.length : Int))) - 1)) = j_ := ⟨_, rfl⟩
         replace H : (if 0 ≤ (ji25) then (if (ji25) < (x7_1.length : Int) then ((field_GF_Mul.f x1000_1 x1001_1 s0_2 x1003_1 s0_4 s0_5 (rd x7_1 (ji25)) t254).bind fun bt269 => (if 0 ≤ x11_1 then (if x11_1 < (x6_1.length : Int) then (poly_DivMod.l1 k1 t247 (x6_1.set (x11_1 : Int).toNat bt269.1) x7_1 t254 x11_1 bt269.1 t247 (t247.length : Int) 0 bt269.2.1 bt269.2.2.1 s0_2 bt269.2.2.2 s0_4 s0_5) else (none)) else (none))) else (none)) else (none)) = some (r1, r2, r3, r4, r5, r6) := by first | (rw [hji25] at H; exact H) | (simp only [hji25] at H ⊢; exact H)
         have hji25w : (IntKind.i64.wrap ((wrap64 (x11_1 + (t247.length : Int))) - 1)) = ji25 := (i64_w _).trans hji25
         by_cases c26 : 0 ≤ (ji25)
         ·rw [if_pos c26] at H
          have c26b0 : decide (0 ≤ (ji25)) = true := decide_eq_true c26
          clear c26
          by_cases c27 : (ji25) < (x7_1.length : Int)
          ·rw [if_pos c27] at H
           have c27b0 : decide ((ji25) < (x7_1.length : Int)) = true := decide_eq_true c27
           clear c27
           replace H := Option.bind_eq_some_iff.mp H
           obtain ⟨⟨t269, t270, t271, t272⟩, A280, H⟩ := H
           replace H : (if 0 ≤ x11_1 then (if x11_1 < (x6_1.length : Int) then (poly_DivMod.l1 k1 t247 (x6_1.set (x11_1 : Int).toNat t269) x7_1 t254 x11_1 t269 t247 (t247.length : Int) 0 t270 t271 s0_2 t272 s0_4 s0_5) else (none)) else (none)) = some (r1, r2, r3, r4, r5, r6) := H
           have A28 := Aside0.mk A280
           clear A280
           by_cases c29 : 0 ≤ x11_1
           ·rw [if_pos c29] at H
            have c29b0 : decide (0 ≤ x11_1) = true := decide_eq_true c29
            clear c29
            by_cases c30 : x11_1 < (x6_1.length : Int)
            ·rw [if_pos c30] at H
             have c30b0 : decide (x11_1 < (x6_1.length : Int)) = true := decide_eq_true c30
             clear c30
             obtain ⟨y273, hy273⟩ : ∃ y_ : List Int, y_ = (x6_1.set (x11_1 : Int).toNat t269) := ⟨_, rfl⟩
             replace H : (poly_DivMod.l1 k1 t247 y273 x7_1 t254 x11_1 t269 t247 (t247.length : Int) 0 t270 t271 s0_2 t272 s0_4 s0_5) = some (r1, r2, r3, r4, r5, r6) := by first | (rw [hy273]; with_reducible exact H) | (have H2_ := (Option.bind_some _ _).symm.trans H; rw [hy273]; with_reducible exact H2_) | (have H2_ := (Option.bind_some _ _).symm.trans H; with_reducible exact H2_) | with_reducible exact H | (rw [hy273]; exact H) | exact H
             have Ny273 := Aside0.mk hy273
             clear hy273
             have H' := Aside0.mk H
             clear H
             have p268 : 0 ≤ ((ji25) : Int) := of_decide_eq_true (by first | (with_reducible assumption) | assumption)
             have q268 : (ji25) < (x7_1.length : Int) := of_decide_eq_true (by first | (with_reducible assumption) | assumption)
             obtain ⟨ad268, e268, hx268_0⟩ := Kd.at_int (Kd.R_reads' HO_7.out).2.2 (ji25) p268 q268
             cases e268
             replace p268 := eq_true p268
             replace q268 := eq_true q268
             go_wp2_with (first | ((with_reducible refine gate_callee (f := 44) rfl ?_); refine goesL_ (some 62) rfl rfl Try.func44 (by kernel_rfl) rfl #[.pointer (some ⟨g, 0, none⟩), .int .i64 (rd x7_1 (ji25)), .int .i64 t254] rfl (by (try simp only [List.map_toArray, List.map_cons, List.map_nil]); first | done | (simp only [hji25]; rfl) | rfl | (simp only [List.length_drop, List.length_take]; rfl)) ?_; (with_reducible refine (field_GF_Mul.calls g x1000_1 x1001_1 s0_2 x1003_1 s0_4 s0_5 (rd x7_1 (ji25)) t254 t269 t270 t271 t272 w0 _ ?side1 ?side2 A28.out).mono ?_); (case side1 => repeat (first | (with_reducible first | exact HI0.out | apply IsS74.alloc | apply IsS74.drewN | apply IsS74.drew | apply IsS74.set_0 | apply IsS74.set_1 | apply IsS74.set_3) | exact HI0.out)); (case side2 => repeat (first | (with_reducible first | exact HB.out | apply below_alloc | apply pw_below_drewN | apply below_drew1 | refine below_set ?_ (IsS74.ge HI0.out)) | exact HB.out)); rintro e w32 ⟨rfl, hi, hb, hk⟩; refine ⟨_, rfl, ?_⟩; have n0_ := Aside0.mk (Kd.R_mono (Kd.R_keep (IsS74.apart (show IsS74 w0 _ g x1000_1 x1001_1 s0_2 x1003_1 s0_4 s0_5 from by repeat (first | (with_reducible first | exact HI0.out | apply IsS74.alloc | apply IsS74.drewN | apply IsS74.drew | apply IsS74.set_0 | apply IsS74.set_1 | apply IsS74.set_3) | exact HI0.out)) (by (with_reducible repeat (first | apply Kd.R_alloc | apply Kd.R_drewN | apply Kd.R_drew)); exact HO_2.out) (by decide)) hk (fun _ h => h.2)) (fun _ h => h.1)); have n1_ := Aside0.mk (Kd.R_mono (Kd.R_keep (IsS74.apart (show IsS74 w0 _ g x1000_1 x1001_1 s0_2 x1003_1 s0_4 s0_5 from by repeat (first | (with_reducible first | exact HI0.out | apply IsS74.alloc | apply IsS74.drewN | apply IsS74.drew | apply IsS74.set_0 | apply IsS74.set_1 | apply IsS74.set_3) | exact HI0.out)) (by (with_reducible repeat (first | apply Kd.R_alloc | apply Kd.R_drewN | apply Kd.R_drew)); exact HO_6.out) (by decide)) hk (fun _ h => h.2)) (fun _ h => h.1)); have n2_ := Aside0.mk (Kd.R_mono (Kd.R_keep (IsS74.apart (show IsS74 w0 _ g x1000_1 x1001_1 s0_2 x1003_1 s0_4 s0_5 from by repeat (first | (with_reducible first | exact HI0.out | apply IsS74.alloc | apply IsS74.drewN | apply IsS74.drew | apply IsS74.set_0 | apply IsS74.set_1 | apply IsS74.set_3) | exact HI0.out)) (by (with_reducible repeat (first | apply Kd.R_alloc | apply Kd.R_drewN | apply Kd.R_drew)); exact HO_7.out) (by decide)) hk (fun _ h => h.2)) (fun _ h => h.1)); have n3_ := Aside0.mk (KeepBut.trans (by repeat (first | (with_reducible first | exact HK.out | apply KeepBut.set_ | apply keep_drewN | apply keep_drew | apply keep_alloc) | exact HK.out)) hk (.inl rfl)); have n4_ := Aside0.mk (hb); have n5_ := Aside0.mk (hi); clear HO_2; clear HO_6; clear HO_7; clear HK; clear HB; clear HI0; have HO_2 := n0_; have HO_6 := n1_; have HO_7 := n2_; have HK := n3_; have HB := n4_; have HI0 := n5_; clear n0_ n1_ n2_ n3_ n4_ n5_; (try clear hb); (try clear hb2); (try clear hk); (try clear hi); have p31 : 0 ≤ (x11_1 : Int) := of_decide_eq_true (by first | (with_reducible assumption) | assumption); have q31 : (x11_1 : Int) < ((x6_1.length : Int) : Int) := of_decide_eq_true (by first | (with_reducible assumption) | assumption); obtain ⟨go31, co31, eo31, gb31, gl31, cl31, HG31⟩ := Kd.R_form HO_6.out (by omega); (first | cases eo31 | (injection eo31 with ea_ en_ ec_; (first | subst ea_ | (injection ea_ with ea_; subst ea_)); subst ec_; clear en_)); have GB31 := Aside0.mk gb31; have GG31 := Aside0.mk HG31; clear gb31 gl31 HG31; obtain ⟨hx31_0, hf31_0⟩ := Kd.R_celln 0 HO_6.out (x11_1 : Int) p31 q31; replace p31 := eq_true p31; replace q31 := eq_true q31; obtain ⟨hy33_, hz33_⟩ := Kd.R_celln 0 HO_6.out (x11_1 : Int) (of_decide_eq_true (by first | (with_reducible assumption) | assumption)) (of_decide_eq_true (by first | (with_reducible assumption) | assumption)); have HP33 := Kd.R_putg HO_6.out (x11_1 : Int) t269) | ((with_reducible refine gate_store (t := 3) (p := 66) rfl ?_); refine store_event (t := 3) (p := 66) (v := ?vo_w34) (w1 := (w32.setCell ⟨go31, (x11_1 : Int).toNat, none⟩ (.int .i64 t269))) ?hg ?ho ?hn ?hr ?_; (case ho => rfl); (case hg => rfl); (case hn => rfl); (case hr => first | (go_simp; done) | (go_simp; rfl)); intro w34 hw; have hg : w32.grownBy w34 (some go31) := (by rw [hw]; exact HP33.2); have hp_ : Kd.R (Kd.int .i64) 3 w34 w.heap.size (fun k_ => some k_ ≠ (.slice (some ad253) t247.length co19 : Value).ownBlock ∧ some k_ ≠ (.slice (some ad268) x7_1.length co21 : Value).ownBlock) (.slice (some ⟨go31, 0, none⟩) x6_1.length co31) y273 := (by rw [hw, Ny273.out]; exact HP33.1); clear HP33; have n0_ := Aside0.mk (Kd.R_after (v := (.slice (some ⟨go31, 0, none⟩) x6_1.length co31)) (v1 := (.slice (some ⟨go31, 0, none⟩) x6_1.length co31)) (ok := (fun k_ => some k_ ≠ (.slice (some ad268) x7_1.length co21 : Value).ownBlock)) (by (with_reducible repeat (first | apply Kd.R_alloc | apply Kd.R_drewN | apply Kd.R_drew)); exact Kd.R_mono HO_2.out (fun _ hk => ⟨hk.2, hk.1⟩)) hg (.inl rfl)); have n1_ := Aside0.mk (hp_); have n2_ := Aside0.mk (Kd.R_after (v := (.slice (some ⟨go31, 0, none⟩) x6_1.length co31)) (v1 := (.slice (some ⟨go31, 0, none⟩) x6_1.length co31)) (ok := (fun k_ => some k_ ≠ (.slice (some ad253) t247.length co19 : Value).ownBlock)) (by (with_reducible repeat (first | apply Kd.R_alloc | apply Kd.R_drewN | apply Kd.R_drew)); exact HO_7.out) hg (.inl rfl)); have n3_ := Aside0.mk (IsS74.grown (by repeat (first | (with_reducible first | exact HI0.out | apply IsS74.alloc | apply IsS74.drewN | apply IsS74.drew | apply IsS74.set_0 | apply IsS74.set_1 | apply IsS74.set_3) | exact HI0.out)) hg (IsS74.own_ne HI0.out HO_6.out (by decide))); have n4_ := Aside0.mk ((by rw [hw]; exact below_set (HB.out) (Nat.le_trans HL.out GB31.out) : Below w0.heap.size w0 w34)); have n5_ := Aside0.mk (KeepBut.trans (by repeat (first | (with_reducible first | exact HK.out | apply KeepBut.set_ | apply keep_drewN | apply keep_drew | apply keep_alloc) | exact HK.out)) (KeepBut.of_grown hg g) (Kd.R_base2 HO_6.out)); clear HO_2; clear HO_6; clear HO_7; clear HI0; clear HB; clear HK; have HO_2 := n0_; have HO_6 := n1_; have HO_7 := n2_; have HI0 := n3_; have HB := n4_; have HK := n5_; clear n0_ n1_ n2_ n3_ n4_ n5_; clear hg hw hp_))
             go_loopg [69] k1 (fun kq v69 w' => ∃ (x7_2 : List Int) (x69_2 : Int) (x1000_2 : Int) (x1001_2 : Int) (x1003_2 : Int), v69 = .int .i64 x69_2 ∧ Aside0 (poly_DivMod.l1 kq t247 y273 x7_2 t254 x11_1 t269 t247 (t247.length : Int) x69_2 x1000_2 x1001_2 s0_2 x1003_2 s0_4 s0_5 = some (r1, r2, r3, r4, r5, r6)) ∧ Aside0 (kq ≤ k1) ∧ Aside0 (Kd.R (Kd.int .i64) 3 w' w.heap.size (fun k_ => some k_ ≠ ((.slice (some ⟨go31, 0, none⟩) x6_1.length co31) : Value).ownBlock ∧ some k_ ≠ ((.slice (some ad268) x7_1.length co21) : Value).ownBlock) (.slice (some ad253) t247.length co19) t247) ∧ Aside0 (Kd.R (Kd.int .i64) 3 w' w.heap.size (fun k_ => some k_ ≠ ((.slice (some ad253) t247.length co19) : Value).ownBlock ∧ some k_ ≠ ((.slice (some ad268) x7_1.length co21) : Value).ownBlock ∧ some k_ ≠ ((.slice (some ad253) t247.length co19) : Value).ownBlock) (.slice (some ⟨go31, 0, none⟩) x6_1.length co31) y273) ∧ Aside0 (Kd.R (Kd.int .i64) 3 w' w.heap.size (fun k_ => some k_ ≠ ((.slice (some ad253) t247.length co19) : Value).ownBlock ∧ some k_ ≠ ((.slice (some ⟨go31, 0, none⟩) x6_1.length co31) : Value).ownBlock ∧ some k_ ≠ ((.slice (some ad253) t247.length co19) : Value).ownBlock) (.slice (some ad268) x7_1.length co21) x7_2) ∧ Aside0 (Kd.R (Kd.int .i64) 3 w' w.heap.size (fun k_ => some k_ ≠ ((.slice (some ⟨go31, 0, none⟩) x6_1.length co31) : Value).ownBlock ∧ some k_ ≠ ((.slice (some ad268) x7_1.length co21) : Value).ownBlock) (.slice (some ad253) t247.length co19) t247) ∧ Aside0 (IsS74 w0 w' g x1000_2 x1001_2 s0_2 x1003_2 s0_4 s0_5) ∧ Aside0 (KeepBut w w' g none) ∧ Aside0 (Below w0.heap.size w0 w'))
             case atStart => exact ⟨(x7_1), (0), (t270), (t271), (t272), (by first | rfl | (simp; done) | (simp [*]; done)), H', ⟨Nat.le_refl _⟩, ⟨by (try simp only [hl7_1]); (with_reducible repeat (first | apply Kd.R_alloc | apply Kd.R_drewN | apply Kd.R_drew)); exact Kd.R_mono HO_2.out (fun _ hk => ⟨hk.2, hk.1⟩)⟩, ⟨by (try simp only [hl7_1]); (with_reducible repeat (first | apply Kd.R_alloc | apply Kd.R_drewN | apply Kd.R_drew)); exact Kd.R_mono HO_6.out (fun _ hk => ⟨hk.1, ⟨hk.2, hk.1⟩⟩)⟩, ⟨by (try simp only [hl7_1]); (with_reducible repeat (first | apply Kd.R_alloc | apply Kd.R_drewN | apply Kd.R_drew)); exact Kd.R_mono HO_7.out (fun _ hk => ⟨hk.1, ⟨hk.2, hk.1⟩⟩)⟩, ⟨by (try simp only [hl7_1]); (with_reducible repeat (first | apply Kd.R_alloc | apply Kd.R_drewN | apply Kd.R_drew)); exact Kd.R_mono HO_2.out (fun _ hk => ⟨hk.2, hk.1⟩)⟩, ⟨by repeat (first | (with_reducible first | exact HI0.out | apply IsS74.alloc | apply IsS74.drewN | apply IsS74.drew | apply IsS74.set_0 | apply IsS74.set_1 | apply IsS74.set_3) | exact HI0.out)⟩, ⟨by repeat (first | (with_reducible first | exact HK.out | apply KeepBut.set_ | apply keep_drewN | apply keep_drew | apply keep_alloc) | exact HK.out)⟩, ⟨by repeat (first | (with_reducible first | exact HB.out | apply below_alloc | apply pw_below_drewN | apply below_drew1 | refine below_set ?_ (IsS74.ge HI0.out)) | exact HB.out)⟩⟩
             case round =>
              clear H'
              try clear c1
              try clear c2
              try clear p2
              try clear q2
              try clear hx2
              try clear c3
              try clear p3
              try clear q3
              try clear hx3
              try clear hf3
              try clear c4
              try clear c6
              try clear c6b0
              try clear c6b1
              try clear c6b2
              try clear p6
              try clear c11
              try clear c11b0
              try clear c12
              try clear c12b0
              try clear c15
              try clear c15b0
              try clear c15b1
              try clear c16
              try clear c16b0
              try clear c16b1
              try clear c22
              try clear c24
              try clear c24b0
              try clear p25
              try clear q25
              try clear hx25
              try clear c26
              try clear c26b0
              try clear p26
              try clear q26
              try clear hx26
              try clear c27
              try clear c27b0
              try clear c29
              try clear c29b0
              try clear c30
              try clear c30b0
              try clear p31
              try clear q31
              try clear hx31
              try clear hf31
              try clear hx253_0
              try clear hx268_0
              try clear hx31_0
              try clear p2
              try clear p253
              try clear p268
              try clear p31
              try clear p6
              try clear q2
              try clear q253
              try clear q268
              try clear q31
              obtain ⟨x7_2, x69_2, x1000_2, x1001_2, x1003_2, rfl, HA, HK2, HO_2, HO_6, HO_7, HO_67, HI0, HK, HB⟩ := hrel
              have hl6_2 := (Kd.R_reads' HO_6.out).1
              rw [hl6_2] at HO_6
              (try simp only [hl6_2])
              (try simp only [hl6_2] at HO_2)
              (try simp only [hl6_2] at HO_7)
              (try simp only [hl6_2] at HO_67)
              have hl7_2 := (Kd.R_reads' HO_7.out).1
              rw [hl7_2] at HO_7
              (try simp only [hl7_2])
              (try simp only [hl7_2] at HO_2)
              (try simp only [hl7_2] at HO_6)
              (try simp only [hl7_2] at HO_67)
              cases gk with
              | zero => exact absurd HA.out (by simp [poly_DivMod.l1])
              | succ k2 =>
               have H := HA.out
               clear HA
               simp only [poly_DivMod.l1] at H
               by_cases c35 : x69_2 < (t247.length : Int)
               ·rw [if_pos c35] at H
                have c35b0 : decide (x69_2 < (t247.length : Int)) = true := decide_eq_true c35
                clear c35
                by_cases c36 : 0 ≤ x69_2
                ·rw [if_pos c36] at H
                 have c36b0 : decide (0 ≤ x69_2) = true := decide_eq_true c36
                 clear c36
                 by_cases c37 : x69_2 < (t247.length : Int)
                 ·rw [if_pos c37] at H
                  have c37b0 : decide (x69_2 < (t247.length : Int)) = true := decide_eq_true c37
                  clear c37
                  obtain ⟨ji38, hji38⟩ : ∃ j_ : Int, (wrap64 (x11_1 + x69_2)) = j_ := ⟨_, rfl⟩
                  replace H : (if 0 ≤ (ji38) then (if (ji38) < (x7_2.length : Int) then ((field_GF_Mul.f x1000_2 x1001_2 s0_2 x1003_2 s0_4 s0_5 t269 (rd t247 x69_2)).bind fun bt276 => ((field_GF_Sub.f k2 bt276.2.1 bt276.2.2.1 s0_2 bt276.2.2.2 s0_4 s0_5 (rd x7_2 (ji38)) bt276.1).bind fun bt280 => (poly_DivMod.l1 k2 t247 y273 (x7_2.set ((ji38) : Int).toNat bt280.1) t254 x11_1 t269 t247 (t247.length : Int) (wrap64 (x69_2 + 1)) bt280.2.1 bt280.2.2.1 s0_2 bt280.2.2.2 s0_4 s0_5))) else (none)) else (none)) = some (r1, r2, r3, r4, r5, r6) := by first | (rw [hji38] at H; exact H) | (simp only [hji38] at H ⊢; exact H)
                  have hji38w : (IntKind.i64.wrap (x11_1 + x69_2)) = ji38 := (i64_w _).trans hji38
                  by_cases c39 : 0 ≤ (ji38)
                  ·rw [if_pos c39] at H
                   have c39b0 : decide (0 ≤ (ji38)) = true := decide_eq_true c39
                   clear c39
                   by_cases c40 : (ji38) < (x7_2.length : Int)
                   ·rw [if_pos c40] at H
                    have c40b0 : decide ((ji38) < (x7_2.length : Int)) = true := decide_eq_true c40
                    clear c40
                    replace H := Option.bind_eq_some_iff.mp H
                    obtain ⟨⟨t276, t277, t278, t279⟩, A410, H⟩ := H
                    replace H : ((field_GF_Sub.f k2 t277 t278 s0_2 t279 s0_4 s0_5 (rd x7_2 (ji38)) t276).bind fun bt280 => (poly_DivMod.l1 k2 t247 y273 (x7_2.set ((ji38) : Int).toNat bt280.1) t254 x11_1 t269 t247 (t247.length : Int) (wrap64 (x69_2 + 1)) bt280.2.1 bt280.2.2.1 s0_2 bt280.2.2.2 s0_4 s0_5)) = some (r1, r2, r3, r4, r5, r6) := H
                    have A41 := Aside0.mk A410
                    clear A410
                    replace H := Option.bind_eq_some_iff.mp H
                    obtain ⟨⟨t280, t281, t282, t283⟩, A420, H⟩ := H
                    replace H : (poly_DivMod.l1 k2 t247 y273 (x7_2.set ((ji38) : Int).toNat t280) t254 x11_1 t269 t247 (t247.length : Int) (wrap64 (x69_2 + 1)) t281 t282 s0_2 t283 s0_4 s0_5) = some (r1, r2, r3, r4, r5, r6) := H
                    have A42 := Aside0.mk A420
                    clear A420
                    obtain ⟨y284, hy284⟩ : ∃ y_ : List Int, y_ = (x7_2.set ((ji38) : Int).toNat t280) := ⟨_, rfl⟩
                    replace H : (poly_DivMod.l1 k2 t247 y273 y284 t254 x11_1 t269 t247 (t247.length : Int) (wrap64 (x69_2 + 1)) t281 t282 s0_2 t283 s0_4 s0_5) = some (r1, r2, r3, r4, r5, r6) := by first | (rw [hy284]; with_reducible exact H) | (have H2_ := (Option.bind_some _ _).symm.trans H; rw [hy284]; with_reducible exact H2_) | (have H2_ := (Option.bind_some _ _).symm.trans H; with_reducible exact H2_) | with_reducible exact H | (rw [hy284]; exact H) | exact H
                    have Ny284 := Aside0.mk hy284
                    clear hy284
                    have H' := Aside0.mk H
                    clear H
                    have p274 : 0 ≤ (x69_2 : Int) := of_decide_eq_true (by first | (with_reducible assumption) | assumption)
                    have q274 : x69_2 < (t247.length : Int) := of_decide_eq_true (by first | (with_reducible assumption) | assumption)
                    obtain ⟨ad274, e274, hx274_0⟩ := Kd.at_int (Kd.R_reads' HO_67.out).2.2 x69_2 p274 q274
                    obtain rfl : ad253 = ad274 := (by injection e274)
                    replace p274 := eq_true p274
                    replace q274 := eq_true q274
                    try go_wp2
                    have n0_ := Aside0.mk (Kd.R_drew HO_2.out)
                    have n1_ := Aside0.mk (Kd.R_drew HO_6.out)
                    have n2_ := Aside0.mk (Kd.R_drew HO_7.out)
                    have n3_ := Aside0.mk (Kd.R_drew HO_67.out)
                    have n4_ := Aside0.mk (IsS74.drew HI0.out)
                    have n5_ := Aside0.mk (keep_drew HK.out)
                    have n6_ := Aside0.mk (below_drew1 HB.out)
                    clear HO_2
                    clear HO_6
                    clear HO_7
                    clear HO_67
                    clear HI0
                    clear HK
                    clear HB
                    have HO_2 := n0_
                    have HO_6 := n1_
                    have HO_7 := n2_
                    have HO_67 := n3_
                    have HI0 := n4_
                    have HK := n5_
                    have HB := n6_
                    clear n0_ n1_ n2_ n3_ n4_ n5_ n6_
                    have p275 : 0 ≤ ((ji38) : Int) := of_decide_eq_true (by first | (with_reducible assumption) | assumption)
                    have q275 : (ji38) < (x7_2.length : Int) := of_decide_eq_true (by first | (with_reducible assumption) | assumption)
                    obtain ⟨ad275, e275, hx275_0⟩ := Kd.at_int (Kd.R_reads' HO_7.out).2.2 (ji38) p275 q275
                    obtain rfl : ad268 = ad275 := (by injection e275)
                    replace p275 := eq_true p275
                    replace q275 := eq_true q275
                    refine start_ (n := 18) (S := fun w' => w'.cell? (ad268.add ((ji38)).toNat) = some (.int .i64 (rd x7_2 (ji38)))) (ds := [17]) #[false, false, false, false, false, false, false, false, false, false, false, false, false, false, false, false, false, false] (by kernel_rfl) rfl rfl (hx275_0) (fun hHeld => ?_); refine with_tabW poly_DivMod.tab14 poly_DivMod.bits14 (fun HT_ HW_ => ?_)
                    generalize wr.drew = w44 at HO_2 HO_6 HO_7 HO_67 HI0 HK HB hx275_0 hHeld ⊢
                    refine pure_ (i := 0) (N := some 74) (v := ?_) (a' := ?_) #[true, false, false, false, false, false, false, false, false, false, false, false, false, false, false, false, false, false] rfl rfl (any_of HT_.out (by kernel_rfl)) (fun _ _ _ h => h) (Or.inl ⟨by rfl, ?_⟩) ?_ ?_
                    rotate_left
                    ·intro w'
                     go_simp
                     with_reducible rfl
                    rotate_left
                    ·simp only [Act.put, List.setIfInBounds_toArray, List.set_cons_zero, List.set_cons_succ, i64_w, i32_w]
                     rfl
                    refine pure_ (i := 1) (N := some 75) (v := ?_) (a' := ?_) #[true, true, false, false, false, false, false, false, false, false, false, false, false, false, false, false, false, false] rfl rfl (any_of HT_.out (by kernel_rfl)) (fun _ _ _ h => h) (Or.inl ⟨by rfl, ?_⟩) ?_ ?_
                    rotate_left
                    ·intro w'
                     go_simp
                     with_reducible rfl
                    rotate_left
                    ·simp only [Act.put, List.setIfInBounds_toArray, List.set_cons_zero, List.set_cons_succ, i64_w, i32_w]
                     rfl
                    refine pure_ (i := 2) (N := some 76) (v := ?_) (a' := ?_) #[true, true, true, false, false, false, false, false, false, false, false, false, false, false, false, false, false, false] rfl rfl (any_of HT_.out (by kernel_rfl)) (fun _ _ _ h => h) (Or.inl ⟨by rfl, ?_⟩) ?_ ?_
                    rotate_left
                    ·intro w'
                     go_simp
                     with_reducible rfl
                    rotate_left
                    ·simp only [Act.put, List.setIfInBounds_toArray, List.set_cons_zero, List.set_cons_succ, i64_w, i32_w]
                     rfl
                    refine pure_ (i := 3) (N := some 77) (v := ?_) (a' := ?_) #[true, true, true, true, false, false, false, false, false, false, false, false, false, false, false, false, false, false] rfl rfl (any_of HT_.out (by kernel_rfl)) (fun _ _ _ h => h) (Or.inl ⟨by rfl, ?_⟩) ?_ ?_
                    rotate_left
                    ·intro w'
                     go_simp
                     with_reducible rfl
                    rotate_left
                    ·simp only [Act.put, List.setIfInBounds_toArray, List.set_cons_zero, List.set_cons_succ, i64_w, i32_w]
                     rfl
                    refine pure_ (i := 4) (N := some 78) (v := ?_) (a' := ?_) #[true, true, true, true, true, false, false, false, false, false, false, false, false, false, false, false, false, false] rfl rfl (any_of HT_.out (by kernel_rfl)) (fun _ _ _ h => h) (Or.inl ⟨by rfl, ?_⟩) ?_ ?_
                    rotate_left
                    ·intro w'
                     go_simp
                     with_reducible rfl
                    rotate_left
                    ·simp only [Act.put, List.setIfInBounds_toArray, List.set_cons_zero, List.set_cons_succ, i64_w, i32_w]
                     rfl
                    refine pure_ (i := 5) (N := some 79) (v := ?_) (a' := ?_) #[true, true, true, true, true, true, false, false, false, false, false, false, false, false, false, false, false, false] rfl rfl (any_of HT_.out (by kernel_rfl)) (fun _ _ _ h => h) (Or.inl ⟨by rfl, ?_⟩) ?_ ?_
                    rotate_left
                    ·intro w'
                     go_simp
                     with_reducible rfl
                    rotate_left
                    ·simp only [Act.put, List.setIfInBounds_toArray, List.set_cons_zero, List.set_cons_succ, i64_w, i32_w]
                     rfl
                    refine pure_ (i := 6) (N := some 80) (v := ?_) (a' := ?_) #[true, true, true, true, true, true, true, false, false, false, false, false, false, false, false, false, false, false] rfl rfl (any_of HT_.out (by kernel_rfl)) (fun _ _ _ h => h) (Or.inl ⟨by rfl, ?_⟩) ?_ ?_
                    rotate_left
                    ·intro w'
                     go_simp
                     with_reducible rfl
                    rotate_left
                    ·simp only [Act.put, List.setIfInBounds_toArray, List.set_cons_zero, List.set_cons_succ, i64_w, i32_w]
                     rfl
                    refine pure_ (i := 7) (N := some 81) (v := ?_) (a' := ?_) #[true, true, true, true, true, true, true, true, false, false, false, false, false, false, false, false, false, false] rfl rfl (any_of HT_.out (by kernel_rfl)) (fun _ _ _ h => h) (Or.inl ⟨by rfl, ?_⟩) ?_ ?_
                    rotate_left
                    ·intro w'
                     go_simp
                     with_reducible rfl
                    rotate_left
                    ·simp only [Act.put, List.setIfInBounds_toArray, List.set_cons_zero, List.set_cons_succ, i64_w, i32_w]
                     rfl
                    refine pure_ (i := 8) (N := some 82) (v := ?_) (a' := ?_) #[true, true, true, true, true, true, true, true, true, false, false, false, false, false, false, false, false, false] rfl rfl (any_of HT_.out (by kernel_rfl)) (fun _ _ _ h => h) (Or.inl ⟨by rfl, ?_⟩) ?_ ?_
                    rotate_left
                    ·intro w'
                     go_simp
                     with_reducible rfl
                    rotate_left
                    ·simp only [Act.put, List.setIfInBounds_toArray, List.set_cons_zero, List.set_cons_succ, i64_w, i32_w]
                     rfl
                    refine pure_ (i := 9) (N := some 83) (v := ?_) (a' := ?_) #[true, true, true, true, true, true, true, true, true, true, false, false, false, false, false, false, false, false] rfl rfl (any_of HT_.out (by kernel_rfl)) (fun _ _ _ h => h) (Or.inl ⟨by rfl, ?_⟩) ?_ ?_
                    rotate_left
                    ·intro w'
                     go_simp
                     with_reducible rfl
                    rotate_left
                    ·simp only [Act.put, List.setIfInBounds_toArray, List.set_cons_zero, List.set_cons_succ, i64_w, i32_w]
                     rfl
                    refine pure_ (i := 11) (N := some 85) (v := ?_) (a' := ?_) #[true, true, true, true, true, true, true, true, true, true, false, true, false, false, false, false, false, false] rfl rfl (any_of HT_.out (by kernel_rfl)) (fun _ _ _ h => h) (Or.inl ⟨by rfl, ?_⟩) ?_ ?_
                    rotate_left
                    ·intro w'
                     go_simp
                     with_reducible rfl
                    rotate_left
                    ·simp only [Act.put, List.setIfInBounds_toArray, List.set_cons_zero, List.set_cons_succ, i64_w, i32_w]
                     rfl
                    refine pure_ (i := 12) (N := some 86) (v := ?_) (a' := ?_) #[true, true, true, true, true, true, true, true, true, true, false, true, true, false, false, false, false, false] rfl rfl (any_of HT_.out (by kernel_rfl)) (fun _ _ _ h => h) (Or.inl ⟨by rfl, ?_⟩) ?_ ?_
                    rotate_left
                    ·intro w'
                     go_simp
                     with_reducible rfl
                    rotate_left
                    ·simp only [Act.put, List.setIfInBounds_toArray, List.set_cons_zero, List.set_cons_succ, i64_w, i32_w]
                     rfl
                    refine pure_ (i := 13) (N := some 87) (v := ?_) (a' := ?_) #[true, true, true, true, true, true, true, true, true, true, false, true, true, true, false, false, false, false] rfl rfl (any_of HT_.out (by kernel_rfl)) (fun _ _ _ h => h) (Or.inl ⟨by rfl, ?_⟩) ?_ ?_
                    rotate_left
                    ·intro w'
                     go_simp
                     with_reducible rfl
                    rotate_left
                    ·simp only [Act.put, List.setIfInBounds_toArray, List.set_cons_zero, List.set_cons_succ, i64_w, i32_w]
                     rfl
                    refine take_ (i := 10) (N := some 84) (v := ?_) (a' := ?_) #[true, true, true, true, true, true, true, true, true, true, true, true, true, true, false, false, false, false] rfl rfl (take_ofW HT_.out HW_.out (by kernel_rfl)) (fun _ _ _ h => h) (Or.inl ⟨by rfl, ?_⟩) hHeld ?_ ?_
                    rotate_left
                    ·intro w' s0
                     go_simp
                     with_reducible rfl
                    rotate_left
                    ·simp only [Act.put, List.setIfInBounds_toArray, List.set_cons_zero, List.set_cons_succ, i64_w, i32_w]
                     rfl
                    refine one_ (i := 14) (N := some 88) #[true, true, true, true, true, true, true, true, true, true, true, true, true, true, true, false, false, false] rfl rfl (one_of HT_.out (by kernel_rfl)) (by decide) (fun K hK => ?_)
                    refine goes_ Try.func44 (by kernel_rfl) rfl #[.pointer (some ⟨g, 0, none⟩), .int .i64 t269, .int .i64 (rd t247 x69_2)] (by rfl) rfl rfl (by (try simp only [List.map_toArray, List.map_cons, List.map_nil]); first | done | rfl | (simp only [List.length_drop, List.length_take]; rfl)) ?_
                    with_reducible refine (field_GF_Mul.calls g x1000_2 x1001_2 s0_2 x1003_2 s0_4 s0_5 t269 (rd t247 x69_2) t276 t277 t278 t279 w0 _ ?side1 ?side2 A41.out).mono ?_
                    (case side1 => repeat (first | (with_reducible first | exact HI0.out | apply IsS74.alloc | apply IsS74.drewN | apply IsS74.drew | apply IsS74.set_0 | apply IsS74.set_1 | apply IsS74.set_3) | exact HI0.out))
                    (case side2 => repeat (first | (with_reducible first | exact HB.out | apply below_alloc | apply pw_below_drewN | apply below_drew1 | refine below_set ?_ (IsS74.ge HI0.out)) | exact HB.out))
                    rintro e w45 ⟨rfl, hi, hb, hk⟩
                    have HS0_ := keep_cell hk (hHeld) (by first | (rw [add_block]; exact Kd.own_blk (IsS74.own_ne HI0.out HO_7.out (by decide))) | (show (Addr.add _ _).block ≠ _; rw [add_block]; exact Kd.own_blk (IsS74.own_ne HI0.out HO_7.out (by decide))) | exact Kd.own_blk (IsS74.own_ne HI0.out HO_7.out (by decide)))
                    refine ⟨_, rfl, ?_⟩
                    have n0_ := Aside0.mk (Kd.R_mono (Kd.R_keep (IsS74.apart (show IsS74 w0 _ g x1000_2 x1001_2 s0_2 x1003_2 s0_4 s0_5 from by repeat (first | (with_reducible first | exact HI0.out | apply IsS74.alloc | apply IsS74.drewN | apply IsS74.drew | apply IsS74.set_0 | apply IsS74.set_1 | apply IsS74.set_3) | exact HI0.out)) (by (with_reducible repeat (first | apply Kd.R_alloc | apply Kd.R_drewN | apply Kd.R_drew)); exact HO_2.out) (by decide)) hk (fun _ h => h.2)) (fun _ h => h.1))
                    have n1_ := Aside0.mk (Kd.R_mono (Kd.R_keep (IsS74.apart (show IsS74 w0 _ g x1000_2 x1001_2 s0_2 x1003_2 s0_4 s0_5 from by repeat (first | (with_reducible first | exact HI0.out | apply IsS74.alloc | apply IsS74.drewN | apply IsS74.drew | apply IsS74.set_0 | apply IsS74.set_1 | apply IsS74.set_3) | exact HI0.out)) (by (with_reducible repeat (first | apply Kd.R_alloc | apply Kd.R_drewN | apply Kd.R_drew)); exact HO_6.out) (by decide)) hk (fun _ h => h.2)) (fun _ h => h.1))
                    have n2_ := Aside0.mk (Kd.R_mono (Kd.R_keep (IsS74.apart (show IsS74 w0 _ g x1000_2 x1001_2 s0_2 x1003_2 s0_4 s0_5 from by repeat (first | (with_reducible first | exact HI0.out | apply IsS74.alloc | apply IsS74.drewN | apply IsS74.drew | apply IsS74.set_0 | apply IsS74.set_1 | apply IsS74.set_3) | exact HI0.out)) (by (with_reducible repeat (first | apply Kd.R_alloc | apply Kd.R_drewN | apply Kd.R_drew)); exact HO_7.out) (by decide)) hk (fun _ h => h.2)) (fun _ h => h.1))
                    have n3_ := Aside0.mk (Kd.R_mono (Kd.R_keep (IsS74.apart (show IsS74 w0 _ g x1000_2 x1001_2 s0_2 x1003_2 s0_4 s0_5 from by repeat (first | (with_reducible first | exact HI0.out | apply IsS74.alloc | apply IsS74.drewN | apply IsS74.drew | apply IsS74.set_0 | apply IsS74.set_1 | apply IsS74.set_3) | exact HI0.out)) (by (with_reducible repeat (first | apply Kd.R_alloc | apply Kd.R_drewN | apply Kd.R_drew)); exact HO_67.out) (by decide)) hk (fun _ h => h.2)) (fun _ h => h.1))
                    have n4_ := Aside0.mk (KeepBut.trans (by repeat (first | (with_reducible first | exact HK.out | apply KeepBut.set_ | apply keep_drewN | apply keep_drew | apply keep_alloc) | exact HK.out)) hk (.inl rfl))
                    have n5_ := Aside0.mk (hb)
                    have n6_ := Aside0.mk (hi)
                    clear HO_2
                    clear HO_6
                    clear HO_7
                    clear HO_67
                    clear HK
                    clear HB
                    clear HI0
                    have HO_2 := n0_
                    have HO_6 := n1_
                    have HO_7 := n2_
                    have HO_67 := n3_
                    have HK := n4_
                    have HB := n5_
                    have HI0 := n6_
                    clear n0_ n1_ n2_ n3_ n4_ n5_ n6_
                    (try clear hb)
                    (try clear hb2)
                    (try clear hk)
                    (try clear hi)
                    refine hK.out _ _ (HS0_) (fun hHeld => ?_)
                    clear hK K
                    refine norm_ (a' := ?_) ?_ ?_
                    rotate_left
                    ·show Act.put _ (some 88) _ = _
                     simp only [Act.put, List.setIfInBounds_toArray, List.set_cons_zero, List.set_cons_succ, i64_w, i32_w]
                     rfl
                    refine one_ (i := 15) (N := some 89) #[true, true, true, true, true, true, true, true, true, true, true, true, true, true, true, true, false, false] rfl rfl (one_of HT_.out (by kernel_rfl)) (by decide) (fun K hK => ?_)
                    refine goes_ Try.func45 (by kernel_rfl) rfl #[.pointer (some ⟨g, 0, none⟩), .int .i64 (rd x7_2 (ji38)), .int .i64 t276] (by rfl) rfl rfl (by (try simp only [List.map_toArray, List.map_cons, List.map_nil]); first | done | (simp only [hji38]; rfl) | rfl | (simp only [List.length_drop, List.length_take]; rfl)) ?_
                    with_reducible refine (field_GF_Sub.calls k2 g t277 t278 s0_2 t279 s0_4 s0_5 (rd x7_2 (ji38)) t276 t280 t281 t282 t283 w0 _ ?side1 ?side2 A42.out).mono ?_
                    (case side1 => repeat (first | (with_reducible first | exact HI0.out | apply IsS74.alloc | apply IsS74.drewN | apply IsS74.drew | apply IsS74.set_0 | apply IsS74.set_1 | apply IsS74.set_3) | exact HI0.out))
                    (case side2 => repeat (first | (with_reducible first | exact HB.out | apply below_alloc | apply pw_below_drewN | apply below_drew1 | refine below_set ?_ (IsS74.ge HI0.out)) | exact HB.out))
                    rintro e w46 ⟨rfl, hi, hb, hk⟩
                    have HS0_ := keep_cell hk (hHeld) (by first | (rw [add_block]; exact Kd.own_blk (IsS74.own_ne HI0.out HO_7.out (by decide))) | (show (Addr.add _ _).block ≠ _; rw [add_block]; exact Kd.own_blk (IsS74.own_ne HI0.out HO_7.out (by decide))) | exact Kd.own_blk (IsS74.own_ne HI0.out HO_7.out (by decide)))
                    refine ⟨_, rfl, ?_⟩
                    have n0_ := Aside0.mk (Kd.R_mono (Kd.R_keep (IsS74.apart (show IsS74 w0 _ g t277 t278 s0_2 t279 s0_4 s0_5 from by repeat (first | (with_reducible first | exact HI0.out | apply IsS74.alloc | apply IsS74.drewN | apply IsS74.drew | apply IsS74.set_0 | apply IsS74.set_1 | apply IsS74.set_3) | exact HI0.out)) (by (with_reducible repeat (first | apply Kd.R_alloc | apply Kd.R_drewN | apply Kd.R_drew)); exact HO_2.out) (by decide)) hk (fun _ h => h.2)) (fun _ h => h.1))
                    have n1_ := Aside0.mk (Kd.R_mono (Kd.R_keep (IsS74.apart (show IsS74 w0 _ g t277 t278 s0_2 t279 s0_4 s0_5 from by repeat (first | (with_reducible first | exact HI0.out | apply IsS74.alloc | apply IsS74.drewN | apply IsS74.drew | apply IsS74.set_0 | apply IsS74.set_1 | apply IsS74.set_3) | exact HI0.out)) (by (with_reducible repeat (first | apply Kd.R_alloc | apply Kd.R_drewN | apply Kd.R_drew)); exact HO_6.out) (by decide)) hk (fun _ h => h.2)) (fun _ h => h.1))
                    have n2_ := Aside0.mk (Kd.R_mono (Kd.R_keep (IsS74.apart (show IsS74 w0 _ g t277 t278 s0_2 t279 s0_4 s0_5 from by repeat (first | (with_reducible first | exact HI0.out | apply IsS74.alloc | apply IsS74.drewN | apply IsS74.drew | apply IsS74.set_0 | apply IsS74.set_1 | apply IsS74.set_3) | exact HI0.out)) (by (with_reducible repeat (first | apply Kd.R_alloc | apply Kd.R_drewN | apply Kd.R_drew)); exact HO_7.out) (by decide)) hk (fun _ h => h.2)) (fun _ h => h.1))
                    have n3_ := Aside0.mk (Kd.R_mono (Kd.R_keep (IsS74.apart (show IsS74 w0 _ g t277 t278 s0_2 t279 s0_4 s0_5 from by repeat (first | (with_reducible first | exact HI0.out | apply IsS74.alloc | apply IsS74.drewN | apply IsS74.drew | apply IsS74.set_0 | apply IsS74.set_1 | apply IsS74.set_3) | exact HI0.out)) (by (with_reducible repeat (first | apply Kd.R_alloc | apply Kd.R_drewN | apply Kd.R_drew)); exact HO_67.out) (by decide)) hk (fun _ h => h.2)) (fun _ h => h.1))
                    have n4_ := Aside0.mk (KeepBut.trans (by repeat (first | (with_reducible first | exact HK.out | apply KeepBut.set_ | apply keep_drewN | apply keep_drew | apply keep_alloc) | exact HK.out)) hk (.inl rfl))
                    have n5_ := Aside0.mk (hb)
                    have n6_ := Aside0.mk (hi)
                    clear HO_2
                    clear HO_6
                    clear HO_7
                    clear HO_67
                    clear HK
                    clear HB
                    clear HI0
                    have HO_2 := n0_
                    have HO_6 := n1_
                    have HO_7 := n2_
                    have HO_67 := n3_
                    have HK := n4_
                    have HB := n5_
                    have HI0 := n6_
                    clear n0_ n1_ n2_ n3_ n4_ n5_ n6_
                    (try clear hb)
                    (try clear hb2)
                    (try clear hk)
                    (try clear hi)
                    have p43 : 0 ≤ ((ji38) : Int) := of_decide_eq_true (by first | (with_reducible assumption) | assumption)
                    have q43 : ((ji38) : Int) < ((x7_2.length : Int) : Int) := of_decide_eq_true (by first | (with_reducible assumption) | assumption)
                    obtain ⟨go43, co43, eo43, gb43, gl43, cl43, HG43⟩ := Kd.R_form HO_7.out (by omega)
                    (first | cases eo43 | (injection eo43 with ea_ en_ ec_; (first | subst ea_ | (injection ea_ with ea_; subst ea_)); subst ec_; clear en_))
                    have GB43 := Aside0.mk gb43
                    have GG43 := Aside0.mk HG43
                    clear gb43 gl43 HG43
                    (first | simp only [add_plain] at hx268_0 | skip)
                    (first | simp only [add_plain] at hx275_0 | skip)
                    obtain ⟨hx43_0, hf43_0⟩ := Kd.R_celln 0 HO_7.out ((ji38) : Int) p43 q43
                    replace p43 := eq_true p43
                    replace q43 := eq_true q43
                    have HN0_go43 := Aside0.mk (show g ≠ go43 from by have h_ := IsS74.own_ne HI0.out HO_7.out (by decide); intro e_; exact h_ (by rw [e_]; rfl))
                    have HP47 := Kd.R_putn HO_7.out ((ji38) : Int) t280
                    rw [← Ny284.out] at HP47
                    have HQ47 := Aside0.mk HP47
                    clear HP47
                    refine hK.out _ _ (HS0_) (fun hHeld => ?_)
                    clear hK K
                    refine norm_ (a' := ?_) ?_ ?_
                    rotate_left
                    ·show Act.put _ (some 89) _ = _
                     simp only [Act.put, List.setIfInBounds_toArray, List.set_cons_zero, List.set_cons_succ, i64_w, i32_w]
                     rfl
                    refine pure_ (i := 16) (N := some 90) (v := ?_) (a' := ?_) #[true, true, true, true, true, true, true, true, true, true, true, true, true, true, true, true, true, false] rfl rfl (any_of HT_.out (by kernel_rfl)) (fun _ _ _ h => h) (Or.inl ⟨by rfl, ?_⟩) ?_ ?_
                    rotate_left
                    ·intro w'
                     go_simp
                     with_reducible rfl
                    rotate_left
                    ·simp only [Act.put, List.setIfInBounds_toArray, List.set_cons_zero, List.set_cons_succ, i64_w, i32_w]
                     rfl
                    refine last_ (i := 17) (N := none) #[true, true, true, true, true, true, true, true, true, true, true, true, true, true, true, true, true, true] rfl rfl (one_of HT_.out (by kernel_rfl)) (by decide) (fun K hK => ?_)
                    refine skip_ (w1 := ?_) (by rfl) rfl ?_ ?_
                    rotate_left
                    ·go_simp
                     rfl
                    refine hK.out _ _ ?_
                    clear hK K
                    refine done_ (done_of HT_.out (by kernel_rfl)) ?_
                    try go_wp2
                    (try simp only [← hl6_2, ← hl7_2])
                    try simp only [add_plain] at *
                    go_roundg k2
                    case measure => have := HK1.out; have := HK2.out; omega
                    case rel => exact ⟨(y284), (wrap64 (x69_2 + 1)), (t281), (t282), (t283), (by first | rfl | (simp; done) | (simp [*]; done)), H', ⟨by have := HK1.out; have := HK2.out; omega⟩, ⟨by (try simp only [hl7_1]); (try simp only [hl6_2]); (try simp only [hl7_2]); (with_reducible repeat (first | apply Kd.R_alloc | apply Kd.R_drewN | apply Kd.R_drew)); exact Kd.R_mono (Kd.R_far (p := ⟨go43, ((ji38) : Int).toNat, none⟩) (Kd.R_mono HO_2.out (fun k_ hk => (⟨hk, fun e_ => hk.2 (by rw [e_]; rfl)⟩ : _ ∧ k_ ≠ go43))) (fun _ hk => hk.2) (.int .i64 t280)) (fun _ hk => ⟨hk.1.1, hk.1.2⟩)⟩, ⟨by (try simp only [hl7_1]); (try simp only [hl6_2]); (try simp only [hl7_2]); (with_reducible repeat (first | apply Kd.R_alloc | apply Kd.R_drewN | apply Kd.R_drew)); exact Kd.R_mono (Kd.R_far (p := ⟨go43, ((ji38) : Int).toNat, none⟩) (Kd.R_mono HO_6.out (fun k_ hk => (⟨hk, fun e_ => hk.2.1 (by rw [e_]; rfl)⟩ : _ ∧ k_ ≠ go43))) (fun _ hk => hk.2) (.int .i64 t280)) (fun _ hk => ⟨hk.1.1, ⟨hk.1.2.1, hk.1.2.2⟩⟩)⟩, ⟨by (try simp only [hl7_1]); (try simp only [hl6_2]); (try simp only [hl7_2]); (with_reducible repeat (first | apply Kd.R_alloc | apply Kd.R_drewN | apply Kd.R_drew)); exact HQ47.out⟩, ⟨by (try simp only [hl7_1]); (try simp only [hl6_2]); (try simp only [hl7_2]); (with_reducible repeat (first | apply Kd.R_alloc | apply Kd.R_drewN | apply Kd.R_drew)); exact Kd.R_mono (Kd.R_far (p := ⟨go43, ((ji38) : Int).toNat, none⟩) (Kd.R_mono HO_67.out (fun k_ hk => (⟨hk, fun e_ => hk.2 (by rw [e_]; rfl)⟩ : _ ∧ k_ ≠ go43))) (fun _ hk => hk.2) (.int .i64 t280)) (fun _ hk => ⟨hk.1.1, hk.1.2⟩)⟩, ⟨by repeat (first | (with_reducible first | exact HI0.out | apply IsS74.alloc | apply IsS74.drewN | apply IsS74.drew | apply IsS74.set_0 | apply IsS74.set_1 | apply IsS74.set_3 | refine IsS74.far ?_ HN0_go43.out _) | exact HI0.out)⟩, ⟨by repeat (first | (with_reducible first | exact HK.out | apply KeepBut.set_ | apply keep_drewN | apply keep_drew | apply keep_alloc | refine keep_far ?_ GB43.out _) | exact HK.out)⟩, ⟨by repeat (first | (with_reducible first | exact HB.out | apply below_alloc | apply pw_below_drewN | apply below_drew1 | refine below_set ?_ (Nat.le_trans HL.out GB43.out) | refine below_set ?_ (IsS74.ge HI0.out)) | exact HB.out)⟩⟩
                   ·rw [if_neg c40] at H
                    exact absurd H (by simp)
                  ·rw [if_neg c39] at H
                   exact absurd H (by simp)
                 ·rw [if_neg c37] at H
                  exact absurd H (by simp)
                ·rw [if_neg c36] at H
                 exact absurd H (by simp)
               ·rw [if_neg c35] at H
                have c35b0 : decide (x69_2 < (t247.length : Int)) = false := decide_eq_false c35
                clear c35
                have H' := Aside0.mk H
                clear H
                go_wp2
                (try simp only [← hl7_1, ← hl6_2, ← hl7_2])
                try simp only [add_plain] at *
                go_roundg k2
                case measure => have := HK1.out; have := HK2.out; omega
                case rel => exact ⟨(y273), (x7_2), (wrap64 (x11_1 - 1)), (x1000_2), (x1001_2), (x1003_2), (by first | rfl | (simp; done) | (simp [*]; done)), H', ⟨by have := HK1.out; have := HK2.out; omega⟩, ⟨by (try simp only [hl7_1]); (try simp only [hl6_2]); (try simp only [hl7_2]); (with_reducible repeat (first | apply Kd.R_alloc | apply Kd.R_drewN | apply Kd.R_drew)); exact HO_2.out⟩, ⟨by (try simp only [hl7_1]); (try simp only [hl6_2]); (try simp only [hl7_2]); (with_reducible repeat (first | apply Kd.R_alloc | apply Kd.R_drewN | apply Kd.R_drew)); exact Kd.R_mono HO_6.out (fun _ hk => ⟨hk.1, hk.2.1⟩)⟩, ⟨by (try simp only [hl7_1]); (try simp only [hl6_2]); (try simp only [hl7_2]); (with_reducible repeat (first | apply Kd.R_alloc | apply Kd.R_drewN | apply Kd.R_drew)); exact Kd.R_mono HO_7.out (fun _ hk => ⟨hk.1, hk.2.1⟩)⟩, ⟨by repeat (first | (with_reducible first | exact HI0.out | apply IsS74.alloc | apply IsS74.drewN | apply IsS74.drew | apply IsS74.set_0 | apply IsS74.set_1 | apply IsS74.set_3) | exact HI0.out)⟩, ⟨by repeat (first | (with_reducible first | exact HK.out | apply KeepBut.set_ | apply keep_drewN | apply keep_drew | apply keep_alloc) | exact HK.out)⟩, ⟨by repeat (first | (with_reducible first | exact HB.out | apply below_alloc | apply pw_below_drewN | apply below_drew1 | refine below_set ?_ (IsS74.ge HI0.out)) | exact HB.out)⟩⟩
            ·rw [if_neg c30] at H
             exact absurd H (by simp)
           ·rw [if_neg c29] at H
            exact absurd H (by simp)
          ·rw [if_neg c27] at H
           exact absurd H (by simp)
         ·rw [if_neg c26] at H
          exact absurd H (by simp)
        ·rw [if_neg c24] at H
         have c24b0 : decide (0 ≤ x11_1) = false := decide_eq_false c24
         clear c24
         replace H := Option.bind_eq_some_iff.mp H
         obtain ⟨t262, A480, H⟩ := H
         replace H : ((poly_trim.f k1 x7_1).bind fun t265 => (some (t262, t265, 0, x1000_1, x1001_1, x1003_1))) = some (r1, r2, r3, r4, r5, r6) := H
         have A48 := Aside0.mk A480
         clear A480
         replace H := Option.bind_eq_some_iff.mp H
         obtain ⟨t265, A490, H⟩ := H
         replace H : (some (t262, t265, 0, x1000_1, x1001_1, x1003_1)) = some (r1, r2, r3, r4, r5, r6) := H
         have A49 := Aside0.mk A490
         clear A490
         simp only [Option.some.injEq, Prod.mk.injEq] at H
         obtain ⟨rfl, rfl, rfl, rfl, rfl, rfl⟩ := H
         obtain ⟨Ao50, co50, eo50⟩ := Kd.R_slice HO_6.out
         subst eo50
         go_wp2_with (first | ((with_reducible refine gate_callee (f := 46) rfl ?_); refine goesL_ (some 93) rfl rfl Try.func46 (by kernel_rfl) rfl #[.slice Ao50 x6_1.length co50] rfl (by (try simp only [List.map_toArray, List.map_cons, List.map_nil]); first | done | rfl | (simp only [List.length_drop, List.length_take]; rfl)) ?_; (with_reducible refine (poly_trim.calls k1 (fun k_ => some k_ = (.slice Ao50 x6_1.length co50 : Value).ownBlock) (.slice Ao50 x6_1.length co50) x6_1 t262 w0 _ ?side1 ?side2 A48.out).mono ?_); (case side1 => repeat (first | (with_reducible first | exact HB.out | apply below_alloc | apply pw_below_drewN | apply below_drew1 | refine below_set ?_ (IsS74.ge HI0.out)) | exact HB.out)); (case side2 => exact Kd.R_lower (Kd.R_tight rfl HO_6.out) HL.out); rintro e w51 ⟨v263, rfl, ho0, hb, hkp⟩; refine ⟨_, rfl, ?_⟩; have n0_ := Aside0.mk (Kd.R_mono (ok' := fun k_ => some k_ ≠ (.slice Ao21 x7_1.length co21 : Value).ownBlock ∧ some k_ ≠ (v263 : Value).ownBlock) (Kd.R_keptB (HO_2.out) hkp (fun k_ hk_ hs_ => (hk_.1) hs_)) (fun k_ hk_ => ⟨hk_.1.2, fun e_ => Or.elim (ho0.1 k_ e_.symm) (fun hs_ => hk_.2.1 hs_) (fun hn_ => Nat.not_le.2 hk_.2.2 hn_)⟩)); have n1_ := Aside0.mk (Kd.R_mono (ok' := fun k_ => some k_ ≠ (.slice (some ad253) t247.length co19 : Value).ownBlock ∧ some k_ ≠ (v263 : Value).ownBlock) (Kd.R_keptB (HO_7.out) hkp (fun k_ hk_ hs_ => (hk_.2) hs_)) (fun k_ hk_ => ⟨hk_.1.1, fun e_ => Or.elim (ho0.1 k_ e_.symm) (fun hs_ => hk_.2.1 hs_) (fun hn_ => Nat.not_le.2 hk_.2.2 hn_)⟩)); have n2_ := Aside0.mk (IsS74.kept (by repeat (first | (with_reducible first | exact HI0.out | apply IsS74.alloc | apply IsS74.drewN | apply IsS74.drew | apply IsS74.set_0 | apply IsS74.set_1 | apply IsS74.set_3) | exact HI0.out)) hkp (fun hs_ => (fun e_ => (IsS74.own_ne HI0.out HO_6.out (by decide)) e_) hs_)); have n3_ := Aside0.mk (Kd.R_mono (ok' := fun k_ => some k_ ≠ (.slice (some ad253) t247.length co19 : Value).ownBlock ∧ some k_ ≠ (.slice Ao21 x7_1.length co21 : Value).ownBlock) (Kd.R_raise (d := (Kd.int .i64)) (b := w0.heap.size) (b' := w.heap.size) (fun _ _ _ _ h_ => h_) ho0 (fun k_ e_ => Or.elim (ho0.1 k_ e_) (fun hs_ => (fun e_ => Kd.R_base HO_6.out k_ e_.symm) hs_) (fun hn_ => Nat.le_trans (keep_size (w := w) (g := g) (row := none) (by repeat (first | (with_reducible first | exact HK.out | apply KeepBut.set_ | apply keep_drewN | apply keep_drew | apply keep_alloc) | exact HK.out))) hn_))) (fun k_ hk_ => ⟨Or.elim hk_ (fun hs_ => fun e_ => (((HO_2.out).1 k_ e_.symm).1) hs_) (fun hn_ => (Kd.fresh' (Kd.R_lt (by (with_reducible repeat (first | apply Kd.R_alloc | apply Kd.R_drewN | apply Kd.R_drew)); exact HO_2.out)) k_ hn_)), Or.elim hk_ (fun hs_ => fun e_ => (((HO_7.out).1 k_ e_.symm).2) hs_) (fun hn_ => (Kd.fresh' (Kd.R_lt (by (with_reducible repeat (first | apply Kd.R_alloc | apply Kd.R_drewN | apply Kd.R_drew)); exact HO_7.out)) k_ hn_))⟩)); have n4_ := Aside0.mk (Kept.keepG (by repeat (first | (with_reducible first | exact HK.out | apply KeepBut.set_ | apply keep_drewN | apply keep_drew | apply keep_alloc) | exact HK.out)) hkp (fun k_ hs_ => (fun e_ => .inr (Kd.R_base HO_6.out k_ e_.symm)) hs_)); have n5_ := Aside0.mk (hb); clear HO_2; clear HO_7; clear HI0; clear HK; clear HB; clear HO_6; have HO_2 := n0_; have HO_7 := n1_; have HI0 := n2_; have HO264 := n3_; have HK := n4_; have HB := n5_; clear n0_ n1_ n2_ n3_ n4_ n5_; (try clear hb); (try clear hkp); (try clear ho0)) | ((with_reducible refine gate_callee (f := 46) rfl ?_); refine goesL_ (some 95) rfl rfl Try.func46 (by kernel_rfl) rfl #[.slice Ao21 x7_1.length co21] rfl (by (try simp only [List.map_toArray, List.map_cons, List.map_nil]); first | done | rfl | (simp only [List.length_drop, List.length_take]; rfl)) ?_; (with_reducible refine (poly_trim.calls k1 (fun k_ => some k_ = (.slice Ao21 x7_1.length co21 : Value).ownBlock) (.slice Ao21 x7_1.length co21) x7_1 t265 w0 _ ?side1 ?side2 A49.out).mono ?_); (case side1 => repeat (first | (with_reducible first | exact HB.out | apply below_alloc | apply pw_below_drewN | apply below_drew1 | refine below_set ?_ (IsS74.ge HI0.out)) | exact HB.out)); (case side2 => exact Kd.R_lower (Kd.R_tight rfl HO_7.out) HL.out); rintro e w52 ⟨v266, rfl, ho0, hb, hkp⟩; refine ⟨_, rfl, ?_⟩; have n0_ := Aside0.mk (Kd.R_mono (ok' := fun k_ => some k_ ≠ (v263 : Value).ownBlock ∧ some k_ ≠ (v266 : Value).ownBlock) (Kd.R_keptB (HO_2.out) hkp (fun k_ hk_ hs_ => (hk_.1) hs_)) (fun k_ hk_ => ⟨hk_.1.2, fun e_ => Or.elim (ho0.1 k_ e_.symm) (fun hs_ => hk_.2.1 hs_) (fun hn_ => Nat.not_le.2 hk_.2.2 hn_)⟩)); have n1_ := Aside0.mk (IsS74.kept (by repeat (first | (with_reducible first | exact HI0.out | apply IsS74.alloc | apply IsS74.drewN | apply IsS74.drew | apply IsS74.set_0 | apply IsS74.set_1 | apply IsS74.set_3) | exact HI0.out)) hkp (fun hs_ => (fun e_ => (IsS74.own_ne HI0.out HO_7.out (by decide)) e_) hs_)); have n2_ := Aside0.mk (Kd.R_mono (ok' := fun k_ => some k_ ≠ (.slice (some ad253) t247.length co19 : Value).ownBlock ∧ some k_ ≠ (v266 : Value).ownBlock) (Kd.R_keptB (HO264.out) hkp (fun k_ hk_ hs_ => (hk_.2) hs_)) (fun k_ hk_ => ⟨hk_.1.1, fun e_ => Or.elim (ho0.1 k_ e_.symm) (fun hs_ => hk_.2.1 hs_) (fun hn_ => Nat.not_le.2 hk_.2.2 hn_)⟩)); have n3_ := Aside0.mk (Kd.R_mono (ok' := fun k_ => some k_ ≠ (.slice (some ad253) t247.length co19 : Value).ownBlock ∧ some k_ ≠ (v263 : Value).ownBlock) (Kd.R_raise (d := (Kd.int .i64)) (b := w0.heap.size) (b' := w.heap.size) (fun _ _ _ _ h_ => h_) ho0 (fun k_ e_ => Or.elim (ho0.1 k_ e_) (fun hs_ => (fun e_ => Kd.R_base HO_7.out k_ e_.symm) hs_) (fun hn_ => Nat.le_trans (keep_size (w := w) (g := g) (row := none) (by repeat (first | (with_reducible first | exact HK.out | apply KeepBut.set_ | apply keep_drewN | apply keep_drew | apply keep_alloc) | exact HK.out))) hn_))) (fun k_ hk_ => ⟨Or.elim hk_ (fun hs_ => fun e_ => (((HO_2.out).1 k_ e_.symm).1) hs_) (fun hn_ => (Kd.fresh' (Kd.R_lt (by (with_reducible repeat (first | apply Kd.R_alloc | apply Kd.R_drewN | apply Kd.R_drew)); exact HO_2.out)) k_ hn_)), Or.elim hk_ (fun hs_ => fun e_ => (((HO264.out).1 k_ e_.symm).2) hs_) (fun hn_ => (Kd.fresh' (Kd.R_lt (by (with_reducible repeat (first | apply Kd.R_alloc | apply Kd.R_drewN | apply Kd.R_drew)); exact HO264.out)) k_ hn_))⟩)); have n4_ := Aside0.mk (Kept.keepG (by repeat (first | (with_reducible first | exact HK.out | apply KeepBut.set_ | apply keep_drewN | apply keep_drew | apply keep_alloc) | exact HK.out)) hkp (fun k_ hs_ => (fun e_ => .inr (Kd.R_base HO_7.out k_ e_.symm)) hs_)); have n5_ := Aside0.mk (hb); clear HO_2; clear HI0; clear HO264; clear HK; clear HB; clear HO_7; have HO_2 := n0_; have HI0 := n1_; have HO264 := n2_; have HO267 := n3_; have HK := n4_; have HB := n5_; clear n0_ n1_ n2_ n3_ n4_ n5_; (try clear hb); (try clear hkp); (try clear ho0)))
         go_ret3
         exact ⟨_, _, by first | rfl | (simp [errW_none, errW_some] <;> rfl) | (simp only [← hji10, ← hji14]; first | rfl | (simp [errW_none, errW_some] <;> rfl)) | (simp [*, errW_none, errW_some] <;> rfl), by (with_reducible repeat (first | apply Kd.R_alloc | apply Kd.R_drewN | apply Kd.R_drew)); exact Kd.R_mono HO264.out (fun _ hk => hk.2), by (with_reducible repeat (first | apply Kd.R_alloc | apply Kd.R_drewN | apply Kd.R_drew)); exact Kd.R_mono HO267.out (fun _ hk => hk.2), by repeat (first | (with_reducible first | exact HI0.out | apply IsS74.alloc | apply IsS74.drewN | apply IsS74.drew | apply IsS74.set_0 | apply IsS74.set_1 | apply IsS74.set_3) | exact HI0.out), by repeat (first | (with_reducible first | exact HB.out | apply below_alloc | apply pw_below_drewN | apply below_drew1 | refine below_set ?_ (IsS74.ge HI0.out)) | exact HB.out), by repeat (first | (with_reducible first | exact HK.out | apply KeepBut.set_ | apply keep_drewN | apply keep_drew | apply keep_alloc) | exact HK.out)⟩
     ·rw [if_neg c16] at H
      exact absurd H (by simp)
    ·rw [if_neg c15] at H
     exact absurd H (by simp)
   ·rw [if_neg c12] at H
    exact absurd H (by simp)
  ·rw [if_neg c11] at H
   exact absurd H (by simp)
def codewrightlaw05_same.l0 : Nat → List Int → List Int → Int → Int → Option (Bool)
 | 0, _, _, _, _ => none
 | k + 1, x0, x1, x12, x13 => if x13 < x12 then (if 0 ≤ x13 then (if x13 < (x0.length : Int) then (if x13 < (x1.length : Int) then (if (rd x0 x13) = (rd x1 x13) then (codewrightlaw05_same.l0 k x0 x1 x12 (wrap64 (x13 + 1))) else (some false)) else (none)) else (none)) else (none)) else (some true)
def codewrightlaw05_same.f (k : Nat) (l0 : List Int) (l1 : List Int) : Option (Bool) := if (l0.length : Int) = (l1.length : Int) then (codewrightlaw05_same.l0 k l0 l1 (l0.length : Int) 0) else (some false)
set_option maxHeartbeats 8000000 in
set_option maxRecDepth 100000 in
theorem codewrightlaw05_same.calls (k : Nat) (A0 : Option Addr) (c0 : Nat) (l0 : List Int) (A1 : Option Addr) (c1 : Nat) (l1 : List Int) (r : Bool) (w : World) (hr0 : Kd.C (Kd.int .i64) w A0 l0.length l0) (hc0 : l0.length ≤ c0) (hr1 : Kd.C (Kd.int .i64) w A1 l1.length l1) (hc1 : l1.length ≤ c1) (h : codewrightlaw05_same.f k l0 l1 = some r) :
  Calls Try.prog 20 #[.slice A0 l0.length c0, .slice A1 l1.length c1] w fun e w' => e = .returned (.bool r) ∧ Drawn0 w w' := by
 have HR0 := Aside0.mk hr0
 have HC0 := Aside0.mk hc0
 clear hr0 hc0
 have HR1 := Aside0.mk hr1
 have HC1 := Aside0.mk hc1
 clear hr1 hc1
 have H : (if (l0.length : Int) = (l1.length : Int) then (codewrightlaw05_same.l0 k l0 l1 (l0.length : Int) 0) else (some false)) = some r := h
 clear h
 by_cases c3 : (l0.length : Int) = (l1.length : Int)
 ·rw [if_pos c3] at H
  have c3b0 : ((l0.length : Int) == (l1.length : Int)) = true := beq_iff_eq.mpr c3
  have c3b1 : ((l0.length : Int) != (l1.length : Int)) = false := bne_eq_false_iff_eq.mpr c3
  have c3b2 : (l0.length == l1.length) = true := by first | simpa using c3 | (simp at c3 ⊢; omega)
  clear c3
  have H' := Aside0.mk H
  clear H
  go_enter Try.func20, Try.ntmps20
  go_wp2
  repeat (go_quiet (fail); try go_wp2)
  go_loopg [13] k (fun kq v13 w' => ∃ (x13_1 : Int), v13 = .int .i64 x13_1 ∧ Aside0 (codewrightlaw05_same.l0 kq l0 l1 (l0.length : Int) x13_1 = some r) ∧ Aside0 (kq ≤ k) ∧ Drawn0 w w')
  case atStart => exact ⟨(0), (by first | rfl | (simp; done) | (simp [*]; done)), H', ⟨Nat.le_refl _⟩, by repeat (first | exact Drawn0.refl _ | apply Drawn0.step)⟩
  case round =>
   clear H'
   try clear c1
   try clear c2
   try clear p2
   try clear c3
   try clear c3b0
   try clear c3b1
   try clear c3b2
   obtain ⟨x13_1, rfl, HA, HK1, ⟨m1, rfl⟩⟩ := hrel
   cases gk with
   | zero => exact absurd HA.out (by simp [codewrightlaw05_same.l0])
   | succ k1 =>
    have H := HA.out
    clear HA
    simp only [codewrightlaw05_same.l0] at H
    by_cases c4 : x13_1 < (l0.length : Int)
    ·rw [if_pos c4] at H
     have c4b0 : decide (x13_1 < (l0.length : Int)) = true := decide_eq_true c4
     clear c4
     by_cases c5 : 0 ≤ x13_1
     ·rw [if_pos c5] at H
      have c5b0 : decide (0 ≤ x13_1) = true := decide_eq_true c5
      clear c5
      by_cases c6 : x13_1 < (l0.length : Int)
      ·rw [if_pos c6] at H
       have c6b0 : decide (x13_1 < (l0.length : Int)) = true := decide_eq_true c6
       clear c6
       by_cases c7 : x13_1 < (l1.length : Int)
       ·rw [if_pos c7] at H
        have c7b0 : decide (x13_1 < (l1.length : Int)) = true := decide_eq_true c7
        clear c7
        by_cases c8 : (rd l0 x13_1) = (rd l1 x13_1)
        ·rw [if_pos c8] at H
         have c8b0 : ((rd l0 x13_1) == (rd l1 x13_1)) = true := beq_iff_eq.mpr c8
         have c8b1 : ((rd l0 x13_1) != (rd l1 x13_1)) = false := bne_eq_false_iff_eq.mpr c8
         clear c8
         have H' := Aside0.mk H
         clear H
         have p285 : 0 ≤ (x13_1 : Int) := of_decide_eq_true (by first | (with_reducible assumption) | assumption)
         have q285 : x13_1 < (l0.length : Int) := of_decide_eq_true (by first | (with_reducible assumption) | assumption)
         obtain ⟨ad285, e285, hx285_0⟩ := Kd.at_int HR0.out x13_1 p285 q285
         cases e285
         replace p285 := eq_true p285
         replace q285 := eq_true q285
         have p286 : 0 ≤ (x13_1 : Int) := of_decide_eq_true (by first | (with_reducible assumption) | assumption)
         have q286 : x13_1 < (l1.length : Int) := of_decide_eq_true (by first | (with_reducible assumption) | assumption)
         obtain ⟨ad286, e286, hx286_0⟩ := Kd.at_int HR1.out x13_1 p286 q286
         cases e286
         replace p286 := eq_true p286
         replace q286 := eq_true q286
         go_wp2
         repeat (go_quiet (fail); try go_wp2)
         go_roundg k1
         case measure => have := HK1.out; omega
         case rel => exact ⟨(wrap64 (x13_1 + 1)), (by first | rfl | (simp; done) | (simp [*]; done)), H', ⟨by have := HK1.out; omega⟩, by repeat (first | exact Drawn0.refl _ | apply Drawn0.step)⟩
        ·rw [if_neg c8] at H
         have c8b0 : ((rd l0 x13_1) == (rd l1 x13_1)) = false := beq_eq_false_iff_ne.mpr c8
         have c8b1 : ((rd l0 x13_1) != (rd l1 x13_1)) = true := bne_iff_ne.mpr c8
         obtain rfl := Option.some.inj H
         have p285 : 0 ≤ (x13_1 : Int) := of_decide_eq_true (by first | (with_reducible assumption) | assumption)
         have q285 : x13_1 < (l0.length : Int) := of_decide_eq_true (by first | (with_reducible assumption) | assumption)
         obtain ⟨ad285, e285, hx285_0⟩ := Kd.at_int HR0.out x13_1 p285 q285
         cases e285
         replace p285 := eq_true p285
         replace q285 := eq_true q285
         have p286 : 0 ≤ (x13_1 : Int) := of_decide_eq_true (by first | (with_reducible assumption) | assumption)
         have q286 : x13_1 < (l1.length : Int) := of_decide_eq_true (by first | (with_reducible assumption) | assumption)
         obtain ⟨ad286, e286, hx286_0⟩ := Kd.at_int HR1.out x13_1 p286 q286
         cases e286
         replace p286 := eq_true p286
         replace q286 := eq_true q286
         go_wp2
         repeat (go_quiet (fail); try go_wp2)
         go_ret
         exact ⟨by first | rfl | (simp; done) | (simp [*]; done), by repeat (first | exact Drawn0.refl _ | apply Drawn0.step)⟩
       ·rw [if_neg c7] at H
        exact absurd H (by simp)
      ·rw [if_neg c6] at H
       exact absurd H (by simp)
     ·rw [if_neg c5] at H
      exact absurd H (by simp)
    ·rw [if_neg c4] at H
     have c4b0 : decide (x13_1 < (l0.length : Int)) = false := decide_eq_false c4
     clear c4
     obtain rfl := Option.some.inj H
     go_wp2
     repeat (go_quiet (fail); try go_wp2)
     go_ret
     exact ⟨by first | rfl | (simp; done) | (simp [*]; done), by repeat (first | exact Drawn0.refl _ | apply Drawn0.step)⟩
 ·rw [if_neg c3] at H
  have c3b0 : ((l0.length : Int) == (l1.length : Int)) = false := beq_eq_false_iff_ne.mpr c3
  have c3b1 : ((l0.length : Int) != (l1.length : Int)) = true := bne_iff_ne.mpr c3
  have c3b2 : (l0.length == l1.length) = false := by first | simpa using c3 | (simp at c3 ⊢; omega)
  obtain rfl := Option.some.inj H
  go_enter Try.func20, Try.ntmps20
  go_wp2
  repeat (go_quiet (fail); try go_wp2)
  go_ret
  exact ⟨by first | rfl | (simp; done) | (simp [*]; done), by repeat (first | exact Drawn0.refl _ | apply Drawn0.step)⟩
end Go.Proofs.Ytccmpmkmgehkiaa.PA
end
section
namespace Go.Proofs.Ytccmpmkmgehkiaa.PA
open Go.RowKit Go.Proofs.YtccmpmkmgehkiaaW.PrintWords Go.Proofs.YtccmpmkmgehkiaaW.PrintLast Go.Proofs.YtccmpmkmgehkiaaW.PrintMore
attribute [local go_sem] max2_int min2_int max_two min_two max_three min_three max_four min_four
set_option linter.unusedVariables false
set_option linter.unusedSimpArgs false
mutual
def poly_product.j0 : Nat → List Int → List Int → Bool → Int → Int → List Int → Int → List Int → List Int → Option (List Int × Int × Int × Int)
 | 0, _, _, _, _, _, _, _, _, _ => none
 | k + 1, x1, x2, x25, x1000, x1001, x1002, x1003, x1004, x1005 => if x25 = true then (some (([] : List Int), x1000, x1001, x1003)) else (if 0 ≤ (wrap64 ((wrap64 ((x1.length : Int) + (x2.length : Int))) - 1)) then (if (wrap64 ((wrap64 ((x1.length : Int) + (x2.length : Int))) - 1) : Int).toNat ≤ 35184372088832 then (poly_product.l0 k x2 (List.replicate (wrap64 ((wrap64 ((x1.length : Int) + (x2.length : Int))) - 1) : Int).toNat 0) x1 (x1.length : Int) 0 x1000 x1001 x1002 x1003 x1004 x1005) else (none)) else (none))
def poly_product.l0 : Nat → List Int → List Int → List Int → Int → Int → Int → Int → List Int → Int → List Int → List Int → Option (List Int × Int × Int × Int)
 | 0, _, _, _, _, _, _, _, _, _, _, _ => none
 | k + 1, x2, x7, x33, x34, x35, x1000, x1001, x1002, x1003, x1004, x1005 => if x35 < x34 then (if 0 ≤ x35 then (if x35 < (x33.length : Int) then (poly_product.l1 k x2 x7 x35 (rd x33 x35) x33 x34 x35 x2 (x2.length : Int) 0 x1000 x1001 x1002 x1003 x1004 x1005) else (none)) else (none)) else (some (x7, x1000, x1001, x1003))
def poly_product.l1 : Nat → List Int → List Int → Int → Int → List Int → Int → Int → List Int → Int → Int → Int → Int → List Int → Int → List Int → List Int → Option (List Int × Int × Int × Int)
 | 0, _, _, _, _, _, _, _, _, _, _, _, _, _, _, _, _ => none
 | k + 1, x2, x7, x8, x9, x33, x34, x35, x40, x41, x42, x1000, x1001, x1002, x1003, x1004, x1005 => if x42 < x41 then (if 0 ≤ x42 then (if x42 < (x40.length : Int) then (if 0 ≤ (wrap64 (x8 + x42)) then (if (wrap64 (x8 + x42)) < (x7.length : Int) then ((field_GF_Mul.f x1000 x1001 x1002 x1003 x1004 x1005 x9 (rd x40 x42)).bind fun bt305 => ((field_GF_Add.f k bt305.2.1 bt305.2.2.1 x1002 bt305.2.2.2 x1004 x1005 (rd x7 (wrap64 (x8 + x42))) bt305.1).bind fun bt309 => (poly_product.l1 k x2 (x7.set ((wrap64 (x8 + x42)) : Int).toNat bt309.1) x8 x9 x33 x34 x35 x40 x41 (wrap64 (x42 + 1)) bt309.2.1 bt309.2.2.1 x1002 bt309.2.2.2 x1004 x1005))) else (none)) else (none)) else (none)) else (none)) else (poly_product.l0 k x2 x7 x33 x34 (wrap64 (x35 + 1)) x1000 x1001 x1002 x1003 x1004 x1005)
end
def poly_product.f (k : Nat) (s0_0 : Int) (s0_1 : Int) (s0_2 : List Int) (s0_3 : Int) (s0_4 : List Int) (s0_5 : List Int) (l1 : List Int) (l2 : List Int) : Option (List Int × Int × Int × Int) := (poly_Canon.f k s0_0 s0_1 s0_2 s0_3 s0_4 s0_5 l1).bind fun bt287 => ((poly_Canon.f k bt287.2.1 bt287.2.2.1 s0_2 bt287.2.2.2 s0_4 s0_5 l2).bind fun bt293 => (if (bt287.1.length : Int) = 0 then (poly_product.j0 k bt287.1 bt293.1 true bt293.2.1 bt293.2.2.1 s0_2 bt293.2.2.2 s0_4 s0_5) else (poly_product.j0 k bt287.1 bt293.1 ((bt293.1.length : Int) == 0) bt293.2.1 bt293.2.2.1 s0_2 bt293.2.2.2 s0_4 s0_5)))
def poly_product.T11 : Bool × List (List Nat × List Nat) := (true, [([], []), ([], []), ([], []), ([1, 2], [1, 2]), ([], []), ([], []), ([], []), ([], []), ([6, 7], [6, 7]), ([5, 8], [5, 8]), ([9], [9]), ([], []), ([], []), ([], []), ([11, 12, 13], [11, 12, 13]), ([4, 10, 14, 14], [4, 10, 14]), ([0, 3, 0, 1, 2, 3, 4, 5, 6, 7, 8, 9, 10, 11, 12, 13, 14, 15], [0, 3]), ([16, 15, 15, 0, 1, 2, 3, 4, 5, 6, 7, 8, 9, 10, 11, 12, 13, 14, 15], [15, 16])])
def poly_product.B11 : List Nat := [0, 0, 0, 6, 0, 0, 0, 0, 192, 480, 992, 0, 0, 0, 14336, 32752, 65535, 131071]
theorem poly_product.tab11 : rtab .any (opsOf Try.f48 11) = poly_product.T11 := by kernel_rfl
theorem poly_product.bits11 : waitsOk poly_product.T11.2 poly_product.B11 = true := by kernel_rfl
set_option maxHeartbeats 8000000 in
set_option maxRecDepth 100000 in
theorem poly_product.calls (k : Nat) (g : Nat) (s0_0 : Int) (s0_1 : Int) (s0_2 : List Int) (s0_3 : Int) (s0_4 : List Int) (s0_5 : List Int) (A1 : Option Addr) (c1 : Nat) (l1 : List Int) (A2 : Option Addr) (c2 : Nat) (l2 : List Int) (r1 : List Int) (r2 : Int) (r3 : Int) (r4 : Int) (w0 w : World) (hI : IsS74 w0 w g s0_0 s0_1 s0_2 s0_3 s0_4 s0_5) (hB : Below w0.heap.size w0 w) (hr1 : Kd.C (Kd.int .i64) w A1 l1.length l1) (hc1 : l1.length ≤ c1) (hf1 : ∀ ad, A1 = some ad → 0 < l1.length → ad.block ≠ g) (hr2 : Kd.C (Kd.int .i64) w A2 l2.length l2) (hc2 : l2.length ≤ c2) (hf2 : ∀ ad, A2 = some ad → 0 < l2.length → ad.block ≠ g) (h : poly_product.f k s0_0 s0_1 s0_2 s0_3 s0_4 s0_5 l1 l2 = some (r1, r2, r3, r4)) :
  Calls Try.prog 48 #[.pointer (some ⟨g, 0, none⟩), .slice A1 l1.length c1, .slice A2 l2.length c2] w fun e w' => ∃ v0_ : Value, e = .returned (v0_) ∧ Kd.R (Kd.int .i64) 3 w' w.heap.size (fun _ => True) v0_ r1 ∧ IsS74 w0 w' g r2 r3 s0_2 r4 s0_4 s0_5 ∧ Below w0.heap.size w0 w' ∧ KeepBut w w' g none := by
 have HR1 := Aside0.mk hr1
 have HC1 := Aside0.mk hc1
 clear hr1 hc1
 have HR2 := Aside0.mk hr2
 have HC2 := Aside0.mk hc2
 clear hr2 hc2
 have HI0 := Aside0.mk hI
 have HK := Aside0.mk (KeepBut.refl w g none)
 have HL := Aside0.mk hB.size
 clear hI
 have HW0 := Aside0.mk hB.size
 have HB := Aside0.mk hB
 clear hB
 have H : ((poly_Canon.f k s0_0 s0_1 s0_2 s0_3 s0_4 s0_5 l1).bind fun bt287 => ((poly_Canon.f k bt287.2.1 bt287.2.2.1 s0_2 bt287.2.2.2 s0_4 s0_5 l2).bind fun bt293 => (if (bt287.1.length : Int) = 0 then (poly_product.j0 k bt287.1 bt293.1 true bt293.2.1 bt293.2.2.1 s0_2 bt293.2.2.2 s0_4 s0_5) else (poly_product.j0 k bt287.1 bt293.1 ((bt293.1.length : Int) == 0) bt293.2.1 bt293.2.2.1 s0_2 bt293.2.2.2 s0_4 s0_5)))) = some (r1, r2, r3, r4) := h
 clear h
 replace H := Option.bind_eq_some_iff.mp H
 obtain ⟨⟨t287, t290, t291, t292⟩, A40, H⟩ := H
 replace H : ((poly_Canon.f k t290 t291 s0_2 t292 s0_4 s0_5 l2).bind fun bt293 => (if (t287.length : Int) = 0 then (poly_product.j0 k t287 bt293.1 true bt293.2.1 bt293.2.2.1 s0_2 bt293.2.2.2 s0_4 s0_5) else (poly_product.j0 k t287 bt293.1 ((bt293.1.length : Int) == 0) bt293.2.1 bt293.2.2.1 s0_2 bt293.2.2.2 s0_4 s0_5))) = some (r1, r2, r3, r4) := H
 have A4 := Aside0.mk A40
 clear A40
 replace H := Option.bind_eq_some_iff.mp H
 obtain ⟨⟨t293, t296, t297, t298⟩, A50, H⟩ := H
 replace H : (if (t287.length : Int) = 0 then (poly_product.j0 k t287 t293 true t296 t297 s0_2 t298 s0_4 s0_5) else (poly_product.j0 k t287 t293 ((t293.length : Int) == 0) t296 t297 s0_2 t298 s0_4 s0_5)) = some (r1, r2, r3, r4) := H
 have A5 := Aside0.mk A50
 clear A50
 have HC6 := Aside0.mk H
 clear H
 go_enter Try.func48, Try.ntmps48
 go_upto_region 2 with (first | ((with_reducible refine gate_callee (f := 22) rfl ?_); refine goesL_ (some 14) rfl rfl Try.func22 (by kernel_rfl) rfl #[.pointer (some ⟨g, 0, none⟩), .slice A1 l1.length c1] rfl (by (try simp only [List.map_toArray, List.map_cons, List.map_nil]); first | done | rfl | (simp only [List.length_drop, List.length_take]; rfl)) ?_; (with_reducible refine (poly_Canon.calls k g s0_0 s0_1 s0_2 s0_3 s0_4 s0_5 _ _ l1 t287 t290 t291 t292 w0 _ ?side1 ?side2 ?side3 ?side4 ?side5 A4.out).mono ?_); (case side1 => repeat (first | (with_reducible first | exact HI0.out | apply IsS74.alloc | apply IsS74.drewN | apply IsS74.drew | apply IsS74.set_0 | apply IsS74.set_1 | apply IsS74.set_3) | exact HI0.out)); (case side2 => repeat (first | (with_reducible first | exact HB.out | apply below_alloc | apply pw_below_drewN | apply below_drew1 | refine below_set ?_ (IsS74.ge HI0.out)) | exact HB.out)); (case side3 => exact Kd.C_keep 0 HR1.out (by repeat (first | (with_reducible first | exact HK.out | apply KeepBut.set_ | apply keep_drewN | apply keep_drew | apply keep_alloc) | exact HK.out)) hf1); (case side4 => exact HC1.out); (case side5 => exact hf1); rintro e w7 ⟨v288, rfl, ho0, hi, hb, hk⟩; refine ⟨_, rfl, ?_⟩; have n0_ := Aside0.mk (Kd.R_lower ho0 (keep_size (w := w) (g := g) (row := none) (by repeat (first | (with_reducible first | exact HK.out | apply KeepBut.set_ | apply keep_drewN | apply keep_drew | apply keep_alloc) | exact HK.out)))); have n1_ := Aside0.mk (KeepBut.trans (by repeat (first | (with_reducible first | exact HK.out | apply KeepBut.set_ | apply keep_drewN | apply keep_drew | apply keep_alloc) | exact HK.out)) hk (.inl rfl)); have n2_ := Aside0.mk (hb); have n3_ := Aside0.mk (hi); clear HK; clear HB; clear HI0; have HO289 := n0_; have HK := n1_; have HB := n2_; have HI0 := n3_; clear n0_ n1_ n2_ n3_; (try clear hb); (try clear hb2); (try clear hk); (try clear hi); (try clear ho0)) | ((with_reducible refine gate_callee (f := 22) rfl ?_); refine goesL_ (some 17) rfl rfl Try.func22 (by kernel_rfl) rfl #[.pointer (some ⟨g, 0, none⟩), .slice A2 l2.length c2] rfl (by (try simp only [List.map_toArray, List.map_cons, List.map_nil]); first | done | rfl | (simp only [List.length_drop, List.length_take]; rfl)) ?_; (with_reducible refine (poly_Canon.calls k g t290 t291 s0_2 t292 s0_4 s0_5 _ _ l2 t293 t296 t297 t298 w0 _ ?side1 ?side2 ?side3 ?side4 ?side5 A5.out).mono ?_); (case side1 => repeat (first | (with_reducible first | exact HI0.out | apply IsS74.alloc | apply IsS74.drewN | apply IsS74.drew | apply IsS74.set_0 | apply IsS74.set_1 | apply IsS74.set_3) | exact HI0.out)); (case side2 => repeat (first | (with_reducible first | exact HB.out | apply below_alloc | apply pw_below_drewN | apply below_drew1 | refine below_set ?_ (IsS74.ge HI0.out)) | exact HB.out)); (case side3 => exact Kd.C_keep 0 HR2.out (by repeat (first | (with_reducible first | exact HK.out | apply KeepBut.set_ | apply keep_drewN | apply keep_drew | apply keep_alloc) | exact HK.out)) hf2); (case side4 => exact HC2.out); (case side5 => exact hf2); rintro e w8 ⟨v294, rfl, ho0, hi, hb, hk⟩; refine ⟨_, rfl, ?_⟩; have n0_ := Aside0.mk (Kd.R_mono (Kd.R_told (Kd.R_oldK (IsS74.apart (show IsS74 w0 _ g t290 t291 s0_2 t292 s0_4 s0_5 from by repeat (first | (with_reducible first | exact HI0.out | apply IsS74.alloc | apply IsS74.drewN | apply IsS74.drew | apply IsS74.set_0 | apply IsS74.set_1 | apply IsS74.set_3) | exact HI0.out)) (by (with_reducible repeat (first | apply Kd.R_alloc | apply Kd.R_drewN | apply Kd.R_drew)); exact HO289.out) (by decide)) hk) (Kd.R_base ho0)) (fun _ h_ => h_.1)); have n1_ := Aside0.mk (Kd.R_lower (Kd.R_new' ho0 (Kd.R_lt (by (with_reducible repeat (first | apply Kd.R_alloc | apply Kd.R_drewN | apply Kd.R_drew)); exact HO289.out))) (keep_size (w := w) (g := g) (row := none) (by repeat (first | (with_reducible first | exact HK.out | apply KeepBut.set_ | apply keep_drewN | apply keep_drew | apply keep_alloc) | exact HK.out)))); have n2_ := Aside0.mk (KeepBut.trans (by repeat (first | (with_reducible first | exact HK.out | apply KeepBut.set_ | apply keep_drewN | apply keep_drew | apply keep_alloc) | exact HK.out)) hk (.inl rfl)); have n3_ := Aside0.mk (hb); have n4_ := Aside0.mk (hi); clear HO289; clear HK; clear HB; clear HI0; have HO289 := n0_; have HO295 := n1_; have HK := n2_; have HB := n3_; have HI0 := n4_; clear n0_ n1_ n2_ n3_ n4_; (try clear hb); (try clear hb2); (try clear hk); (try clear hi); (try clear ho0)))
 (try simp only [Act.put, List.setIfInBounds_toArray, List.set_cons_zero, List.set_cons_succ])
 go_cut [25] (fun v25 wc => ∃ (kq : Nat) (x25_5 : Bool), v25 = .bool x25_5 ∧ Aside0 (poly_product.j0 kq t287 t293 x25_5 t296 t297 s0_2 t298 s0_4 s0_5 = some (r1, r2, r3, r4)) ∧ Aside0 (kq ≤ k) ∧ Aside0 (Kd.R (Kd.int .i64) 3 wc w.heap.size (fun k_ => some k_ ≠ (v294 : Value).ownBlock) v288 t287) ∧ Aside0 (Kd.R (Kd.int .i64) 3 wc w.heap.size (fun k_ => some k_ ≠ (v288 : Value).ownBlock) v294 t293) ∧ Aside0 (IsS74 w0 wc g t296 t297 s0_2 t298 s0_4 s0_5) ∧ Aside0 (KeepBut w wc g none) ∧ Aside0 (Below w0.heap.size w0 wc))
 case first =>
  have H := HC6.out
  clear HC6
  by_cases c9 : (t287.length : Int) = 0
  ·rw [if_pos c9] at H
   have c9b0 : ((t287.length : Int) == 0) = true := beq_iff_eq.mpr c9
   have c9b1 : ((t287.length : Int) != 0) = false := bne_eq_false_iff_eq.mpr c9
   clear c9
   (first | rw [c9b0] | (simp only [i64_w, i32_w]; rw [c9b0]) | skip)
   have H' := Aside0.mk H
   clear H
   obtain ⟨Ao10, co10, eo10⟩ := Kd.R_slice HO289.out
   subst eo10
   go_wp2
   go_meet
   case rel => exact ⟨_, (true), (by first | rfl | (simp; done) | (simp [*]; done)), H', ⟨by first | omega | exact Nat.le_refl _⟩, ⟨by (with_reducible repeat (first | apply Kd.R_alloc | apply Kd.R_drewN | apply Kd.R_drew)); exact Kd.R_mono HO289.out (fun _ hk => hk.2)⟩, ⟨by (with_reducible repeat (first | apply Kd.R_alloc | apply Kd.R_drewN | apply Kd.R_drew)); exact Kd.R_mono HO295.out (fun _ hk => hk.2)⟩, ⟨by repeat (first | (with_reducible first | exact HI0.out | apply IsS74.alloc | apply IsS74.drewN | apply IsS74.drew | apply IsS74.set_0 | apply IsS74.set_1 | apply IsS74.set_3) | exact HI0.out)⟩, ⟨by repeat (first | (with_reducible first | exact HK.out | apply KeepBut.set_ | apply keep_drewN | apply keep_drew | apply keep_alloc) | exact HK.out)⟩, ⟨by repeat (first | (with_reducible first | exact HB.out | apply below_alloc | apply pw_below_drewN | apply below_drew1 | refine below_set ?_ (IsS74.ge HI0.out)) | exact HB.out)⟩⟩
  ·rw [if_neg c9] at H
   have c9b0 : ((t287.length : Int) == 0) = false := beq_eq_false_iff_ne.mpr c9
   have c9b1 : ((t287.length : Int) != 0) = true := bne_iff_ne.mpr c9
   have c9b2 : ¬ (t287 = []) := fun h_ => c9 (by rw [h_]; rfl)
   (first | rw [c9b0] | (simp only [i64_w, i32_w]; rw [c9b0]) | skip)
   have H' := Aside0.mk H
   clear H
   obtain ⟨Ao11, co11, eo11⟩ := Kd.R_slice HO289.out
   subst eo11
   obtain ⟨Ao12, co12, eo12⟩ := Kd.R_slice HO295.out
   subst eo12
   go_wp2
   go_meet
   case rel => exact ⟨_, (((t293.length : Int) == 0)), (by first | rfl | (simp; done) | (simp [*]; done)), H', ⟨by first | omega | exact Nat.le_refl _⟩, ⟨by (with_reducible repeat (first | apply Kd.R_alloc | apply Kd.R_drewN | apply Kd.R_drew)); exact Kd.R_mono HO289.out (fun _ hk => hk.2)⟩, ⟨by (with_reducible repeat (first | apply Kd.R_alloc | apply Kd.R_drewN | apply Kd.R_drew)); exact Kd.R_mono HO295.out (fun _ hk => hk.2)⟩, ⟨by repeat (first | (with_reducible first | exact HI0.out | apply IsS74.alloc | apply IsS74.drewN | apply IsS74.drew | apply IsS74.set_0 | apply IsS74.set_1 | apply IsS74.set_3) | exact HI0.out)⟩, ⟨by repeat (first | (with_reducible first | exact HK.out | apply KeepBut.set_ | apply keep_drewN | apply keep_drew | apply keep_alloc) | exact HK.out)⟩, ⟨by repeat (first | (with_reducible first | exact HB.out | apply below_alloc | apply pw_below_drewN | apply below_drew1 | refine below_set ?_ (IsS74.ge HI0.out)) | exact HB.out)⟩⟩
 case rest =>
  clear HC6
  try clear c1
  try clear c2
  try clear p2
  try clear c4
  try clear c9
  try clear c9b0
  try clear c9b1
  try clear c9b2
  obtain ⟨kq, x25_5, rfl, HA, HJ5, HO_1, HO_2, HI0, HK, HB⟩ := hcut
  cases kq with
  | zero => exact absurd HA.out (by simp [poly_product.j0])
  | succ kj5 =>
   have H := HA.out
   clear HA
   simp only [poly_product.j0] at H
   by_cases c13 : x25_5 = true
   ·subst c13
    have H1 : (some (([] : List Int), t296, t297, t298)) = some (r1, r2, r3, r4) := by rw [if_pos rfl] at H; exact H
    clear H
    have H := H1
    clear H1
    simp only [Option.some.injEq, Prod.mk.injEq] at H
    obtain ⟨rfl, rfl, rfl, rfl⟩ := H
    go_wp2
    go_ret
    exact ⟨_, by first | rfl | (simp [errW_none, errW_some] <;> rfl) | (simp [*, errW_none, errW_some] <;> rfl), by first | exact Kd.R_nil _ _ _ _ _ | exact Kd.N_nil _ _ _ _ _ | exact Kd.V_nil _ _ _ _ _ | exact Kd.Q_nil _ _ _ _ _ | exact Kd.S_nil _ _ _ _ _, by repeat (first | (with_reducible first | exact HI0.out | apply IsS74.alloc | apply IsS74.drewN | apply IsS74.drew | apply IsS74.set_0 | apply IsS74.set_1 | apply IsS74.set_3) | exact HI0.out), by repeat (first | (with_reducible first | exact HB.out | apply below_alloc | apply pw_below_drewN | apply below_drew1 | refine below_set ?_ (IsS74.ge HI0.out)) | exact HB.out), by repeat (first | (with_reducible first | exact HK.out | apply KeepBut.set_ | apply keep_drewN | apply keep_drew | apply keep_alloc) | exact HK.out)⟩
   ·replace c13 := Bool.eq_false_iff.mpr c13
    subst c13
    have H1 : (if 0 ≤ (wrap64 ((wrap64 ((t287.length : Int) + (t293.length : Int))) - 1)) then (if (wrap64 ((wrap64 ((t287.length : Int) + (t293.length : Int))) - 1) : Int).toNat ≤ 35184372088832 then (poly_product.l0 kj5 t293 (List.replicate (wrap64 ((wrap64 ((t287.length : Int) + (t293.length : Int))) - 1) : Int).toNat 0) t287 (t287.length : Int) 0 t296 t297 s0_2 t298 s0_4 s0_5) else (none)) else (none)) = some (r1, r2, r3, r4) := by rw [if_neg (show ¬ (false = true) by decide)] at H; exact H
    clear H
    have H := H1
    clear H1
    obtain ⟨ji14, hji14⟩ : ∃ j_ : Int, (wrap64 ((wrap64 ((t287.length : Int) + (t293.length : Int))) - 1)) = j_ := ⟨_, rfl⟩
    replace H : (if 0 ≤ (ji14) then (if (ji14 : Int).toNat ≤ 35184372088832 then (poly_product.l0 kj5 t293 (List.replicate (ji14 : Int).toNat 0) t287 (t287.length : Int) 0 t296 t297 s0_2 t298 s0_4 s0_5) else (none)) else (none)) = some (r1, r2, r3, r4) := by first | (rw [hji14] at H; exact H) | (simp only [hji14] at H ⊢; exact H)
    have hji14w : (IntKind.i64.wrap ((wrap64 ((t287.length : Int) + (t293.length : Int))) - 1)) = ji14 := (i64_w _).trans hji14
    by_cases c15 : 0 ≤ (ji14)
    ·rw [if_pos c15] at H
     have c15b0 := eq_true c15
     have c15b1 : decide (0 ≤ (ji14)) = true := decide_eq_true c15
     clear c15
     by_cases c16 : (ji14 : Int).toNat ≤ 35184372088832
     ·rw [if_pos c16] at H
      have c16b0 := eq_true c16
      have c16b1 : decide ((ji14 : Int).toNat ≤ 35184372088832) = true := decide_eq_true c16
      clear c16
      obtain ⟨y299, hy299⟩ : ∃ y_ : List Int, y_ = (List.replicate (ji14 : Int).toNat 0) := ⟨_, rfl⟩
      replace H : (poly_product.l0 kj5 t293 y299 t287 (t287.length : Int) 0 t296 t297 s0_2 t298 s0_4 s0_5) = some (r1, r2, r3, r4) := by first | (rw [hy299]; with_reducible exact H) | (have H2_ := (Option.bind_some _ _).symm.trans H; rw [hy299]; with_reducible exact H2_) | (have H2_ := (Option.bind_some _ _).symm.trans H; with_reducible exact H2_) | with_reducible exact H | (rw [hy299]; exact H) | exact H
      have Ny299 := Aside0.mk hy299
      clear hy299
      have H' := Aside0.mk H
      clear H
      obtain ⟨Ao17, co17, eo17⟩ := Kd.R_slice HO_1.out
      subst eo17
      obtain ⟨Ao18, co18, eo18⟩ := Kd.R_slice HO_2.out
      subst eo18
      go_wp2_with (first | ((with_reducible refine gate_dst (N := 32) rfl ?_); (try (refine gate_guard (by rfl) ?_; dsimp only)); refine Kd.R_make (Kd.int .i64) _ 3 rfl (N := 32) rfl 22 _ _ rfl ji14 rfl rfl Try.underlying22 (.int .i64 0) 8 info3 rfl (by decide) (by omega) 0 (ok := fun _ => True) (okp := fun _ => True) rfl (fun _ hk => hk) trivial (of_decide_eq_true (by first | (with_reducible assumption) | assumption)) (Nat.le_trans (Nat.mul_le_mul_right _ (of_decide_eq_true (by first | (with_reducible assumption) | assumption) : ji14.toNat ≤ 35184372088832)) (by omega)) (Below.refl _ _) (Nat.le_refl _) ?_; intro v300 w19 ho20 hb hg_ hnew_; clear hg_ hnew_; (first | rw [← Ny299.out] at ho20 | (simp only [Int.reduceToNat] at ho20; rw [← Ny299.out] at ho20)); have n0_ := Aside0.mk (Kd.R_elder' (by (with_reducible repeat (first | apply Kd.R_alloc | apply Kd.R_drewN | apply Kd.R_drew)); exact HO_1.out) (Kd.R_base ho20) hb); have n1_ := Aside0.mk (Kd.R_elder' (by (with_reducible repeat (first | apply Kd.R_alloc | apply Kd.R_drewN | apply Kd.R_drew)); exact HO_2.out) (Kd.R_base ho20) hb); have n2_ := Aside0.mk (Kd.R_lower (Kd.R_new' (Kd.R_new' ho20 (Kd.R_lt (by (with_reducible repeat (first | apply Kd.R_alloc | apply Kd.R_drewN | apply Kd.R_drew)); exact HO_1.out))) (Kd.R_lt (by (with_reducible repeat (first | apply Kd.R_alloc | apply Kd.R_drewN | apply Kd.R_drew)); exact HO_2.out))) (keep_size (w := w) (g := g) (row := none) (by repeat (first | (with_reducible first | exact HK.out | apply KeepBut.set_ | apply keep_drewN | apply keep_drew | apply keep_alloc) | exact HK.out)))); have n3_ := Aside0.mk (IsS74.below (by repeat (first | (with_reducible first | exact HI0.out | apply IsS74.alloc | apply IsS74.drewN | apply IsS74.drew | apply IsS74.set_0 | apply IsS74.set_1 | apply IsS74.set_3) | exact HI0.out)) hb); have n4_ := Aside0.mk (KeepBut.trans (by repeat (first | (with_reducible first | exact HK.out | apply KeepBut.set_ | apply keep_drewN | apply keep_drew | apply keep_alloc) | exact HK.out)) (KeepBut.of_below hb g none) (.inl rfl)); have n5_ := Aside0.mk (below_step (by repeat (first | (with_reducible first | exact HB.out | apply below_alloc | apply pw_below_drewN | apply below_drew1 | refine below_set ?_ (IsS74.ge HI0.out)) | exact HB.out)) hb); clear HO_1; clear HO_2; clear HI0; clear HK; clear HB; have HO_1 := n0_; have HO_2 := n1_; have HO301 := n2_; have HI0 := n3_; have HK := n4_; have HB := n5_; clear n0_ n1_ n2_ n3_ n4_ n5_; clear hb ho20))
      go_loopg [35] kj5 (fun kq v35 w' => ∃ (x7_2 : List Int) (x35_2 : Int) (x1000_2 : Int) (x1001_2 : Int) (x1003_2 : Int), v35 = .int .i64 x35_2 ∧ Aside0 (poly_product.l0 kq t293 x7_2 t287 (t287.length : Int) x35_2 x1000_2 x1001_2 s0_2 x1003_2 s0_4 s0_5 = some (r1, r2, r3, r4)) ∧ Aside0 (kq ≤ kj5) ∧ Aside0 (Kd.R (Kd.int .i64) 3 w' w.heap.size (fun k_ => some k_ ≠ (v300 : Value).ownBlock ∧ some k_ ≠ ((.slice Ao17 t287.length co17) : Value).ownBlock) (.slice Ao18 t293.length co18) t293) ∧ Aside0 (Kd.R (Kd.int .i64) 3 w' w.heap.size (fun k_ => some k_ ≠ ((.slice Ao18 t293.length co18) : Value).ownBlock ∧ some k_ ≠ ((.slice Ao17 t287.length co17) : Value).ownBlock) v300 x7_2) ∧ Aside0 (Kd.R (Kd.int .i64) 3 w' w.heap.size (fun k_ => some k_ ≠ ((.slice Ao18 t293.length co18) : Value).ownBlock ∧ some k_ ≠ (v300 : Value).ownBlock) (.slice Ao17 t287.length co17) t287) ∧ Aside0 (IsS74 w0 w' g x1000_2 x1001_2 s0_2 x1003_2 s0_4 s0_5) ∧ Aside0 (KeepBut w w' g none) ∧ Aside0 (Below w0.heap.size w0 w'))
      case atStart => exact ⟨(y299), (0), (t296), (t297), (t298), (by first | rfl | (simp; done) | (simp [*]; done)), H', ⟨Nat.le_refl _⟩, ⟨by (with_reducible repeat (first | apply Kd.R_alloc | apply Kd.R_drewN | apply Kd.R_drew)); exact Kd.R_mono HO_2.out (fun _ hk => ⟨hk.2, hk.1⟩)⟩, ⟨by (with_reducible repeat (first | apply Kd.R_alloc | apply Kd.R_drewN | apply Kd.R_drew)); exact Kd.R_mono HO301.out (fun _ hk => ⟨hk.2, hk.1.2⟩)⟩, ⟨by (with_reducible repeat (first | apply Kd.R_alloc | apply Kd.R_drewN | apply Kd.R_drew)); exact HO_1.out⟩, ⟨by repeat (first | (with_reducible first | exact HI0.out | apply IsS74.alloc | apply IsS74.drewN | apply IsS74.drew | apply IsS74.set_0 | apply IsS74.set_1 | apply IsS74.set_3) | exact HI0.out)⟩, ⟨by repeat (first | (with_reducible first | exact HK.out | apply KeepBut.set_ | apply keep_drewN | apply keep_drew | apply keep_alloc) | exact HK.out)⟩, ⟨by repeat (first | (with_reducible first | exact HB.out | apply below_alloc | apply pw_below_drewN | apply below_drew1 | refine below_set ?_ (IsS74.ge HI0.out)) | exact HB.out)⟩⟩
      case round =>
       clear H'
       try clear c1
       try clear c2
       try clear p2
       try clear c4
       try clear p6
       try clear c9
       try clear c9b0
       try clear c9b1
       try clear c9b2
       try clear c13
       try clear c15
       try clear c15b0
       try clear c15b1
       try clear c16
       try clear c16b0
       try clear c16b1
       try clear p2
       obtain ⟨x7_2, x35_2, x1000_2, x1001_2, x1003_2, rfl, HA, HK2, HO_2, HO_7, HO_33, HI0, HK, HB⟩ := hrel
       cases gk with
       | zero => exact absurd HA.out (by simp [poly_product.l0])
       | succ k2 =>
        have H := HA.out
        clear HA
        simp only [poly_product.l0] at H
        by_cases c21 : x35_2 < (t287.length : Int)
        ·rw [if_pos c21] at H
         have c21b0 : decide (x35_2 < (t287.length : Int)) = true := decide_eq_true c21
         clear c21
         by_cases c22 : 0 ≤ x35_2
         ·rw [if_pos c22] at H
          have c22b0 : decide (0 ≤ x35_2) = true := decide_eq_true c22
          clear c22
          by_cases c23 : x35_2 < (t287.length : Int)
          ·rw [if_pos c23] at H
           have c23b0 : decide (x35_2 < (t287.length : Int)) = true := decide_eq_true c23
           clear c23
           have H' := Aside0.mk H
           clear H
           have p302 : 0 ≤ (x35_2 : Int) := of_decide_eq_true (by first | (with_reducible assumption) | assumption)
           have q302 : x35_2 < (t287.length : Int) := of_decide_eq_true (by first | (with_reducible assumption) | assumption)
           obtain ⟨ad302, e302, hx302_0⟩ := Kd.at_int (Kd.R_reads' HO_33.out).2.2 x35_2 p302 q302
           cases e302
           replace p302 := eq_true p302
           replace q302 := eq_true q302
           go_wp2
           go_loopg [42] k2 (fun kq v42 w' => ∃ (x7_3 : List Int) (x42_3 : Int) (x1000_3 : Int) (x1001_3 : Int) (x1003_3 : Int), v42 = .int .i64 x42_3 ∧ Aside0 (poly_product.l1 kq t293 x7_3 x35_2 (rd t287 x35_2) t287 (t287.length : Int) x35_2 t293 (t293.length : Int) x42_3 x1000_3 x1001_3 s0_2 x1003_3 s0_4 s0_5 = some (r1, r2, r3, r4)) ∧ Aside0 (kq ≤ k2) ∧ Aside0 (Kd.R (Kd.int .i64) 3 w' w.heap.size (fun k_ => some k_ ≠ (v300 : Value).ownBlock ∧ some k_ ≠ ((.slice (some ad302) t287.length co17) : Value).ownBlock) (.slice Ao18 t293.length co18) t293) ∧ Aside0 (Kd.R (Kd.int .i64) 3 w' w.heap.size (fun k_ => some k_ ≠ ((.slice Ao18 t293.length co18) : Value).ownBlock ∧ some k_ ≠ ((.slice (some ad302) t287.length co17) : Value).ownBlock ∧ some k_ ≠ ((.slice Ao18 t293.length co18) : Value).ownBlock) v300 x7_3) ∧ Aside0 (Kd.R (Kd.int .i64) 3 w' w.heap.size (fun k_ => some k_ ≠ ((.slice Ao18 t293.length co18) : Value).ownBlock ∧ some k_ ≠ (v300 : Value).ownBlock ∧ some k_ ≠ ((.slice Ao18 t293.length co18) : Value).ownBlock) (.slice (some ad302) t287.length co17) t287) ∧ Aside0 (Kd.R (Kd.int .i64) 3 w' w.heap.size (fun k_ => some k_ ≠ (v300 : Value).ownBlock ∧ some k_ ≠ ((.slice (some ad302) t287.length co17) : Value).ownBlock) (.slice Ao18 t293.length co18) t293) ∧ Aside0 (IsS74 w0 w' g x1000_3 x1001_3 s0_2 x1003_3 s0_4 s0_5) ∧ Aside0 (KeepBut w w' g none) ∧ Aside0 (Below w0.heap.size w0 w'))
           case atStart => exact ⟨(x7_2), (0), (x1000_2), (x1001_2), (x1003_2), (by first | rfl | (simp; done) | (simp [*]; done)), H', ⟨Nat.le_refl _⟩, ⟨by (with_reducible repeat (first | apply Kd.R_alloc | apply Kd.R_drewN | apply Kd.R_drew)); exact HO_2.out⟩, ⟨by (with_reducible repeat (first | apply Kd.R_alloc | apply Kd.R_drewN | apply Kd.R_drew)); exact Kd.R_mono HO_7.out (fun _ hk => ⟨hk.1, ⟨hk.2, hk.1⟩⟩)⟩, ⟨by (with_reducible repeat (first | apply Kd.R_alloc | apply Kd.R_drewN | apply Kd.R_drew)); exact Kd.R_mono HO_33.out (fun _ hk => ⟨hk.1, ⟨hk.2, hk.1⟩⟩)⟩, ⟨by (with_reducible repeat (first | apply Kd.R_alloc | apply Kd.R_drewN | apply Kd.R_drew)); exact HO_2.out⟩, ⟨by repeat (first | (with_reducible first | exact HI0.out | apply IsS74.alloc | apply IsS74.drewN | apply IsS74.drew | apply IsS74.set_0 | apply IsS74.set_1 | apply IsS74.set_3) | exact HI0.out)⟩, ⟨by repeat (first | (with_reducible first | exact HK.out | apply KeepBut.set_ | apply keep_drewN | apply keep_drew | apply keep_alloc) | exact HK.out)⟩, ⟨by repeat (first | (with_reducible first | exact HB.out | apply below_alloc | apply pw_below_drewN | apply below_drew1 | refine below_set ?_ (IsS74.ge HI0.out)) | exact HB.out)⟩⟩
           case round =>
            clear H'
            try clear c1
            try clear c2
            try clear p2
            try clear p3
            try clear q3
            try clear hx3
            try clear c4
            try clear p6
            try clear c9
            try clear c9b0
            try clear c9b1
            try clear c9b2
            try clear c13
            try clear c15
            try clear c15b0
            try clear c15b1
            try clear c16
            try clear c16b0
            try clear c16b1
            try clear c21
            try clear c21b0
            try clear c22
            try clear c22b0
            try clear c23
            try clear c23b0
            try clear hx302_0
            try clear p2
            try clear p302
            try clear p6
            try clear q302
            obtain ⟨x7_3, x42_3, x1000_3, x1001_3, x1003_3, rfl, HA, HK3, HO_2, HO_7, HO_33, HO_40, HI0, HK, HB⟩ := hrel
            cases gk with
            | zero => exact absurd HA.out (by simp [poly_product.l1])
            | succ k3 =>
             have H := HA.out
             clear HA
             simp only [poly_product.l1] at H
             by_cases c24 : x42_3 < (t293.length : Int)
             ·rw [if_pos c24] at H
              have c24b0 : decide (x42_3 < (t293.length : Int)) = true := decide_eq_true c24
              clear c24
              by_cases c25 : 0 ≤ x42_3
              ·rw [if_pos c25] at H
               have c25b0 : decide (0 ≤ x42_3) = true := decide_eq_true c25
               clear c25
               by_cases c26 : x42_3 < (t293.length : Int)
               ·rw [if_pos c26] at H
                have c26b0 : decide (x42_3 < (t293.length : Int)) = true := decide_eq_true c26
                clear c26
                obtain ⟨ji27, hji27⟩ : ∃ j_ : Int, (wrap64 (x35_2 + x42_3)) = j_ := ⟨_, rfl⟩
                replace H : (if 0 ≤ (ji27) then (if (ji27) < (x7_3.length : Int) then ((field_GF_Mul.f x1000_3 x1001_3 s0_2 x1003_3 s0_4 s0_5 (rd t287 x35_2) (rd t293 x42_3)).bind fun bt305 => ((field_GF_Add.f k3 bt305.2.1 bt305.2.2.1 s0_2 bt305.2.2.2 s0_4 s0_5 (rd x7_3 (ji27)) bt305.1).bind fun bt309 => (poly_product.l1 k3 t293 (x7_3.set ((ji27) : Int).toNat bt309.1) x35_2 (rd t287 x35_2) t287 (t287.length : Int) x35_2 t293 (t293.length : Int) (wrap64 (x42_3 + 1)) bt309.2.1 bt309.2.2.1 s0_2 bt309.2.2.2 s0_4 s0_5))) else (none)) else (none)) = some (r1, r2, r3, r4) := by first | (rw [hji27] at H; exact H) | (simp only [hji27] at H ⊢; exact H)
                have hji27w : (IntKind.i64.wrap (x35_2 + x42_3)) = ji27 := (i64_w _).trans hji27
                by_cases c28 : 0 ≤ (ji27)
                ·rw [if_pos c28] at H
                 have c28b0 : decide (0 ≤ (ji27)) = true := decide_eq_true c28
                 clear c28
                 by_cases c29 : (ji27) < (x7_3.length : Int)
                 ·rw [if_pos c29] at H
                  have c29b0 : decide ((ji27) < (x7_3.length : Int)) = true := decide_eq_true c29
                  clear c29
                  replace H := Option.bind_eq_some_iff.mp H
                  obtain ⟨⟨t305, t306, t307, t308⟩, A300, H⟩ := H
                  replace H : ((field_GF_Add.f k3 t306 t307 s0_2 t308 s0_4 s0_5 (rd x7_3 (ji27)) t305).bind fun bt309 => (poly_product.l1 k3 t293 (x7_3.set ((ji27) : Int).toNat bt309.1) x35_2 (rd t287 x35_2) t287 (t287.length : Int) x35_2 t293 (t293.length : Int) (wrap64 (x42_3 + 1)) bt309.2.1 bt309.2.2.1 s0_2 bt309.2.2.2 s0_4 s0_5)) = some (r1, r2, r3, r4) := H
                  have A30 := Aside0.mk A300
                  clear A300
                  replace H := Option.bind_eq_some_iff.mp H
                  obtain ⟨⟨t309, t310, t311, t312⟩, A310, H⟩ := H
                  replace H : (poly_product.l1 k3 t293 (x7_3.set ((ji27) : Int).toNat t309) x35_2 (rd t287 x35_2) t287 (t287.length : Int) x35_2 t293 (t293.length : Int) (wrap64 (x42_3 + 1)) t310 t311 s0_2 t312 s0_4 s0_5) = some (r1, r2, r3, r4) := H
                  have A31 := Aside0.mk A310
                  clear A310
                  obtain ⟨y313, hy313⟩ : ∃ y_ : List Int, y_ = (x7_3.set ((ji27) : Int).toNat t309) := ⟨_, rfl⟩
                  replace H : (poly_product.l1 k3 t293 y313 x35_2 (rd t287 x35_2) t287 (t287.length : Int) x35_2 t293 (t293.length : Int) (wrap64 (x42_3 + 1)) t310 t311 s0_2 t312 s0_4 s0_5) = some (r1, r2, r3, r4) := by first | (rw [hy313]; with_reducible exact H) | (have H2_ := (Option.bind_some _ _).symm.trans H; rw [hy313]; with_reducible exact H2_) | (have H2_ := (Option.bind_some _ _).symm.trans H; with_reducible exact H2_) | with_reducible exact H | (rw [hy313]; exact H) | exact H
                  have Ny313 := Aside0.mk hy313
                  clear hy313
                  have H' := Aside0.mk H
                  clear H
                  have p303 : 0 ≤ (x42_3 : Int) := of_decide_eq_true (by first | (with_reducible assumption) | assumption)
                  have q303 : x42_3 < (t293.length : Int) := of_decide_eq_true (by first | (with_reducible assumption) | assumption)
                  obtain ⟨ad303, e303, hx303_0⟩ := Kd.at_int (Kd.R_reads' HO_40.out).2.2 x42_3 p303 q303
                  cases e303
                  replace p303 := eq_true p303
                  replace q303 := eq_true q303
                  try go_wp2
                  have n0_ := Aside0.mk (Kd.R_drew HO_2.out)
                  have n1_ := Aside0.mk (Kd.R_drew HO_7.out)
                  have n2_ := Aside0.mk (Kd.R_drew HO_33.out)
                  have n3_ := Aside0.mk (Kd.R_drew HO_40.out)
                  have n4_ := Aside0.mk (IsS74.drew HI0.out)
                  have n5_ := Aside0.mk (keep_drew HK.out)
                  have n6_ := Aside0.mk (below_drew1 HB.out)
                  clear HO_2
                  clear HO_7
                  clear HO_33
                  clear HO_40
                  clear HI0
                  clear HK
                  clear HB
                  have HO_2 := n0_
                  have HO_7 := n1_
                  have HO_33 := n2_
                  have HO_40 := n3_
                  have HI0 := n4_
                  have HK := n5_
                  have HB := n6_
                  clear n0_ n1_ n2_ n3_ n4_ n5_ n6_
                  obtain ⟨Ao34, co34, eo34⟩ := Kd.R_slice HO_7.out
                  (first | subst eo34 | (injection eo34 with f1_ f2_ f3_; have f4_ := f1_.symm; have f5_ := f3_.symm; clear f1_ f2_ f3_; subst f4_; subst f5_))
                  have p304 : 0 ≤ ((ji27) : Int) := of_decide_eq_true (by first | (with_reducible assumption) | assumption)
                  have q304 : (ji27) < (x7_3.length : Int) := of_decide_eq_true (by first | (with_reducible assumption) | assumption)
                  obtain ⟨ad304, e304, hx304_0⟩ := Kd.at_int (Kd.R_reads' HO_7.out).2.2 (ji27) p304 q304
                  cases e304
                  replace p304 := eq_true p304
                  replace q304 := eq_true q304
                  refine start_ (n := 18) (S := fun w' => w'.cell? (ad304.add ((ji27)).toNat) = some (.int .i64 (rd x7_3 (ji27)))) (ds := [17]) #[false, false, false, false, false, false, false, false, false, false, false, false, false, false, false, false, false, false] (by kernel_rfl) rfl rfl (hx304_0) (fun hHeld => ?_); refine with_tabW poly_product.tab11 poly_product.bits11 (fun HT_ HW_ => ?_)
                  generalize wr.drew = w33 at HO_2 HO_7 HO_33 HO_40 HI0 HK HB hx304_0 hHeld ⊢
                  refine pure_ (i := 0) (N := some 47) (v := ?_) (a' := ?_) #[true, false, false, false, false, false, false, false, false, false, false, false, false, false, false, false, false, false] rfl rfl (any_of HT_.out (by kernel_rfl)) (fun _ _ _ h => h) (Or.inl ⟨by rfl, ?_⟩) ?_ ?_
                  rotate_left
                  ·intro w'
                   go_simp
                   with_reducible rfl
                  rotate_left
                  ·simp only [Act.put, List.setIfInBounds_toArray, List.set_cons_zero, List.set_cons_succ, i64_w, i32_w]
                   rfl
                  refine pure_ (i := 1) (N := some 48) (v := ?_) (a' := ?_) #[true, true, false, false, false, false, false, false, false, false, false, false, false, false, false, false, false, false] rfl rfl (any_of HT_.out (by kernel_rfl)) (fun _ _ _ h => h) (Or.inl ⟨by rfl, ?_⟩) ?_ ?_
                  rotate_left
                  ·intro w'
                   go_simp
                   with_reducible rfl
                  rotate_left
                  ·simp only [Act.put, List.setIfInBounds_toArray, List.set_cons_zero, List.set_cons_succ, i64_w, i32_w]
                   rfl
                  refine pure_ (i := 2) (N := some 49) (v := ?_) (a' := ?_) #[true, true, true, false, false, false, false, false, false, false, false, false, false, false, false, false, false, false] rfl rfl (any_of HT_.out (by kernel_rfl)) (fun _ _ _ h => h) (Or.inl ⟨by rfl, ?_⟩) ?_ ?_
                  rotate_left
                  ·intro w'
                   go_simp
                   with_reducible rfl
                  rotate_left
                  ·simp only [Act.put, List.setIfInBounds_toArray, List.set_cons_zero, List.set_cons_succ, i64_w, i32_w]
                   rfl
                  refine pure_ (i := 3) (N := some 50) (v := ?_) (a' := ?_) #[true, true, true, true, false, false, false, false, false, false, false, false, false, false, false, false, false, false] rfl rfl (any_of HT_.out (by kernel_rfl)) (fun _ _ _ h => h) (Or.inl ⟨by rfl, ?_⟩) ?_ ?_
                  rotate_left
                  ·intro w'
                   go_simp
                   with_reducible rfl
                  rotate_left
                  ·simp only [Act.put, List.setIfInBounds_toArray, List.set_cons_zero, List.set_cons_succ, i64_w, i32_w]
                   rfl
                  refine pure_ (i := 4) (N := some 51) (v := ?_) (a' := ?_) #[true, true, true, true, true, false, false, false, false, false, false, false, false, false, false, false, false, false] rfl rfl (any_of HT_.out (by kernel_rfl)) (fun _ _ _ h => h) (Or.inl ⟨by rfl, ?_⟩) ?_ ?_
                  rotate_left
                  ·intro w'
                   go_simp
                   with_reducible rfl
                  rotate_left
                  ·simp only [Act.put, List.setIfInBounds_toArray, List.set_cons_zero, List.set_cons_succ, i64_w, i32_w]
                   rfl
                  refine pure_ (i := 5) (N := some 52) (v := ?_) (a' := ?_) #[true, true, true, true, true, true, false, false, false, false, false, false, false, false, false, false, false, false] rfl rfl (any_of HT_.out (by kernel_rfl)) (fun _ _ _ h => h) (Or.inl ⟨by rfl, ?_⟩) ?_ ?_
                  rotate_left
                  ·intro w'
                   go_simp
                   with_reducible rfl
                  rotate_left
                  ·simp only [Act.put, List.setIfInBounds_toArray, List.set_cons_zero, List.set_cons_succ, i64_w, i32_w]
                   rfl
                  refine pure_ (i := 6) (N := some 53) (v := ?_) (a' := ?_) #[true, true, true, true, true, true, true, false, false, false, false, false, false, false, false, false, false, false] rfl rfl (any_of HT_.out (by kernel_rfl)) (fun _ _ _ h => h) (Or.inl ⟨by rfl, ?_⟩) ?_ ?_
                  rotate_left
                  ·intro w'
                   go_simp
                   with_reducible rfl
                  rotate_left
                  ·simp only [Act.put, List.setIfInBounds_toArray, List.set_cons_zero, List.set_cons_succ, i64_w, i32_w]
                   rfl
                  refine pure_ (i := 7) (N := some 54) (v := ?_) (a' := ?_) #[true, true, true, true, true, true, true, true, false, false, false, false, false, false, false, false, false, false] rfl rfl (any_of HT_.out (by kernel_rfl)) (fun _ _ _ h => h) (Or.inl ⟨by rfl, ?_⟩) ?_ ?_
                  rotate_left
                  ·intro w'
                   go_simp
                   with_reducible rfl
                  rotate_left
                  ·simp only [Act.put, List.setIfInBounds_toArray, List.set_cons_zero, List.set_cons_succ, i64_w, i32_w]
                   rfl
                  refine pure_ (i := 8) (N := some 55) (v := ?_) (a' := ?_) #[true, true, true, true, true, true, true, true, true, false, false, false, false, false, false, false, false, false] rfl rfl (any_of HT_.out (by kernel_rfl)) (fun _ _ _ h => h) (Or.inl ⟨by rfl, ?_⟩) ?_ ?_
                  rotate_left
                  ·intro w'
                   go_simp
                   with_reducible rfl
                  rotate_left
                  ·simp only [Act.put, List.setIfInBounds_toArray, List.set_cons_zero, List.set_cons_succ, i64_w, i32_w]
                   rfl
                  refine pure_ (i := 9) (N := some 56) (v := ?_) (a' := ?_) #[true, true, true, true, true, true, true, true, true, true, false, false, false, false, false, false, false, false] rfl rfl (any_of HT_.out (by kernel_rfl)) (fun _ _ _ h => h) (Or.inl ⟨by rfl, ?_⟩) ?_ ?_
                  rotate_left
                  ·intro w'
                   go_simp
                   with_reducible rfl
                  rotate_left
                  ·simp only [Act.put, List.setIfInBounds_toArray, List.set_cons_zero, List.set_cons_succ, i64_w, i32_w]
                   rfl
                  refine pure_ (i := 11) (N := some 58) (v := ?_) (a' := ?_) #[true, true, true, true, true, true, true, true, true, true, false, true, false, false, false, false, false, false] rfl rfl (any_of HT_.out (by kernel_rfl)) (fun _ _ _ h => h) (Or.inl ⟨by rfl, ?_⟩) ?_ ?_
                  rotate_left
                  ·intro w'
                   go_simp
                   with_reducible rfl
                  rotate_left
                  ·simp only [Act.put, List.setIfInBounds_toArray, List.set_cons_zero, List.set_cons_succ, i64_w, i32_w]
                   rfl
                  refine pure_ (i := 12) (N := some 59) (v := ?_) (a' := ?_) #[true, true, true, true, true, true, true, true, true, true, false, true, true, false, false, false, false, false] rfl rfl (any_of HT_.out (by kernel_rfl)) (fun _ _ _ h => h) (Or.inl ⟨by rfl, ?_⟩) ?_ ?_
                  rotate_left
                  ·intro w'
                   go_simp
                   with_reducible rfl
                  rotate_left
                  ·simp only [Act.put, List.setIfInBounds_toArray, List.set_cons_zero, List.set_cons_succ, i64_w, i32_w]
                   rfl
                  refine pure_ (i := 13) (N := some 60) (v := ?_) (a' := ?_) #[true, true, true, true, true, true, true, true, true, true, false, true, true, true, false, false, false, false] rfl rfl (any_of HT_.out (by kernel_rfl)) (fun _ _ _ h => h) (Or.inl ⟨by rfl, ?_⟩) ?_ ?_
                  rotate_left
                  ·intro w'
                   go_simp
                   with_reducible rfl
                  rotate_left
                  ·simp only [Act.put, List.setIfInBounds_toArray, List.set_cons_zero, List.set_cons_succ, i64_w, i32_w]
                   rfl
                  refine take_ (i := 10) (N := some 57) (v := ?_) (a' := ?_) #[true, true, true, true, true, true, true, true, true, true, true, true, true, true, false, false, false, false] rfl rfl (take_ofW HT_.out HW_.out (by kernel_rfl)) (fun _ _ _ h => h) (Or.inl ⟨by rfl, ?_⟩) hHeld ?_ ?_
                  rotate_left
                  ·intro w' s0
                   go_simp
                   with_reducible rfl
                  rotate_left
                  ·simp only [Act.put, List.setIfInBounds_toArray, List.set_cons_zero, List.set_cons_succ, i64_w, i32_w]
                   rfl
                  refine one_ (i := 14) (N := some 61) #[true, true, true, true, true, true, true, true, true, true, true, true, true, true, true, false, false, false] rfl rfl (one_of HT_.out (by kernel_rfl)) (by decide) (fun K hK => ?_)
                  refine goes_ Try.func44 (by kernel_rfl) rfl #[.pointer (some ⟨g, 0, none⟩), .int .i64 (rd t287 x35_2), .int .i64 (rd t293 x42_3)] (by rfl) rfl rfl (by (try simp only [List.map_toArray, List.map_cons, List.map_nil]); first | done | rfl | (simp only [List.length_drop, List.length_take]; rfl)) ?_
                  with_reducible refine (field_GF_Mul.calls g x1000_3 x1001_3 s0_2 x1003_3 s0_4 s0_5 (rd t287 x35_2) (rd t293 x42_3) t305 t306 t307 t308 w0 _ ?side1 ?side2 A30.out).mono ?_
                  (case side1 => repeat (first | (with_reducible first | exact HI0.out | apply IsS74.alloc | apply IsS74.drewN | apply IsS74.drew | apply IsS74.set_0 | apply IsS74.set_1 | apply IsS74.set_3) | exact HI0.out))
                  (case side2 => repeat (first | (with_reducible first | exact HB.out | apply below_alloc | apply pw_below_drewN | apply below_drew1 | refine below_set ?_ (IsS74.ge HI0.out)) | exact HB.out))
                  rintro e w35 ⟨rfl, hi, hb, hk⟩
                  have HS0_ := keep_cell hk (hHeld) (by first | (rw [add_block]; exact Kd.own_blk (IsS74.own_ne HI0.out HO_7.out (by decide))) | (show (Addr.add _ _).block ≠ _; rw [add_block]; exact Kd.own_blk (IsS74.own_ne HI0.out HO_7.out (by decide))) | exact Kd.own_blk (IsS74.own_ne HI0.out HO_7.out (by decide)))
                  refine ⟨_, rfl, ?_⟩
                  have n0_ := Aside0.mk (Kd.R_mono (Kd.R_keep (IsS74.apart (show IsS74 w0 _ g x1000_3 x1001_3 s0_2 x1003_3 s0_4 s0_5 from by repeat (first | (with_reducible first | exact HI0.out | apply IsS74.alloc | apply IsS74.drewN | apply IsS74.drew | apply IsS74.set_0 | apply IsS74.set_1 | apply IsS74.set_3) | exact HI0.out)) (by (with_reducible repeat (first | apply Kd.R_alloc | apply Kd.R_drewN | apply Kd.R_drew)); exact HO_2.out) (by decide)) hk (fun _ h => h.2)) (fun _ h => h.1))
                  have n1_ := Aside0.mk (Kd.R_mono (Kd.R_keep (IsS74.apart (show IsS74 w0 _ g x1000_3 x1001_3 s0_2 x1003_3 s0_4 s0_5 from by repeat (first | (with_reducible first | exact HI0.out | apply IsS74.alloc | apply IsS74.drewN | apply IsS74.drew | apply IsS74.set_0 | apply IsS74.set_1 | apply IsS74.set_3) | exact HI0.out)) (by (with_reducible repeat (first | apply Kd.R_alloc | apply Kd.R_drewN | apply Kd.R_drew)); exact HO_7.out) (by decide)) hk (fun _ h => h.2)) (fun _ h => h.1))
                  have n2_ := Aside0.mk (Kd.R_mono (Kd.R_keep (IsS74.apart (show IsS74 w0 _ g x1000_3 x1001_3 s0_2 x1003_3 s0_4 s0_5 from by repeat (first | (with_reducible first | exact HI0.out | apply IsS74.alloc | apply IsS74.drewN | apply IsS74.drew | apply IsS74.set_0 | apply IsS74.set_1 | apply IsS74.set_3) | exact HI0.out)) (by (with_reducible repeat (first | apply Kd.R_alloc | apply Kd.R_drewN | apply Kd.R_drew)); exact HO_33.out) (by decide)) hk (fun _ h => h.2)) (fun _ h => h.1))
                  have n3_ := Aside0.mk (Kd.R_mono (Kd.R_keep (IsS74.apart (show IsS74 w0 _ g x1000_3 x1001_3 s0_2 x1003_3 s0_4 s0_5 from by repeat (first | (with_reducible first | exact HI0.out | apply IsS74.alloc | apply IsS74.drewN | apply IsS74.drew | apply IsS74.set_0 | apply IsS74.set_1 | apply IsS74.set_3) | exact HI0.out)) (by (with_reducible repeat (first | apply Kd.R_alloc | apply Kd.R_drewN | apply Kd.R_drew)); exact HO_40.out) (by decide)) hk (fun _ h => h.2)) (fun _ h => h.1))
                  have n4_ := Aside0.mk (KeepBut.trans (by repeat (first | (with_reducible first | exact HK.out | apply KeepBut.set_ | apply keep_drewN | apply keep_drew | apply keep_alloc) | exact HK.out)) hk (.inl rfl))
                  have n5_ := Aside0.mk (hb)
                  have n6_ := Aside0.mk (hi)
                  clear HO_2
                  clear HO_7
                  clear HO_33
                  clear HO_40
                  clear HK
                  clear HB
                  clear HI0
                  have HO_2 := n0_
                  have HO_7 := n1_
                  have HO_33 := n2_
                  have HO_40 := n3_
                  have HK := n4_
                  have HB := n5_
                  have HI0 := n6_
                  clear n0_ n1_ n2_ n3_ n4_ n5_ n6_
                  (try clear hb)
                  (try clear hb2)
                  (try clear hk)
                  (try clear hi)
                  refine hK.out _ _ (HS0_) (fun hHeld => ?_)
                  clear hK K
                  refine norm_ (a' := ?_) ?_ ?_
                  rotate_left
                  ·show Act.put _ (some 61) _ = _
                   simp only [Act.put, List.setIfInBounds_toArray, List.set_cons_zero, List.set_cons_succ, i64_w, i32_w]
                   rfl
                  refine one_ (i := 15) (N := some 62) #[true, true, true, true, true, true, true, true, true, true, true, true, true, true, true, true, false, false] rfl rfl (one_of HT_.out (by kernel_rfl)) (by decide) (fun K hK => ?_)
                  refine goes_ Try.func53 (by kernel_rfl) rfl #[.pointer (some ⟨g, 0, none⟩), .int .i64 (rd x7_3 (ji27)), .int .i64 t305] (by rfl) rfl rfl (by (try simp only [List.map_toArray, List.map_cons, List.map_nil]); first | done | (simp only [hji27]; rfl) | rfl | (simp only [List.length_drop, List.length_take]; rfl)) ?_
                  with_reducible refine (field_GF_Add.calls k3 g t306 t307 s0_2 t308 s0_4 s0_5 (rd x7_3 (ji27)) t305 t309 t310 t311 t312 w0 _ ?side1 ?side2 A31.out).mono ?_
                  (case side1 => repeat (first | (with_reducible first | exact HI0.out | apply IsS74.alloc | apply IsS74.drewN | apply IsS74.drew | apply IsS74.set_0 | apply IsS74.set_1 | apply IsS74.set_3) | exact HI0.out))
                  (case side2 => repeat (first | (with_reducible first | exact HB.out | apply below_alloc | apply pw_below_drewN | apply below_drew1 | refine below_set ?_ (IsS74.ge HI0.out)) | exact HB.out))
                  rintro e w36 ⟨rfl, hi, hb, hk⟩
                  have HS0_ := keep_cell hk (hHeld) (by first | (rw [add_block]; exact Kd.own_blk (IsS74.own_ne HI0.out HO_7.out (by decide))) | (show (Addr.add _ _).block ≠ _; rw [add_block]; exact Kd.own_blk (IsS74.own_ne HI0.out HO_7.out (by decide))) | exact Kd.own_blk (IsS74.own_ne HI0.out HO_7.out (by decide)))
                  refine ⟨_, rfl, ?_⟩
                  have n0_ := Aside0.mk (Kd.R_mono (Kd.R_keep (IsS74.apart (show IsS74 w0 _ g t306 t307 s0_2 t308 s0_4 s0_5 from by repeat (first | (with_reducible first | exact HI0.out | apply IsS74.alloc | apply IsS74.drewN | apply IsS74.drew | apply IsS74.set_0 | apply IsS74.set_1 | apply IsS74.set_3) | exact HI0.out)) (by (with_reducible repeat (first | apply Kd.R_alloc | apply Kd.R_drewN | apply Kd.R_drew)); exact HO_2.out) (by decide)) hk (fun _ h => h.2)) (fun _ h => h.1))
                  have n1_ := Aside0.mk (Kd.R_mono (Kd.R_keep (IsS74.apart (show IsS74 w0 _ g t306 t307 s0_2 t308 s0_4 s0_5 from by repeat (first | (with_reducible first | exact HI0.out | apply IsS74.alloc | apply IsS74.drewN | apply IsS74.drew | apply IsS74.set_0 | apply IsS74.set_1 | apply IsS74.set_3) | exact HI0.out)) (by (with_reducible repeat (first | apply Kd.R_alloc | apply Kd.R_drewN | apply Kd.R_drew)); exact HO_7.out) (by decide)) hk (fun _ h => h.2)) (fun _ h => h.1))
                  have n2_ := Aside0.mk (Kd.R_mono (Kd.R_keep (IsS74.apart (show IsS74 w0 _ g t306 t307 s0_2 t308 s0_4 s0_5 from by repeat (first | (with_reducible first | exact HI0.out | apply IsS74.alloc | apply IsS74.drewN | apply IsS74.drew | apply IsS74.set_0 | apply IsS74.set_1 | apply IsS74.set_3) | exact HI0.out)) (by (with_reducible repeat (first | apply Kd.R_alloc | apply Kd.R_drewN | apply Kd.R_drew)); exact HO_33.out) (by decide)) hk (fun _ h => h.2)) (fun _ h => h.1))
                  have n3_ := Aside0.mk (Kd.R_mono (Kd.R_keep (IsS74.apart (show IsS74 w0 _ g t306 t307 s0_2 t308 s0_4 s0_5 from by repeat (first | (with_reducible first | exact HI0.out | apply IsS74.alloc | apply IsS74.drewN | apply IsS74.drew | apply IsS74.set_0 | apply IsS74.set_1 | apply IsS74.set_3) | exact HI0.out)) (by (with_reducible repeat (first | apply Kd.R_alloc | apply Kd.R_drewN | apply Kd.R_drew)); exact HO_40.out) (by decide)) hk (fun _ h => h.2)) (fun _ h => h.1))
                  have n4_ := Aside0.mk (KeepBut.trans (by repeat (first | (with_reducible first | exact HK.out | apply KeepBut.set_ | apply keep_drewN | apply keep_drew | apply keep_alloc) | exact HK.out)) hk (.inl rfl))
                  have n5_ := Aside0.mk (hb)
                  have n6_ := Aside0.mk (hi)
                  clear HO_2
                  clear HO_7
                  clear HO_33
                  clear HO_40
                  clear HK
                  clear HB
                  clear HI0
                  have HO_2 := n0_
                  have HO_7 := n1_
                  have HO_33 := n2_
                  have HO_40 := n3_
                  have HK := n4_
                  have HB := n5_
                  have HI0 := n6_
                  clear n0_ n1_ n2_ n3_ n4_ n5_ n6_
                  (try clear hb)
                  (try clear hb2)
                  (try clear hk)
                  (try clear hi)
                  have p32 : 0 ≤ ((ji27) : Int) := of_decide_eq_true (by first | (with_reducible assumption) | assumption)
                  have q32 : ((ji27) : Int) < ((x7_3.length : Int) : Int) := of_decide_eq_true (by first | (with_reducible assumption) | assumption)
                  obtain ⟨go32, co32, eo32, gb32, gl32, cl32, HG32⟩ := Kd.R_form HO_7.out (by omega)
                  (first | cases eo32 | (injection eo32 with ea_ en_ ec_; (first | subst ea_ | (injection ea_ with ea_; subst ea_)); subst ec_; clear en_))
                  have GB32 := Aside0.mk gb32
                  have GG32 := Aside0.mk HG32
                  clear gb32 gl32 HG32
                  (first | simp only [add_plain] at hx304_0 | skip)
                  obtain ⟨hx32_0, hf32_0⟩ := Kd.R_celln 0 HO_7.out ((ji27) : Int) p32 q32
                  replace p32 := eq_true p32
                  replace q32 := eq_true q32
                  have HN0_go32 := Aside0.mk (show g ≠ go32 from by have h_ := IsS74.own_ne HI0.out HO_7.out (by decide); intro e_; exact h_ (by rw [e_]; rfl))
                  have HP37 := Kd.R_putn HO_7.out ((ji27) : Int) t309
                  rw [← Ny313.out] at HP37
                  have HQ37 := Aside0.mk HP37
                  clear HP37
                  refine hK.out _ _ (HS0_) (fun hHeld => ?_)
                  clear hK K
                  refine norm_ (a' := ?_) ?_ ?_
                  rotate_left
                  ·show Act.put _ (some 62) _ = _
                   simp only [Act.put, List.setIfInBounds_toArray, List.set_cons_zero, List.set_cons_succ, i64_w, i32_w]
                   rfl
                  refine pure_ (i := 16) (N := some 63) (v := ?_) (a' := ?_) #[true, true, true, true, true, true, true, true, true, true, true, true, true, true, true, true, true, false] rfl rfl (any_of HT_.out (by kernel_rfl)) (fun _ _ _ h => h) (Or.inl ⟨by rfl, ?_⟩) ?_ ?_
                  rotate_left
                  ·intro w'
                   go_simp
                   with_reducible rfl
                  rotate_left
                  ·simp only [Act.put, List.setIfInBounds_toArray, List.set_cons_zero, List.set_cons_succ, i64_w, i32_w]
                   rfl
                  refine last_ (i := 17) (N := none) #[true, true, true, true, true, true, true, true, true, true, true, true, true, true, true, true, true, true] rfl rfl (one_of HT_.out (by kernel_rfl)) (by decide) (fun K hK => ?_)
                  refine skip_ (w1 := ?_) (by rfl) rfl ?_ ?_
                  rotate_left
                  ·go_simp
                   rfl
                  refine hK.out _ _ ?_
                  clear hK K
                  refine done_ (done_of HT_.out (by kernel_rfl)) ?_
                  try go_wp2
                  go_roundg k3
                  case measure => have := HJ5.out; have := HK2.out; have := HK3.out; omega
                  case rel => exact ⟨(y313), (wrap64 (x42_3 + 1)), (t310), (t311), (t312), (by first | rfl | (simp; done) | (simp [*]; done)), H', ⟨by have := HJ5.out; have := HK2.out; have := HK3.out; omega⟩, ⟨by (with_reducible repeat (first | apply Kd.R_alloc | apply Kd.R_drewN | apply Kd.R_drew)); exact Kd.R_mono (Kd.R_far (p := ⟨go32, ((ji27) : Int).toNat, none⟩) (Kd.R_mono HO_2.out (fun k_ hk => (⟨hk, fun e_ => hk.1 (by rw [e_]; rfl)⟩ : _ ∧ k_ ≠ go32))) (fun _ hk => hk.2) (.int .i64 t309)) (fun _ hk => ⟨hk.1.1, hk.1.2⟩)⟩, ⟨by (with_reducible repeat (first | apply Kd.R_alloc | apply Kd.R_drewN | apply Kd.R_drew)); exact HQ37.out⟩, ⟨by (with_reducible repeat (first | apply Kd.R_alloc | apply Kd.R_drewN | apply Kd.R_drew)); exact Kd.R_mono (Kd.R_far (p := ⟨go32, ((ji27) : Int).toNat, none⟩) (Kd.R_mono HO_33.out (fun k_ hk => (⟨hk, fun e_ => hk.2.1 (by rw [e_]; rfl)⟩ : _ ∧ k_ ≠ go32))) (fun _ hk => hk.2) (.int .i64 t309)) (fun _ hk => ⟨hk.1.1, ⟨hk.1.2.1, hk.1.2.2⟩⟩)⟩, ⟨by (with_reducible repeat (first | apply Kd.R_alloc | apply Kd.R_drewN | apply Kd.R_drew)); exact Kd.R_mono (Kd.R_far (p := ⟨go32, ((ji27) : Int).toNat, none⟩) (Kd.R_mono HO_40.out (fun k_ hk => (⟨hk, fun e_ => hk.1 (by rw [e_]; rfl)⟩ : _ ∧ k_ ≠ go32))) (fun _ hk => hk.2) (.int .i64 t309)) (fun _ hk => ⟨hk.1.1, hk.1.2⟩)⟩, ⟨by repeat (first | (with_reducible first | exact HI0.out | apply IsS74.alloc | apply IsS74.drewN | apply IsS74.drew | apply IsS74.set_0 | apply IsS74.set_1 | apply IsS74.set_3 | refine IsS74.far ?_ HN0_go32.out _) | exact HI0.out)⟩, ⟨by repeat (first | (with_reducible first | exact HK.out | apply KeepBut.set_ | apply keep_drewN | apply keep_drew | apply keep_alloc | refine keep_far ?_ GB32.out _) | exact HK.out)⟩, ⟨by repeat (first | (with_reducible first | exact HB.out | apply below_alloc | apply pw_below_drewN | apply below_drew1 | refine below_set ?_ (Nat.le_trans HL.out GB32.out) | refine below_set ?_ (IsS74.ge HI0.out)) | exact HB.out)⟩⟩
                 ·rw [if_neg c29] at H
                  exact absurd H (by simp)
                ·rw [if_neg c28] at H
                 exact absurd H (by simp)
               ·rw [if_neg c26] at H
                exact absurd H (by simp)
              ·rw [if_neg c25] at H
               exact absurd H (by simp)
             ·rw [if_neg c24] at H
              have c24b0 : decide (x42_3 < (t293.length : Int)) = false := decide_eq_false c24
              clear c24
              have H' := Aside0.mk H
              clear H
              go_wp2
              go_roundg k3
              case measure => have := HJ5.out; have := HK2.out; have := HK3.out; omega
              case rel => exact ⟨(x7_3), (wrap64 (x35_2 + 1)), (x1000_3), (x1001_3), (x1003_3), (by first | rfl | (simp; done) | (simp [*]; done)), H', ⟨by have := HJ5.out; have := HK2.out; have := HK3.out; omega⟩, ⟨by (with_reducible repeat (first | apply Kd.R_alloc | apply Kd.R_drewN | apply Kd.R_drew)); exact HO_2.out⟩, ⟨by (with_reducible repeat (first | apply Kd.R_alloc | apply Kd.R_drewN | apply Kd.R_drew)); exact Kd.R_mono HO_7.out (fun _ hk => ⟨hk.1, hk.2.1⟩)⟩, ⟨by (with_reducible repeat (first | apply Kd.R_alloc | apply Kd.R_drewN | apply Kd.R_drew)); exact Kd.R_mono HO_33.out (fun _ hk => ⟨hk.1, hk.2.1⟩)⟩, ⟨by repeat (first | (with_reducible first | exact HI0.out | apply IsS74.alloc | apply IsS74.drewN | apply IsS74.drew | apply IsS74.set_0 | apply IsS74.set_1 | apply IsS74.set_3) | exact HI0.out)⟩, ⟨by repeat (first | (with_reducible first | exact HK.out | apply KeepBut.set_ | apply keep_drewN | apply keep_drew | apply keep_alloc) | exact HK.out)⟩, ⟨by repeat (first | (with_reducible first | exact HB.out | apply below_alloc | apply pw_below_drewN | apply below_drew1 | refine below_set ?_ (IsS74.ge HI0.out)) | exact HB.out)⟩⟩
          ·rw [if_neg c23] at H
           exact absurd H (by simp)
         ·rw [if_neg c22] at H
          exact absurd H (by simp)
        ·rw [if_neg c21] at H
         have c21b0 : decide (x35_2 < (t287.length : Int)) = false := decide_eq_false c21
         clear c21
         simp only [Option.some.injEq, Prod.mk.injEq] at H
         obtain ⟨rfl, rfl, rfl, rfl⟩ := H
         go_wp2
         go_ret
         exact ⟨_, by first | rfl | (simp [errW_none, errW_some] <;> rfl) | (simp only [← hji14]; first | rfl | (simp [errW_none, errW_some] <;> rfl)) | (simp [*, errW_none, errW_some] <;> rfl), by (with_reducible repeat (first | apply Kd.R_alloc | apply Kd.R_drewN | apply Kd.R_drew)); exact Kd.R_mono HO_7.out (fun _ hk => trivial), by repeat (first | (with_reducible first | exact HI0.out | apply IsS74.alloc | apply IsS74.drewN | apply IsS74.drew | apply IsS74.set_0 | apply IsS74.set_1 | apply IsS74.set_3) | exact HI0.out), by repeat (first | (with_reducible first | exact HB.out | apply below_alloc | apply pw_below_drewN | apply below_drew1 | refine below_set ?_ (IsS74.ge HI0.out)) | exact HB.out), by repeat (first | (with_reducible first | exact HK.out | apply KeepBut.set_ | apply keep_drewN | apply keep_drew | apply keep_alloc) | exact HK.out)⟩
     ·rw [if_neg c16] at H
      exact absurd H (by simp)
    ·rw [if_neg c15] at H
     exact absurd H (by simp)
def codewrightref04_Is.f (k : Nat) (a0_0 : Int) (a0_1 : Int) (l0_2 : List Int) (a1 : Int) : Option (Bool) := if a1 ≥ 0 then ((codewrightref04_Order.f k a0_0 a0_1 l0_2).bind fun t316 => (some (decide (a1 < t316)))) else (some false)
set_option maxHeartbeats 8000000 in
set_option maxRecDepth 100000 in
theorem codewrightref04_Is.calls (k : Nat) (a0_0 : Int) (a0_1 : Int) (A0_2 : Option Addr) (c0_2 : Nat) (l0_2 : List Int) (a1 : Int) (r : Bool) (w : World) (hr0_2 : Kd.C (Kd.int .i64) w A0_2 l0_2.length l0_2) (hc0_2 : l0_2.length ≤ c0_2) (h : codewrightref04_Is.f k a0_0 a0_1 l0_2 a1 = some r) :
  Calls Try.prog 54 #[.agg #[.int .i64 a0_0, .int .i64 a0_1, .slice A0_2 l0_2.length c0_2], .int .i64 a1] w fun e w' => e = .returned (.bool r) ∧ Below w.heap.size w w' := by
 have hu24 := Try.underlying24
 have HR0_2 := Aside0.mk hr0_2
 have HC0_2 := Aside0.mk hc0_2
 clear hr0_2 hc0_2
 have HB := Aside0.mk (Below.refl w.heap.size w)
 have H : (if a1 ≥ 0 then ((codewrightref04_Order.f k a0_0 a0_1 l0_2).bind fun t316 => (some (decide (a1 < t316)))) else (some false)) = some r := h
 clear h
 by_cases c3 : a1 ≥ 0
 ·rw [if_pos c3] at H
  have c3b0 : decide (0 ≤ a1) = true := decide_eq_true c3
  clear c3
  replace H := Option.bind_eq_some_iff.mp H
  obtain ⟨t316, A40, H⟩ := H
  replace H : (some (decide (a1 < t316))) = some r := H
  have A4 := Aside0.mk A40
  clear A40
  obtain rfl := Option.some.inj H
  go_enter Try.func54, Try.ntmps54
  go_wp2_with (first | ((with_reducible refine gate_dst (N := 2) rfl ?_); refine box_event ?hg (N := 2) ?hd (cs := #[.int .i64 a0_0, .int .i64 a0_1, .slice A0_2 l0_2.length c0_2]) (t := 24) ?hr ?_; (case hd => rfl); (case hg => rfl); (case hr => first | (go_simp; done) | (go_simp; rfl)); intro gb315 hg w5 hbox hb; have n0_ := Aside0.mk (below_step (by repeat (first | (with_reducible first | exact HB.out | apply below_alloc | apply pw_below_drewN | apply below_drew1) | exact HB.out)) hb); have n1_ := Aside0.mk (hbox); have n2_ := Aside0.mk ((by rw [hg]; exact (below_size (by repeat (first | (with_reducible first | exact HB.out | apply below_alloc | apply pw_below_drewN | apply below_drew1) | exact HB.out))) : w.heap.size ≤ gb315)); have n3_ := Aside0.mk ((by rw [hg]; exact (below_size (by repeat (first | (with_reducible first | exact HB.out | apply below_alloc | apply pw_below_drewN | apply below_drew1) | exact HB.out))) : w.heap.size ≤ gb315)); clear HB; have HB := n0_; have BK315 := n1_; have GW315 := n2_; have GE315 := n3_; clear n0_ n1_ n2_ n3_; clear hb hbox hg; have hcz6_0 : w5.cell? ⟨gb315, 0, none⟩ = some (.int .i64 a0_0) := (blk_cell BK315.out 0).trans rfl; have hcz6_1 : w5.cell? ⟨gb315, 1, none⟩ = some (.int .i64 a0_1) := (blk_cell BK315.out 1).trans rfl; have hcz6_2 : w5.cell? ⟨gb315, 2, none⟩ = some (.slice A0_2 l0_2.length c0_2) := (blk_cell BK315.out 2).trans rfl; have hfz6_0 := blk_frozen BK315.out 0; have hfz6_1 := blk_frozen BK315.out 1; have hfz6_2 := blk_frozen BK315.out 2) | (go_at_call 57; (with_reducible refine (codewrightref04_Order.calls k a0_0 a0_1 _ _ l0_2 t316 _ ?side1 ?side2 A4.out).mono ?_); (case side1 => repeat (first | exact (Kd.C_below HR0_2.out HB.out) | (with_reducible refine Kd.C_alloc ?_ _) | (with_reducible refine Kd.C_drewN ?_ _) | (with_reducible refine Kd.C_drew ?_))); (case side2 => exact HC0_2.out); rintro e w7 ⟨rfl, hb⟩; have n0_ := Aside0.mk (blk_below (g := gb315) (o := .cells #[.int .i64 a0_0, .int .i64 a0_1, .slice A0_2 l0_2.length c0_2] 24 (0, 0)) (by (with_reducible repeat (first | refine blk_drewN ?_ _ | refine blk_drew ?_ | refine blk_alloc ?_ _)); exact BK315.out) hb); have n1_ := Aside0.mk (below_step (by repeat (first | (with_reducible first | exact HB.out | apply below_alloc | apply pw_below_drewN | apply below_drew1 | refine below_set ?_ GE315.out) | exact HB.out)) hb); clear BK315; clear HB; have BK315 := n0_; have HB := n1_; clear n0_ n1_; (try clear hb); (try clear hb2); (try clear hk); (try clear hi)))
  go_ret
  exact ⟨by first | rfl | (simp [errW_none, errW_some] <;> rfl) | (simp [*, errW_none, errW_some] <;> rfl), by repeat (first | (with_reducible first | exact HB.out | apply below_alloc | apply pw_below_drewN | apply below_drew1 | refine below_set ?_ GE315.out) | exact HB.out)⟩
 ·rw [if_neg c3] at H
  have c3b0 : decide (0 ≤ a1) = false := decide_eq_false c3
  clear c3
  obtain rfl := Option.some.inj H
  go_enter Try.func54, Try.ntmps54
  go_wp2_with (first | ((with_reducible refine gate_dst (N := 2) rfl ?_); refine box_event ?hg (N := 2) ?hd (cs := #[.int .i64 a0_0, .int .i64 a0_1, .slice A0_2 l0_2.length c0_2]) (t := 24) ?hr ?_; (case hd => rfl); (case hg => rfl); (case hr => first | (go_simp; done) | (go_simp; rfl)); intro gb315 hg w8 hbox hb; have n0_ := Aside0.mk (below_step (by repeat (first | (with_reducible first | exact HB.out | apply below_alloc | apply pw_below_drewN | apply below_drew1) | exact HB.out)) hb); have n1_ := Aside0.mk (hbox); have n2_ := Aside0.mk ((by rw [hg]; exact (below_size (by repeat (first | (with_reducible first | exact HB.out | apply below_alloc | apply pw_below_drewN | apply below_drew1) | exact HB.out))) : w.heap.size ≤ gb315)); have n3_ := Aside0.mk ((by rw [hg]; exact (below_size (by repeat (first | (with_reducible first | exact HB.out | apply below_alloc | apply pw_below_drewN | apply below_drew1) | exact HB.out))) : w.heap.size ≤ gb315)); clear HB; have HB := n0_; have BK315 := n1_; have GW315 := n2_; have GE315 := n3_; clear n0_ n1_ n2_ n3_; clear hb hbox hg))
  go_ret
  exact ⟨by first | rfl | (simp [errW_none, errW_some] <;> rfl) | (simp [*, errW_none, errW_some] <;> rfl), by repeat (first | (with_reducible first | exact HB.out | apply below_alloc | apply pw_below_drewN | apply below_drew1 | refine below_set ?_ GE315.out) | exact HB.out)⟩
def codewrightref04_In.f (k : Nat) (a0_0 : Int) (a0_1 : Int) (l0_2 : List Int) (a1 : Int) : Option (Int) := (codewrightref04_Is.f k a0_0 a0_1 l0_2 a1).bind fun t318 => (if t318 = true then (some a1) else (some 0))
set_option maxHeartbeats 8000000 in
set_option maxRecDepth 100000 in
theorem codewrightref04_In.calls (k : Nat) (a0_0 : Int) (a0_1 : Int) (A0_2 : Option Addr) (c0_2 : Nat) (l0_2 : List Int) (a1 : Int) (r : Int) (w : World) (hr0_2 : Kd.C (Kd.int .i64) w A0_2 l0_2.length l0_2) (hc0_2 : l0_2.length ≤ c0_2) (h : codewrightref04_In.f k a0_0 a0_1 l0_2 a1 = some r) :
  Calls Try.prog 36 #[.agg #[.int .i64 a0_0, .int .i64 a0_1, .slice A0_2 l0_2.length c0_2], .int .i64 a1] w fun e w' => e = .returned (.int .i64 r) ∧ Below w.heap.size w w' := by
 have hu24 := Try.underlying24
 have HR0_2 := Aside0.mk hr0_2
 have HC0_2 := Aside0.mk hc0_2
 clear hr0_2 hc0_2
 have HB := Aside0.mk (Below.refl w.heap.size w)
 have H : ((codewrightref04_Is.f k a0_0 a0_1 l0_2 a1).bind fun t318 => (if t318 = true then (some a1) else (some 0))) = some r := h
 clear h
 replace H := Option.bind_eq_some_iff.mp H
 obtain ⟨t318, A30, H⟩ := H
 replace H : (if t318 = true then (some a1) else (some 0)) = some r := H
 have A3 := Aside0.mk A30
 clear A30
 by_cases c4 : t318 = true
 ·subst c4
  have H1 : (some a1) = some r := by rw [if_pos rfl] at H; exact H
  clear H
  have H := H1
  clear H1
  obtain rfl := Option.some.inj H
  go_enter Try.func36, Try.ntmps36
  go_wp2_with (first | ((with_reducible refine gate_dst (N := 2) rfl ?_); refine box_event ?hg (N := 2) ?hd (cs := #[.int .i64 a0_0, .int .i64 a0_1, .slice A0_2 l0_2.length c0_2]) (t := 24) ?hr ?_; (case hd => rfl); (case hg => rfl); (case hr => first | (go_simp; done) | (go_simp; rfl)); intro gb317 hg w5 hbox hb; have n0_ := Aside0.mk (below_step (by repeat (first | (with_reducible first | exact HB.out | apply below_alloc | apply pw_below_drewN | apply below_drew1) | exact HB.out)) hb); have n1_ := Aside0.mk (hbox); have n2_ := Aside0.mk ((by rw [hg]; exact (below_size (by repeat (first | (with_reducible first | exact HB.out | apply below_alloc | apply pw_below_drewN | apply below_drew1) | exact HB.out))) : w.heap.size ≤ gb317)); have n3_ := Aside0.mk ((by rw [hg]; exact (below_size (by repeat (first | (with_reducible first | exact HB.out | apply below_alloc | apply pw_below_drewN | apply below_drew1) | exact HB.out))) : w.heap.size ≤ gb317)); clear HB; have HB := n0_; have BK317 := n1_; have GW317 := n2_; have GE317 := n3_; clear n0_ n1_ n2_ n3_; clear hb hbox hg; have hcz6_0 : w5.cell? ⟨gb317, 0, none⟩ = some (.int .i64 a0_0) := (blk_cell BK317.out 0).trans rfl; have hcz6_1 : w5.cell? ⟨gb317, 1, none⟩ = some (.int .i64 a0_1) := (blk_cell BK317.out 1).trans rfl; have hcz6_2 : w5.cell? ⟨gb317, 2, none⟩ = some (.slice A0_2 l0_2.length c0_2) := (blk_cell BK317.out 2).trans rfl; have hfz6_0 := blk_frozen BK317.out 0; have hfz6_1 := blk_frozen BK317.out 1; have hfz6_2 := blk_frozen BK317.out 2) | ((with_reducible refine gate_callee (f := 54) rfl ?_); refine goesL_ (some 7) rfl rfl Try.func54 (by kernel_rfl) rfl #[.agg #[.int .i64 a0_0, .int .i64 a0_1, .slice A0_2 l0_2.length c0_2], .int .i64 a1] rfl (by (try simp only [List.map_toArray, List.map_cons, List.map_nil]); first | done | rfl | (simp only [List.length_drop, List.length_take]; rfl)) ?_; (with_reducible refine (codewrightref04_Is.calls k a0_0 a0_1 _ _ l0_2 a1 true _ ?side1 ?side2 A3.out).mono ?_); (case side1 => repeat (first | exact (Kd.C_below HR0_2.out HB.out) | (with_reducible refine Kd.C_alloc ?_ _) | (with_reducible refine Kd.C_drewN ?_ _) | (with_reducible refine Kd.C_drew ?_))); (case side2 => exact HC0_2.out); rintro e w7 ⟨rfl, hb⟩; refine ⟨_, rfl, ?_⟩; have n0_ := Aside0.mk (blk_below (g := gb317) (o := .cells #[.int .i64 a0_0, .int .i64 a0_1, .slice A0_2 l0_2.length c0_2] 24 (0, 0)) (by (with_reducible repeat (first | refine blk_drewN ?_ _ | refine blk_drew ?_ | refine blk_alloc ?_ _)); exact BK317.out) hb); have n1_ := Aside0.mk (below_step (by repeat (first | (with_reducible first | exact HB.out | apply below_alloc | apply pw_below_drewN | apply below_drew1 | refine below_set ?_ GE317.out) | exact HB.out)) hb); clear BK317; clear HB; have BK317 := n0_; have HB := n1_; clear n0_ n1_; (try clear hb); (try clear hb2); (try clear hk); (try clear hi)))
  go_ret
  exact ⟨by first | rfl | (simp [errW_none, errW_some] <;> rfl) | (simp [*, errW_none, errW_some] <;> rfl), by repeat (first | (with_reducible first | exact HB.out | apply below_alloc | apply pw_below_drewN | apply below_drew1 | refine below_set ?_ GE317.out) | exact HB.out)⟩
 ·replace c4 := Bool.eq_false_iff.mpr c4
  subst c4
  have H1 : (some 0) = some r := by rw [if_neg (show ¬ (false = true) by decide)] at H; exact H
  clear H
  have H := H1
  clear H1
  obtain rfl := Option.some.inj H
  go_enter Try.func36, Try.ntmps36
  go_wp2_with (first | ((with_reducible refine gate_dst (N := 2) rfl ?_); refine box_event ?hg (N := 2) ?hd (cs := #[.int .i64 a0_0, .int .i64 a0_1, .slice A0_2 l0_2.length c0_2]) (t := 24) ?hr ?_; (case hd => rfl); (case hg => rfl); (case hr => first | (go_simp; done) | (go_simp; rfl)); intro gb317 hg w8 hbox hb; have n0_ := Aside0.mk (below_step (by repeat (first | (with_reducible first | exact HB.out | apply below_alloc | apply pw_below_drewN | apply below_drew1) | exact HB.out)) hb); have n1_ := Aside0.mk (hbox); have n2_ := Aside0.mk ((by rw [hg]; exact (below_size (by repeat (first | (with_reducible first | exact HB.out | apply below_alloc | apply pw_below_drewN | apply below_drew1) | exact HB.out))) : w.heap.size ≤ gb317)); have n3_ := Aside0.mk ((by rw [hg]; exact (below_size (by repeat (first | (with_reducible first | exact HB.out | apply below_alloc | apply pw_below_drewN | apply below_drew1) | exact HB.out))) : w.heap.size ≤ gb317)); clear HB; have HB := n0_; have BK317 := n1_; have GW317 := n2_; have GE317 := n3_; clear n0_ n1_ n2_ n3_; clear hb hbox hg; have hcz9_0 : w8.cell? ⟨gb317, 0, none⟩ = some (.int .i64 a0_0) := (blk_cell BK317.out 0).trans rfl; have hcz9_1 : w8.cell? ⟨gb317, 1, none⟩ = some (.int .i64 a0_1) := (blk_cell BK317.out 1).trans rfl; have hcz9_2 : w8.cell? ⟨gb317, 2, none⟩ = some (.slice A0_2 l0_2.length c0_2) := (blk_cell BK317.out 2).trans rfl; have hfz9_0 := blk_frozen BK317.out 0; have hfz9_1 := blk_frozen BK317.out 1; have hfz9_2 := blk_frozen BK317.out 2) | ((with_reducible refine gate_callee (f := 54) rfl ?_); refine goesL_ (some 7) rfl rfl Try.func54 (by kernel_rfl) rfl #[.agg #[.int .i64 a0_0, .int .i64 a0_1, .slice A0_2 l0_2.length c0_2], .int .i64 a1] rfl (by (try simp only [List.map_toArray, List.map_cons, List.map_nil]); first | done | rfl | (simp only [List.length_drop, List.length_take]; rfl)) ?_; (with_reducible refine (codewrightref04_Is.calls k a0_0 a0_1 _ _ l0_2 a1 false _ ?side1 ?side2 A3.out).mono ?_); (case side1 => repeat (first | exact (Kd.C_below HR0_2.out HB.out) | (with_reducible refine Kd.C_alloc ?_ _) | (with_reducible refine Kd.C_drewN ?_ _) | (with_reducible refine Kd.C_drew ?_))); (case side2 => exact HC0_2.out); rintro e w10 ⟨rfl, hb⟩; refine ⟨_, rfl, ?_⟩; have n0_ := Aside0.mk (blk_below (g := gb317) (o := .cells #[.int .i64 a0_0, .int .i64 a0_1, .slice A0_2 l0_2.length c0_2] 24 (0, 0)) (by (with_reducible repeat (first | refine blk_drewN ?_ _ | refine blk_drew ?_ | refine blk_alloc ?_ _)); exact BK317.out) hb); have n1_ := Aside0.mk (below_step (by repeat (first | (with_reducible first | exact HB.out | apply below_alloc | apply pw_below_drewN | apply below_drew1 | refine below_set ?_ GE317.out) | exact HB.out)) hb); clear BK317; clear HB; have BK317 := n0_; have HB := n1_; clear n0_ n1_; (try clear hb); (try clear hb2); (try clear hk); (try clear hi)))
  go_ret
  exact ⟨by first | rfl | (simp [errW_none, errW_some] <;> rfl) | (simp [*, errW_none, errW_some] <;> rfl), by repeat (first | (with_reducible first | exact HB.out | apply below_alloc | apply pw_below_drewN | apply below_drew1 | refine below_set ?_ GE317.out) | exact HB.out)⟩
end Go.Proofs.Ytccmpmkmgehkiaa.PA
end
section
namespace Go.Proofs.Ytccmpmkmgehkiaa.PA
open Go.RowKit Go.Proofs.YtccmpmkmgehkiaaW.PrintWords Go.Proofs.YtccmpmkmgehkiaaW.PrintLast Go.Proofs.YtccmpmkmgehkiaaW.PrintMore
attribute [local go_sem] max2_int min2_int max_two min_two max_three min_three max_four min_four
set_option linter.unusedVariables false
set_option linter.unusedSimpArgs false
mutual
def codewrightref05_Canon.l0 : Nat → List Int → Int → Int → Int → Int → List Int → Option (List Int)
 | 0, _, _, _, _, _, _ => none
 | k + 1, x1, x5, x6, x320000, x320001, x320002 => if x6 < (x1.length : Int) then (if 0 ≤ x6 then ((codewrightref04_In.f k x320000 x320001 x320002 (rd x1 x6)).bind fun t321 => (if t321 = 0 then (codewrightref05_Canon.l0 k x1 x5 (wrap64 (x6 + 1)) x320000 x320001 x320002) else (codewrightref05_Canon.l0 k x1 (wrap64 (x6 + 1)) (wrap64 (x6 + 1)) x320000 x320001 x320002))) else (none)) else (if 0 ≤ x5 then (if (x5 : Int).toNat ≤ 35184372088832 then (codewrightref05_Canon.l1 k x1 x5 (List.replicate (x5 : Int).toNat 0) 0 x320000 x320001 x320002) else (none)) else (none))
def codewrightref05_Canon.l1 : Nat → List Int → Int → List Int → Int → Int → Int → List Int → Option (List Int)
 | 0, _, _, _, _, _, _, _ => none
 | k + 1, x1, x5, x7, x8, x320000, x320001, x320002 => if x8 < x5 then (if 0 ≤ x8 then (if x8 < (x1.length : Int) then ((codewrightref04_In.f k x320000 x320001 x320002 (rd x1 x8)).bind fun t326 => (if x8 < (x7.length : Int) then (codewrightref05_Canon.l1 k x1 x5 (x7.set (x8 : Int).toNat t326) (wrap64 (x8 + 1)) x320000 x320001 x320002) else (none))) else (none)) else (none)) else (some x7)
end
def codewrightref05_Canon.f (k : Nat) (a0_0 : Int) (a0_1 : Int) (l0_2 : List Int) (l1 : List Int) : Option (List Int) := codewrightref05_Canon.l0 k l1 0 0 a0_0 a0_1 l0_2
def codewrightref05_Canon.T11 : Bool × List (List Nat × List Nat) := (true, [([], []), ([], []), ([], []), ([], []), ([], []), ([3, 4], [3, 4]), ([5], [5]), ([2, 6], [2, 6]), ([0, 1, 0, 1, 2, 3, 4, 5, 6, 7], [0, 1]), ([8, 7, 7, 0, 1, 2, 3, 4, 5, 6, 7], [7, 8])])
def codewrightref05_Canon.B11 : List Nat := [0, 0, 0, 0, 0, 24, 56, 124, 255, 511]
theorem codewrightref05_Canon.tab11 : rtab .any (opsOf Try.f21 11) = codewrightref05_Canon.T11 := by kernel_rfl
theorem codewrightref05_Canon.bits11 : waitsOk codewrightref05_Canon.T11.2 codewrightref05_Canon.B11 = true := by kernel_rfl
set_option maxHeartbeats 8000000 in
set_option maxRecDepth 100000 in
theorem codewrightref05_Canon.calls (k : Nat) (a0_0 : Int) (a0_1 : Int) (A0_2 : Option Addr) (c0_2 : Nat) (l0_2 : List Int) (A1 : Option Addr) (c1 : Nat) (l1 : List Int) (r : List Int) (w : World) (hr0_2 : Kd.C (Kd.int .i64) w A0_2 l0_2.length l0_2) (hc0_2 : l0_2.length ≤ c0_2) (hr1 : Kd.C (Kd.int .i64) w A1 l1.length l1) (hc1 : l1.length ≤ c1) (h : codewrightref05_Canon.f k a0_0 a0_1 l0_2 l1 = some r) :
  Calls Try.prog 21 #[.agg #[.int .i64 a0_0, .int .i64 a0_1, .slice A0_2 l0_2.length c0_2], .slice A1 l1.length c1] w fun e w' => ∃ v0_ : Value, e = .returned (v0_) ∧ Kd.R (Kd.int .i64) 3 w' w.heap.size (fun _ => True) v0_ r ∧ Below w.heap.size w w' := by
 have hu24 := Try.underlying24
 have HR0_2 := Aside0.mk hr0_2
 have HC0_2 := Aside0.mk hc0_2
 clear hr0_2 hc0_2
 have HR1 := Aside0.mk hr1
 have HC1 := Aside0.mk hc1
 clear hr1 hc1
 have HB := Aside0.mk (Below.refl w.heap.size w)
 have H : (codewrightref05_Canon.l0 k l1 0 0 a0_0 a0_1 l0_2) = some r := h
 clear h
 have H' := Aside0.mk H
 clear H
 go_enter Try.func21, Try.ntmps21
 go_wp2_with (first | ((with_reducible refine gate_dst (N := 2) rfl ?_); refine box_event ?hg (N := 2) ?hd (cs := #[.int .i64 a0_0, .int .i64 a0_1, .slice A0_2 l0_2.length c0_2]) (t := 24) ?hr ?_; (case hd => rfl); (case hg => rfl); (case hr => first | (go_simp; done) | (go_simp; rfl)); intro gb319 hg w3 hbox hb; have n0_ := Aside0.mk (below_step (by repeat (first | (with_reducible first | exact HB.out | apply below_alloc | apply pw_below_drewN | apply below_drew1) | exact HB.out)) hb); have n1_ := Aside0.mk (hbox); have n2_ := Aside0.mk ((by rw [hg]; exact (below_size (by repeat (first | (with_reducible first | exact HB.out | apply below_alloc | apply pw_below_drewN | apply below_drew1) | exact HB.out))) : w.heap.size ≤ gb319)); have n3_ := Aside0.mk ((by rw [hg]; exact (below_size (by repeat (first | (with_reducible first | exact HB.out | apply below_alloc | apply pw_below_drewN | apply below_drew1) | exact HB.out))) : w.heap.size ≤ gb319)); clear HB; have HB := n0_; have BK319 := n1_; have GW319 := n2_; have GE319 := n3_; clear n0_ n1_ n2_ n3_; clear hb hbox hg))
 go_loopg [5, 6] k (fun kq v5 v6 w' => ∃ (x5_1 : Int) (x6_1 : Int), v5 = .int .i64 x5_1 ∧ v6 = .int .i64 x6_1 ∧ Aside0 (codewrightref05_Canon.l0 kq l1 x5_1 x6_1 a0_0 a0_1 l0_2 = some r) ∧ Aside0 (kq ≤ k) ∧ Aside0 (w'.heap[gb319]? = some (.cells #[.int .i64 a0_0, .int .i64 a0_1, (.slice A0_2 l0_2.length c0_2)] 24 (0, 0))) ∧ Aside0 (Below w.heap.size w w'))
 case atStart => exact ⟨(0), (0), (by first | rfl | (simp; done) | (simp [*]; done)), (by first | rfl | (simp; done) | (simp [*]; done)), H', ⟨Nat.le_refl _⟩, ⟨by (with_reducible repeat (first | refine blk_drewN ?_ _ | refine blk_drew ?_ | refine blk_alloc ?_ _)); exact BK319.out⟩, ⟨by repeat (first | (with_reducible first | exact HB.out | apply below_alloc | apply pw_below_drewN | apply below_drew1 | refine below_set ?_ GE319.out) | exact HB.out)⟩⟩
 case round =>
  clear H'
  try clear c1
  try clear c2
  try clear p2
  obtain ⟨x5_1, x6_1, rfl, rfl, HA, HK1, BK319, HB⟩ := hrel
  cases gk with
  | zero => exact absurd HA.out (by simp [codewrightref05_Canon.l0])
  | succ k1 =>
   have H := HA.out
   clear HA
   simp only [codewrightref05_Canon.l0] at H
   by_cases c4 : x6_1 < (l1.length : Int)
   ·rw [if_pos c4] at H
    have c4b0 : decide (x6_1 < (l1.length : Int)) = true := decide_eq_true c4
    clear c4
    by_cases c5 : 0 ≤ x6_1
    ·rw [if_pos c5] at H
     have c5b0 : decide (0 ≤ x6_1) = true := decide_eq_true c5
     clear c5
     replace H := Option.bind_eq_some_iff.mp H
     obtain ⟨t321, A60, H⟩ := H
     replace H : (if t321 = 0 then (codewrightref05_Canon.l0 k1 l1 x5_1 (wrap64 (x6_1 + 1)) a0_0 a0_1 l0_2) else (codewrightref05_Canon.l0 k1 l1 (wrap64 (x6_1 + 1)) (wrap64 (x6_1 + 1)) a0_0 a0_1 l0_2)) = some r := H
     have A6 := Aside0.mk A60
     clear A60
     by_cases c7 : t321 = 0
     ·rw [if_pos c7] at H
      have c7b0 : (t321 == 0) = true := beq_iff_eq.mpr c7
      have c7b1 : (t321 != 0) = false := bne_eq_false_iff_eq.mpr c7
      clear c7
      have H' := Aside0.mk H
      clear H
      try go_wp2
      have n0_ := Aside0.mk (blk_drew BK319.out)
      have n1_ := Aside0.mk (below_drew1 HB.out)
      clear BK319
      clear HB
      have BK319 := n0_
      have HB := n1_
      clear n0_ n1_
      have p320 : 0 ≤ (x6_1 : Int) := of_decide_eq_true (by first | (with_reducible assumption) | assumption)
      have q320 : x6_1 < (l1.length : Int) := of_decide_eq_true (by first | (with_reducible assumption) | assumption)
      obtain ⟨ad320, e320, hx320_0⟩ := Kd.at_int HR1.out x6_1 p320 q320
      have hw320_0 := hx320_0
      cases e320
      replace hx320_0 := (HB.out.cell (World.block_lt_of_cell? w _ hx320_0)).trans hx320_0
      replace p320 := eq_true p320
      replace q320 := eq_true q320
      refine start_ (n := 7) (S := fun w' => w'.cell? ⟨gb319, 0, none⟩ = some (.int .i64 a0_0) ∧ w'.cell? ⟨gb319, 1, none⟩ = some (.int .i64 a0_1) ∧ w'.cell? ⟨gb319, 2, none⟩ = some (.slice A0_2 l0_2.length c0_2) ∧ w'.cell? (ad320.add (x6_1).toNat) = some (.int .i64 (rd l1 x6_1))) (ds := []) #[false, false, false, false, false, false, false] (by kernel_rfl) rfl rfl ⟨(blk_cell BK319.out 0).trans rfl, (blk_cell BK319.out 1).trans rfl, (blk_cell BK319.out 2).trans rfl, ((HB.out.cell (World.block_lt_of_cell? w _ hw320_0)).trans hw320_0)⟩ (fun hHeld => ?_)
      generalize wr.drew = w8 at BK319 HB hx320_0 hHeld ⊢
      refine pure_ (i := 1) (N := some 16) (v := ?_) (a' := ?_) #[false, true, false, false, false, false, false] rfl rfl (by kernel_rfl) (fun _ _ _ h => h) (Or.inl ⟨by rfl, ?_⟩) ?_ ?_
      rotate_left
      ·intro w'
       go_simp
       with_reducible rfl
      rotate_left
      ·simp only [Act.put, List.setIfInBounds_toArray, List.set_cons_zero, List.set_cons_succ, i64_w, i32_w]
       rfl
      refine pure_ (i := 2) (N := some 17) (v := ?_) (a' := ?_) #[false, true, true, false, false, false, false] rfl rfl (by kernel_rfl) (fun _ _ _ h => h) (Or.inl ⟨by rfl, ?_⟩) ?_ ?_
      rotate_left
      ·intro w'
       go_simp
       with_reducible rfl
      rotate_left
      ·simp only [Act.put, List.setIfInBounds_toArray, List.set_cons_zero, List.set_cons_succ, i64_w, i32_w]
       rfl
      refine pure_ (i := 3) (N := some 18) (v := ?_) (a' := ?_) #[false, true, true, true, false, false, false] rfl rfl (by kernel_rfl) (fun _ _ _ h => h) (Or.inl ⟨by rfl, ?_⟩) ?_ ?_
      rotate_left
      ·intro w'
       go_simp
       with_reducible rfl
      rotate_left
      ·simp only [Act.put, List.setIfInBounds_toArray, List.set_cons_zero, List.set_cons_succ, i64_w, i32_w]
       rfl
      refine take_ (i := 0) (N := some 15) (v := ?_) (a' := ?_) #[true, true, true, true, false, false, false] rfl rfl (by kernel_rfl) (fun _ _ _ h => h) (Or.inl ⟨by rfl, ?_⟩) hHeld ?_ ?_
      rotate_left
      ·rintro w' ⟨s0, s1, s2, s3⟩
       go_simp
       with_reducible rfl
      rotate_left
      ·simp only [Act.put, List.setIfInBounds_toArray, List.set_cons_zero, List.set_cons_succ, i64_w, i32_w]
       rfl
      refine take_ (i := 4) (N := some 19) (v := ?_) (a' := ?_) #[true, true, true, true, true, false, false] rfl rfl (by kernel_rfl) (fun _ _ _ h => h) (Or.inl ⟨by rfl, ?_⟩) hHeld ?_ ?_
      rotate_left
      ·rintro w' ⟨s0, s1, s2, s3⟩
       go_simp
       with_reducible rfl
      rotate_left
      ·simp only [Act.put, List.setIfInBounds_toArray, List.set_cons_zero, List.set_cons_succ, i64_w, i32_w]
       rfl
      refine one_ (i := 5) (N := some 20) #[true, true, true, true, true, true, false] rfl rfl (by kernel_rfl) (by decide) (fun K hK => ?_)
      refine goes_ Try.func36 (by kernel_rfl) rfl #[.agg #[.int .i64 a0_0, .int .i64 a0_1, .slice A0_2 l0_2.length c0_2], .int .i64 (rd l1 x6_1)] (by rfl) rfl rfl (by (try simp only [List.map_toArray, List.map_cons, List.map_nil]); first | done | rfl | (simp only [List.length_drop, List.length_take]; rfl)) ?_
      with_reducible refine (codewrightref04_In.calls k1 a0_0 a0_1 _ _ l0_2 (rd l1 x6_1) t321 _ ?side1 ?side2 A6.out).mono ?_
      (case side1 => repeat (first | exact (Kd.C_below HR0_2.out HB.out) | (with_reducible refine Kd.C_alloc ?_ _) | (with_reducible refine Kd.C_drewN ?_ _) | (with_reducible refine Kd.C_drew ?_)))
      (case side2 => exact HC0_2.out)
      rintro e w9 ⟨rfl, hb⟩
      refine ⟨_, rfl, ?_⟩
      have n0_ := Aside0.mk (blk_below (g := gb319) (o := .cells #[.int .i64 a0_0, .int .i64 a0_1, .slice A0_2 l0_2.length c0_2] 24 (0, 0)) (by (with_reducible repeat (first | refine blk_drewN ?_ _ | refine blk_drew ?_ | refine blk_alloc ?_ _)); exact BK319.out) hb)
      have n1_ := Aside0.mk (below_step (by repeat (first | (with_reducible first | exact HB.out | apply below_alloc | apply pw_below_drewN | apply below_drew1 | refine below_set ?_ GE319.out) | exact HB.out)) hb)
      clear BK319
      clear HB
      have BK319 := n0_
      have HB := n1_
      clear n0_ n1_
      (try clear hb)
      (try clear hb2)
      (try clear hk)
      (try clear hi)
      refine hK.out _ _ ⟨(blk_cell BK319.out 0).trans rfl, (blk_cell BK319.out 1).trans rfl, (blk_cell BK319.out 2).trans rfl, ((HB.out.cell (World.block_lt_of_cell? w _ hw320_0)).trans hw320_0)⟩ (fun hHeld => ?_)
      clear hK K
      refine norm_ (a' := ?_) ?_ ?_
      rotate_left
      ·show Act.put _ (some 20) _ = _
       simp only [Act.put, List.setIfInBounds_toArray, List.set_cons_zero, List.set_cons_succ, i64_w, i32_w]
       rfl
      refine pure_ (i := 6) (N := some 21) (v := ?_) (a' := ?_) #[true, true, true, true, true, true, true] rfl rfl (by kernel_rfl) (fun _ _ _ h => h) (Or.inl ⟨by rfl, ?_⟩) ?_ ?_
      rotate_left
      ·intro w'
       go_simp
       with_reducible rfl
      rotate_left
      ·simp only [Act.put, List.setIfInBounds_toArray, List.set_cons_zero, List.set_cons_succ, i64_w, i32_w]
       rfl
      refine done_ (by kernel_rfl) ?_
      try go_wp2
      go_roundg k1
      case measure => have := HK1.out; omega
      case rel => exact ⟨(x5_1), (wrap64 (x6_1 + 1)), (by first | rfl | (simp; done) | (simp [*]; done)), (by first | rfl | (simp; done) | (simp [*]; done)), H', ⟨by have := HK1.out; omega⟩, ⟨by (with_reducible repeat (first | refine blk_drewN ?_ _ | refine blk_drew ?_ | refine blk_alloc ?_ _)); exact BK319.out⟩, ⟨by repeat (first | (with_reducible first | exact HB.out | apply below_alloc | apply pw_below_drewN | apply below_drew1 | refine below_set ?_ GE319.out) | exact HB.out)⟩⟩
     ·rw [if_neg c7] at H
      have c7b0 : (t321 == 0) = false := beq_eq_false_iff_ne.mpr c7
      have c7b1 : (t321 != 0) = true := bne_iff_ne.mpr c7
      have H' := Aside0.mk H
      clear H
      try go_wp2
      have n0_ := Aside0.mk (blk_drew BK319.out)
      have n1_ := Aside0.mk (below_drew1 HB.out)
      clear BK319
      clear HB
      have BK319 := n0_
      have HB := n1_
      clear n0_ n1_
      have p320 : 0 ≤ (x6_1 : Int) := of_decide_eq_true (by first | (with_reducible assumption) | assumption)
      have q320 : x6_1 < (l1.length : Int) := of_decide_eq_true (by first | (with_reducible assumption) | assumption)
      obtain ⟨ad320, e320, hx320_0⟩ := Kd.at_int HR1.out x6_1 p320 q320
      have hw320_0 := hx320_0
      cases e320
      replace hx320_0 := (HB.out.cell (World.block_lt_of_cell? w _ hx320_0)).trans hx320_0
      replace p320 := eq_true p320
      replace q320 := eq_true q320
      refine start_ (n := 7) (S := fun w' => w'.cell? ⟨gb319, 0, none⟩ = some (.int .i64 a0_0) ∧ w'.cell? ⟨gb319, 1, none⟩ = some (.int .i64 a0_1) ∧ w'.cell? ⟨gb319, 2, none⟩ = some (.slice A0_2 l0_2.length c0_2) ∧ w'.cell? (ad320.add (x6_1).toNat) = some (.int .i64 (rd l1 x6_1))) (ds := []) #[false, false, false, false, false, false, false] (by kernel_rfl) rfl rfl ⟨(blk_cell BK319.out 0).trans rfl, (blk_cell BK319.out 1).trans rfl, (blk_cell BK319.out 2).trans rfl, ((HB.out.cell (World.block_lt_of_cell? w _ hw320_0)).trans hw320_0)⟩ (fun hHeld => ?_)
      generalize wr.drew = w10 at BK319 HB hx320_0 hHeld ⊢
      refine pure_ (i := 1) (N := some 16) (v := ?_) (a' := ?_) #[false, true, false, false, false, false, false] rfl rfl (by kernel_rfl) (fun _ _ _ h => h) (Or.inl ⟨by rfl, ?_⟩) ?_ ?_
      rotate_left
      ·intro w'
       go_simp
       with_reducible rfl
      rotate_left
      ·simp only [Act.put, List.setIfInBounds_toArray, List.set_cons_zero, List.set_cons_succ, i64_w, i32_w]
       rfl
      refine pure_ (i := 2) (N := some 17) (v := ?_) (a' := ?_) #[false, true, true, false, false, false, false] rfl rfl (by kernel_rfl) (fun _ _ _ h => h) (Or.inl ⟨by rfl, ?_⟩) ?_ ?_
      rotate_left
      ·intro w'
       go_simp
       with_reducible rfl
      rotate_left
      ·simp only [Act.put, List.setIfInBounds_toArray, List.set_cons_zero, List.set_cons_succ, i64_w, i32_w]
       rfl
      refine pure_ (i := 3) (N := some 18) (v := ?_) (a' := ?_) #[false, true, true, true, false, false, false] rfl rfl (by kernel_rfl) (fun _ _ _ h => h) (Or.inl ⟨by rfl, ?_⟩) ?_ ?_
      rotate_left
      ·intro w'
       go_simp
       with_reducible rfl
      rotate_left
      ·simp only [Act.put, List.setIfInBounds_toArray, List.set_cons_zero, List.set_cons_succ, i64_w, i32_w]
       rfl
      refine take_ (i := 0) (N := some 15) (v := ?_) (a' := ?_) #[true, true, true, true, false, false, false] rfl rfl (by kernel_rfl) (fun _ _ _ h => h) (Or.inl ⟨by rfl, ?_⟩) hHeld ?_ ?_
      rotate_left
      ·rintro w' ⟨s0, s1, s2, s3⟩
       go_simp
       with_reducible rfl
      rotate_left
      ·simp only [Act.put, List.setIfInBounds_toArray, List.set_cons_zero, List.set_cons_succ, i64_w, i32_w]
       rfl
      refine take_ (i := 4) (N := some 19) (v := ?_) (a' := ?_) #[true, true, true, true, true, false, false] rfl rfl (by kernel_rfl) (fun _ _ _ h => h) (Or.inl ⟨by rfl, ?_⟩) hHeld ?_ ?_
      rotate_left
      ·rintro w' ⟨s0, s1, s2, s3⟩
       go_simp
       with_reducible rfl
      rotate_left
      ·simp only [Act.put, List.setIfInBounds_toArray, List.set_cons_zero, List.set_cons_succ, i64_w, i32_w]
       rfl
      refine one_ (i := 5) (N := some 20) #[true, true, true, true, true, true, false] rfl rfl (by kernel_rfl) (by decide) (fun K hK => ?_)
      refine goes_ Try.func36 (by kernel_rfl) rfl #[.agg #[.int .i64 a0_0, .int .i64 a0_1, .slice A0_2 l0_2.length c0_2], .int .i64 (rd l1 x6_1)] (by rfl) rfl rfl (by (try simp only [List.map_toArray, List.map_cons, List.map_nil]); first | done | rfl | (simp only [List.length_drop, List.length_take]; rfl)) ?_
      with_reducible refine (codewrightref04_In.calls k1 a0_0 a0_1 _ _ l0_2 (rd l1 x6_1) t321 _ ?side1 ?side2 A6.out).mono ?_
      (case side1 => repeat (first | exact (Kd.C_below HR0_2.out HB.out) | (with_reducible refine Kd.C_alloc ?_ _) | (with_reducible refine Kd.C_drewN ?_ _) | (with_reducible refine Kd.C_drew ?_)))
      (case side2 => exact HC0_2.out)
      rintro e w11 ⟨rfl, hb⟩
      refine ⟨_, rfl, ?_⟩
      have n0_ := Aside0.mk (blk_below (g := gb319) (o := .cells #[.int .i64 a0_0, .int .i64 a0_1, .slice A0_2 l0_2.length c0_2] 24 (0, 0)) (by (with_reducible repeat (first | refine blk_drewN ?_ _ | refine blk_drew ?_ | refine blk_alloc ?_ _)); exact BK319.out) hb)
      have n1_ := Aside0.mk (below_step (by repeat (first | (with_reducible first | exact HB.out | apply below_alloc | apply pw_below_drewN | apply below_drew1 | refine below_set ?_ GE319.out) | exact HB.out)) hb)
      clear BK319
      clear HB
      have BK319 := n0_
      have HB := n1_
      clear n0_ n1_
      (try clear hb)
      (try clear hb2)
      (try clear hk)
      (try clear hi)
      refine hK.out _ _ ⟨(blk_cell BK319.out 0).trans rfl, (blk_cell BK319.out 1).trans rfl, (blk_cell BK319.out 2).trans rfl, ((HB.out.cell (World.block_lt_of_cell? w _ hw320_0)).trans hw320_0)⟩ (fun hHeld => ?_)
      clear hK K
      refine norm_ (a' := ?_) ?_ ?_
      rotate_left
      ·show Act.put _ (some 20) _ = _
       simp only [Act.put, List.setIfInBounds_toArray, List.set_cons_zero, List.set_cons_succ, i64_w, i32_w]
       rfl
      refine pure_ (i := 6) (N := some 21) (v := ?_) (a' := ?_) #[true, true, true, true, true, true, true] rfl rfl (by kernel_rfl) (fun _ _ _ h => h) (Or.inl ⟨by rfl, ?_⟩) ?_ ?_
      rotate_left
      ·intro w'
       go_simp
       with_reducible rfl
      rotate_left
      ·simp only [Act.put, List.setIfInBounds_toArray, List.set_cons_zero, List.set_cons_succ, i64_w, i32_w]
       rfl
      refine done_ (by kernel_rfl) ?_
      try go_wp2
      go_roundg k1
      case measure => have := HK1.out; omega
      case rel => exact ⟨(wrap64 (x6_1 + 1)), (wrap64 (x6_1 + 1)), (by first | rfl | (simp; done) | (simp [*]; done)), (by first | rfl | (simp; done) | (simp [*]; done)), H', ⟨by have := HK1.out; omega⟩, ⟨by (with_reducible repeat (first | refine blk_drewN ?_ _ | refine blk_drew ?_ | refine blk_alloc ?_ _)); exact BK319.out⟩, ⟨by repeat (first | (with_reducible first | exact HB.out | apply below_alloc | apply pw_below_drewN | apply below_drew1 | refine below_set ?_ GE319.out) | exact HB.out)⟩⟩
    ·rw [if_neg c5] at H
     exact absurd H (by simp)
   ·rw [if_neg c4] at H
    have c4b0 : decide (x6_1 < (l1.length : Int)) = false := decide_eq_false c4
    clear c4
    by_cases c12 : 0 ≤ x5_1
    ·rw [if_pos c12] at H
     have c12b0 := eq_true c12
     have c12b1 : decide (0 ≤ x5_1) = true := decide_eq_true c12
     clear c12
     by_cases c13 : (x5_1 : Int).toNat ≤ 35184372088832
     ·rw [if_pos c13] at H
      have c13b0 := eq_true c13
      have c13b1 : decide ((x5_1 : Int).toNat ≤ 35184372088832) = true := decide_eq_true c13
      clear c13
      obtain ⟨y322, hy322⟩ : ∃ y_ : List Int, y_ = (List.replicate (x5_1 : Int).toNat 0) := ⟨_, rfl⟩
      replace H : (codewrightref05_Canon.l1 k1 l1 x5_1 y322 0 a0_0 a0_1 l0_2) = some r := by first | (rw [hy322]; with_reducible exact H) | (have H2_ := (Option.bind_some _ _).symm.trans H; rw [hy322]; with_reducible exact H2_) | (have H2_ := (Option.bind_some _ _).symm.trans H; with_reducible exact H2_) | with_reducible exact H | (rw [hy322]; exact H) | exact H
      have Ny322 := Aside0.mk hy322
      clear hy322
      have H' := Aside0.mk H
      clear H
      go_wp2_with (first | ((with_reducible refine gate_dst (N := 25) rfl ?_); refine Kd.R_make (Kd.int .i64) _ 3 rfl (N := 25) rfl 22 _ _ rfl x5_1 rfl rfl Try.underlying22 (.int .i64 0) 8 info3 rfl (by decide) (by omega) 0 (ok := fun _ => True) (okp := fun _ => True) rfl (fun _ hk => hk) trivial (of_decide_eq_true (by first | (with_reducible assumption) | assumption)) (Nat.le_trans (Nat.mul_le_mul_right _ (of_decide_eq_true (by first | (with_reducible assumption) | assumption) : x5_1.toNat ≤ 35184372088832)) (by omega)) (Below.refl _ _) (Nat.le_refl _) ?_; intro v323 w14 ho15 hb hg_ hnew_; clear hg_ hnew_; (first | rw [← Ny322.out] at ho15 | (simp only [Int.reduceToNat] at ho15; rw [← Ny322.out] at ho15)); have n0_ := Aside0.mk (Kd.R_lower ho15 (below_size (by repeat (first | (with_reducible first | exact HB.out | apply below_alloc | apply pw_below_drewN | apply below_drew1 | refine below_set ?_ GE319.out) | exact HB.out)))); have n1_ := Aside0.mk (blk_below (g := gb319) (o := .cells #[.int .i64 a0_0, .int .i64 a0_1, .slice A0_2 l0_2.length c0_2] 24 (0, 0)) (by (with_reducible repeat (first | refine blk_drewN ?_ _ | refine blk_drew ?_ | refine blk_alloc ?_ _)); exact BK319.out) hb); have n2_ := Aside0.mk (below_step (by repeat (first | (with_reducible first | exact HB.out | apply below_alloc | apply pw_below_drewN | apply below_drew1 | refine below_set ?_ GE319.out) | exact HB.out)) hb); clear BK319; clear HB; have HO324 := n0_; have BK319 := n1_; have HB := n2_; clear n0_ n1_ n2_; clear hb ho15))
      go_loopg [8] k1 (fun kq v8 w' => ∃ (x7_2 : List Int) (x8_2 : Int), v8 = .int .i64 x8_2 ∧ Aside0 (codewrightref05_Canon.l1 kq l1 x5_1 x7_2 x8_2 a0_0 a0_1 l0_2 = some r) ∧ Aside0 (kq ≤ k1) ∧ Aside0 (Kd.R (Kd.int .i64) 3 w' w.heap.size (fun _ => True) v323 x7_2) ∧ Aside0 (w'.heap[gb319]? = some (.cells #[.int .i64 a0_0, .int .i64 a0_1, (.slice A0_2 l0_2.length c0_2)] 24 (0, 0))) ∧ Aside0 (Below w.heap.size w w'))
      case atStart => exact ⟨(y322), (0), (by first | rfl | (simp; done) | (simp [*]; done)), H', ⟨Nat.le_refl _⟩, ⟨by (with_reducible repeat (first | apply Kd.R_alloc | apply Kd.R_drewN | apply Kd.R_drew)); exact HO324.out⟩, ⟨by (with_reducible repeat (first | refine blk_drewN ?_ _ | refine blk_drew ?_ | refine blk_alloc ?_ _)); exact BK319.out⟩, ⟨by repeat (first | (with_reducible first | exact HB.out | apply below_alloc | apply pw_below_drewN | apply below_drew1 | refine below_set ?_ GE319.out) | exact HB.out)⟩⟩
      case round =>
       clear H'
       try clear c1
       try clear c2
       try clear p2
       try clear c3
       try clear p3
       try clear q3
       try clear hx3
       try clear c4
       try clear c4b0
       try clear c5
       try clear c5b0
       try clear p6
       try clear c7
       try clear c7b0
       try clear c7b1
       try clear c12
       try clear c12b0
       try clear c12b1
       try clear c13
       try clear c13b0
       try clear c13b1
       try clear hx320_0
       try clear p2
       try clear p320
       try clear q320
       obtain ⟨x7_2, x8_2, rfl, HA, HK2, HO_7, BK319, HB⟩ := hrel
       cases gk with
       | zero => exact absurd HA.out (by simp [codewrightref05_Canon.l1])
       | succ k2 =>
        have H := HA.out
        clear HA
        simp only [codewrightref05_Canon.l1] at H
        by_cases c16 : x8_2 < x5_1
        ·rw [if_pos c16] at H
         have c16b0 : decide (x8_2 < x5_1) = true := decide_eq_true c16
         clear c16
         by_cases c17 : 0 ≤ x8_2
         ·rw [if_pos c17] at H
          have c17b0 : decide (0 ≤ x8_2) = true := decide_eq_true c17
          clear c17
          by_cases c18 : x8_2 < (l1.length : Int)
          ·rw [if_pos c18] at H
           have c18b0 : decide (x8_2 < (l1.length : Int)) = true := decide_eq_true c18
           clear c18
           replace H := Option.bind_eq_some_iff.mp H
           obtain ⟨t326, A190, H⟩ := H
           replace H : (if x8_2 < (x7_2.length : Int) then (codewrightref05_Canon.l1 k2 l1 x5_1 (x7_2.set (x8_2 : Int).toNat t326) (wrap64 (x8_2 + 1)) a0_0 a0_1 l0_2) else (none)) = some r := H
           have A19 := Aside0.mk A190
           clear A190
           by_cases c20 : x8_2 < (x7_2.length : Int)
           ·rw [if_pos c20] at H
            have c20b0 : decide (x8_2 < (x7_2.length : Int)) = true := decide_eq_true c20
            clear c20
            obtain ⟨y327, hy327⟩ : ∃ y_ : List Int, y_ = (x7_2.set (x8_2 : Int).toNat t326) := ⟨_, rfl⟩
            replace H : (codewrightref05_Canon.l1 k2 l1 x5_1 y327 (wrap64 (x8_2 + 1)) a0_0 a0_1 l0_2) = some r := by first | (rw [hy327]; with_reducible exact H) | (have H2_ := (Option.bind_some _ _).symm.trans H; rw [hy327]; with_reducible exact H2_) | (have H2_ := (Option.bind_some _ _).symm.trans H; with_reducible exact H2_) | with_reducible exact H | (rw [hy327]; exact H) | exact H
            have Ny327 := Aside0.mk hy327
            clear hy327
            have H' := Aside0.mk H
            clear H
            try go_wp2
            have n0_ := Aside0.mk (Kd.R_drew HO_7.out)
            have n1_ := Aside0.mk (blk_drew BK319.out)
            have n2_ := Aside0.mk (below_drew1 HB.out)
            clear HO_7
            clear BK319
            clear HB
            have HO_7 := n0_
            have BK319 := n1_
            have HB := n2_
            clear n0_ n1_ n2_
            have p325 : 0 ≤ (x8_2 : Int) := of_decide_eq_true (by first | (with_reducible assumption) | assumption)
            have q325 : x8_2 < (l1.length : Int) := of_decide_eq_true (by first | (with_reducible assumption) | assumption)
            obtain ⟨ad325, e325, hx325_0⟩ := Kd.at_int HR1.out x8_2 p325 q325
            have hw325_0 := hx325_0
            cases e325
            replace hx325_0 := (HB.out.cell (World.block_lt_of_cell? w _ hx325_0)).trans hx325_0
            replace p325 := eq_true p325
            replace q325 := eq_true q325
            refine start_ (n := 10) (S := fun w' => w'.cell? ⟨gb319, 0, none⟩ = some (.int .i64 a0_0) ∧ w'.cell? ⟨gb319, 1, none⟩ = some (.int .i64 a0_1) ∧ w'.cell? ⟨gb319, 2, none⟩ = some (.slice A0_2 l0_2.length c0_2) ∧ w'.cell? (ad325.add (x8_2).toNat) = some (.int .i64 (rd l1 x8_2))) (ds := [9]) #[false, false, false, false, false, false, false, false, false, false] (by kernel_rfl) rfl rfl ⟨(blk_cell BK319.out 0).trans rfl, (blk_cell BK319.out 1).trans rfl, (blk_cell BK319.out 2).trans rfl, ((HB.out.cell (World.block_lt_of_cell? w _ hw325_0)).trans hw325_0)⟩ (fun hHeld => ?_); refine with_tabW codewrightref05_Canon.tab11 codewrightref05_Canon.bits11 (fun HT_ HW_ => ?_)
            generalize wr.drew = w22 at HO_7 BK319 HB hx325_0 hHeld ⊢
            refine pure_ (i := 0) (N := some 31) (v := ?_) (a' := ?_) #[true, false, false, false, false, false, false, false, false, false] rfl rfl (any_of HT_.out (by kernel_rfl)) (fun _ _ _ h => h) (Or.inl ⟨by rfl, ?_⟩) ?_ ?_
            rotate_left
            ·intro w'
             go_simp
             with_reducible rfl
            rotate_left
            ·simp only [Act.put, List.setIfInBounds_toArray, List.set_cons_zero, List.set_cons_succ, i64_w, i32_w]
             rfl
            refine pure_ (i := 1) (N := some 32) (v := ?_) (a' := ?_) #[true, true, false, false, false, false, false, false, false, false] rfl rfl (any_of HT_.out (by kernel_rfl)) (fun _ _ _ h => h) (Or.inl ⟨by rfl, ?_⟩) ?_ ?_
            rotate_left
            ·intro w'
             go_simp
             with_reducible rfl
            rotate_left
            ·simp only [Act.put, List.setIfInBounds_toArray, List.set_cons_zero, List.set_cons_succ, i64_w, i32_w]
             rfl
            refine pure_ (i := 3) (N := some 34) (v := ?_) (a' := ?_) #[true, true, false, true, false, false, false, false, false, false] rfl rfl (any_of HT_.out (by kernel_rfl)) (fun _ _ _ h => h) (Or.inl ⟨by rfl, ?_⟩) ?_ ?_
            rotate_left
            ·intro w'
             go_simp
             with_reducible rfl
            rotate_left
            ·simp only [Act.put, List.setIfInBounds_toArray, List.set_cons_zero, List.set_cons_succ, i64_w, i32_w]
             rfl
            refine pure_ (i := 4) (N := some 35) (v := ?_) (a' := ?_) #[true, true, false, true, true, false, false, false, false, false] rfl rfl (any_of HT_.out (by kernel_rfl)) (fun _ _ _ h => h) (Or.inl ⟨by rfl, ?_⟩) ?_ ?_
            rotate_left
            ·intro w'
             go_simp
             with_reducible rfl
            rotate_left
            ·simp only [Act.put, List.setIfInBounds_toArray, List.set_cons_zero, List.set_cons_succ, i64_w, i32_w]
             rfl
            refine pure_ (i := 5) (N := some 36) (v := ?_) (a' := ?_) #[true, true, false, true, true, true, false, false, false, false] rfl rfl (any_of HT_.out (by kernel_rfl)) (fun _ _ _ h => h) (Or.inl ⟨by rfl, ?_⟩) ?_ ?_
            rotate_left
            ·intro w'
             go_simp
             with_reducible rfl
            rotate_left
            ·simp only [Act.put, List.setIfInBounds_toArray, List.set_cons_zero, List.set_cons_succ, i64_w, i32_w]
             rfl
            refine take_ (i := 2) (N := some 33) (v := ?_) (a' := ?_) #[true, true, true, true, true, true, false, false, false, false] rfl rfl (take_ofW HT_.out HW_.out (by kernel_rfl)) (fun _ _ _ h => h) (Or.inl ⟨by rfl, ?_⟩) hHeld ?_ ?_
            rotate_left
            ·rintro w' ⟨s0, s1, s2, s3⟩
             go_simp
             with_reducible rfl
            rotate_left
            ·simp only [Act.put, List.setIfInBounds_toArray, List.set_cons_zero, List.set_cons_succ, i64_w, i32_w]
             rfl
            refine take_ (i := 6) (N := some 37) (v := ?_) (a' := ?_) #[true, true, true, true, true, true, true, false, false, false] rfl rfl (take_ofW HT_.out HW_.out (by kernel_rfl)) (fun _ _ _ h => h) (Or.inl ⟨by rfl, ?_⟩) hHeld ?_ ?_
            rotate_left
            ·rintro w' ⟨s0, s1, s2, s3⟩
             go_simp
             with_reducible rfl
            rotate_left
            ·simp only [Act.put, List.setIfInBounds_toArray, List.set_cons_zero, List.set_cons_succ, i64_w, i32_w]
             rfl
            refine one_ (i := 7) (N := some 38) #[true, true, true, true, true, true, true, true, false, false] rfl rfl (one_of HT_.out (by kernel_rfl)) (by decide) (fun K hK => ?_)
            refine goes_ Try.func36 (by kernel_rfl) rfl #[.agg #[.int .i64 a0_0, .int .i64 a0_1, .slice A0_2 l0_2.length c0_2], .int .i64 (rd l1 x8_2)] (by rfl) rfl rfl (by (try simp only [List.map_toArray, List.map_cons, List.map_nil]); first | done | rfl | (simp only [List.length_drop, List.length_take]; rfl)) ?_
            with_reducible refine (codewrightref04_In.calls k2 a0_0 a0_1 _ _ l0_2 (rd l1 x8_2) t326 _ ?side1 ?side2 A19.out).mono ?_
            (case side1 => repeat (first | exact (Kd.C_below HR0_2.out HB.out) | (with_reducible refine Kd.C_alloc ?_ _) | (with_reducible refine Kd.C_drewN ?_ _) | (with_reducible refine Kd.C_drew ?_)))
            (case side2 => exact HC0_2.out)
            rintro e w23 ⟨rfl, hb⟩
            refine ⟨_, rfl, ?_⟩
            have n0_ := Aside0.mk (Kd.R_below (by (with_reducible repeat (first | apply Kd.R_alloc | apply Kd.R_drewN | apply Kd.R_drew)); exact HO_7.out) hb)
            have n1_ := Aside0.mk (blk_below (g := gb319) (o := .cells #[.int .i64 a0_0, .int .i64 a0_1, .slice A0_2 l0_2.length c0_2] 24 (0, 0)) (by (with_reducible repeat (first | refine blk_drewN ?_ _ | refine blk_drew ?_ | refine blk_alloc ?_ _)); exact BK319.out) hb)
            have n2_ := Aside0.mk (below_step (by repeat (first | (with_reducible first | exact HB.out | apply below_alloc | apply pw_below_drewN | apply below_drew1 | refine below_set ?_ GE319.out) | exact HB.out)) hb)
            clear HO_7
            clear BK319
            clear HB
            have HO_7 := n0_
            have BK319 := n1_
            have HB := n2_
            clear n0_ n1_ n2_
            (try clear hb)
            (try clear hb2)
            (try clear hk)
            (try clear hi)
            have p21 : 0 ≤ (x8_2 : Int) := of_decide_eq_true (by first | (with_reducible assumption) | assumption)
            have q21 : (x8_2 : Int) < ((x7_2.length : Int) : Int) := of_decide_eq_true (by first | (with_reducible assumption) | assumption)
            obtain ⟨go21, co21, eo21, gb21, gl21, cl21, HG21⟩ := Kd.R_form HO_7.out (by omega)
            (first | cases eo21 | (injection eo21 with ea_ en_ ec_; (first | subst ea_ | (injection ea_ with ea_; subst ea_)); subst ec_; clear en_))
            have GB21 := Aside0.mk gb21
            have GG21 := Aside0.mk HG21
            clear gb21 gl21 HG21
            obtain ⟨hx21_0, hf21_0⟩ := Kd.R_celln 0 HO_7.out (x8_2 : Int) p21 q21
            replace p21 := eq_true p21
            replace q21 := eq_true q21
            have HP24 := Kd.R_putn HO_7.out (x8_2 : Int) t326
            rw [← Ny327.out] at HP24
            have HQ24 := Aside0.mk HP24
            clear HP24
            refine hK.out _ _ ⟨(blk_cell BK319.out 0).trans rfl, (blk_cell BK319.out 1).trans rfl, (blk_cell BK319.out 2).trans rfl, ((HB.out.cell (World.block_lt_of_cell? w _ hw325_0)).trans hw325_0)⟩ (fun hHeld => ?_)
            clear hK K
            refine norm_ (a' := ?_) ?_ ?_
            rotate_left
            ·show Act.put _ (some 38) _ = _
             simp only [Act.put, List.setIfInBounds_toArray, List.set_cons_zero, List.set_cons_succ, i64_w, i32_w]
             rfl
            refine pure_ (i := 8) (N := some 39) (v := ?_) (a' := ?_) #[true, true, true, true, true, true, true, true, true, false] rfl rfl (any_of HT_.out (by kernel_rfl)) (fun _ _ _ h => h) (Or.inl ⟨by rfl, ?_⟩) ?_ ?_
            rotate_left
            ·intro w'
             go_simp
             with_reducible rfl
            rotate_left
            ·simp only [Act.put, List.setIfInBounds_toArray, List.set_cons_zero, List.set_cons_succ, i64_w, i32_w]
             rfl
            refine last_ (i := 9) (N := none) #[true, true, true, true, true, true, true, true, true, true] rfl rfl (one_of HT_.out (by kernel_rfl)) (by decide) (fun K hK => ?_)
            refine skip_ (w1 := ?_) (by rfl) rfl ?_ ?_
            rotate_left
            ·go_simp
             rfl
            refine hK.out _ _ ?_
            clear hK K
            refine done_ (done_of HT_.out (by kernel_rfl)) ?_
            try go_wp2
            go_roundg k2
            case measure => have := HK1.out; have := HK2.out; omega
            case rel => exact ⟨(y327), (wrap64 (x8_2 + 1)), (by first | rfl | (simp; done) | (simp [*]; done)), H', ⟨by have := HK1.out; have := HK2.out; omega⟩, ⟨by (with_reducible repeat (first | apply Kd.R_alloc | apply Kd.R_drewN | apply Kd.R_drew)); exact HQ24.out⟩, ⟨by (with_reducible repeat (first | refine blk_drewN ?_ _ | refine blk_drew ?_ | refine blk_alloc ?_ _)); refine blk_far ?_ (by have h_ := Kd.R_ne HO_7.out BK319.out (by decide); intro e_; exact h_ (by rw [e_]; rfl)) _; (with_reducible repeat (first | refine blk_drewN ?_ _ | refine blk_drew ?_ | refine blk_alloc ?_ _)); exact BK319.out⟩, ⟨by repeat (first | (with_reducible first | exact HB.out | apply below_alloc | apply pw_below_drewN | apply below_drew1 | refine below_set ?_ GB21.out | refine below_set ?_ GE319.out) | exact HB.out)⟩⟩
           ·rw [if_neg c20] at H
            exact absurd H (by simp)
          ·rw [if_neg c18] at H
           exact absurd H (by simp)
         ·rw [if_neg c17] at H
          exact absurd H (by simp)
        ·rw [if_neg c16] at H
         have c16b0 : decide (x8_2 < x5_1) = false := decide_eq_false c16
         clear c16
         obtain rfl := Option.some.inj H
         go_wp2
         go_ret
         exact ⟨_, by first | rfl | (simp [errW_none, errW_some] <;> rfl) | (simp [*, errW_none, errW_some] <;> rfl), by (with_reducible repeat (first | apply Kd.R_alloc | apply Kd.R_drewN | apply Kd.R_drew)); exact HO_7.out, by repeat (first | (with_reducible first | exact HB.out | apply below_alloc | apply pw_below_drewN | apply below_drew1 | refine below_set ?_ GE319.out) | exact HB.out)⟩
     ·rw [if_neg c13] at H
      exact absurd H (by simp)
    ·rw [if_neg c12] at H
     exact absurd H (by simp)
end Go.Proofs.Ytccmpmkmgehkiaa.PA
end
section
namespace Go.Proofs.Ytccmpmkmgehkiaa.PA
open Go.RowKit Go.Proofs.YtccmpmkmgehkiaaW.PrintWords Go.Proofs.YtccmpmkmgehkiaaW.PrintLast Go.Proofs.YtccmpmkmgehkiaaW.PrintMore
attribute [local go_sem] max2_int min2_int max_two min_two max_three min_three max_four min_four
set_option linter.unusedVariables false
set_option linter.unusedSimpArgs false
def codewrightref04_Digits.f (k : Nat) (a0_0 : Int) (a0_1 : Int) (l0_2 : List Int) (a1 : Int) : Option (List Int) := (codewrightref04_In.f k a0_0 a0_1 l0_2 a1).bind fun t336 => ((codewrightref04_digits.f k t336 a0_0 a0_1).bind fun t337 => (some t337))
def codewrightref04_Value.l0 : Nat → List Int → Int → Int → Int → Int → List Int → Option (Int)
 | 0, _, _, _, _, _, _ => none
 | k + 1, x1, x5, x6, x341000, x341001, x341002 => if x6 ≥ 0 then (if 0 ≤ x6 then (if x6 < (x1.length : Int) then (codewrightref04_Value.l0 k x1 (wrap64 ((wrap64 (x5 * x341000)) + (rd x1 x6))) (wrap64 (x6 - 1)) x341000 x341001 x341002) else (none)) else (none)) else (some x5)
def codewrightref04_Value.f (k : Nat) (a0_0 : Int) (a0_1 : Int) (l0_2 : List Int) (l1 : List Int) : Option (Int) := codewrightref04_Value.l0 k l1 0 (wrap64 ((l1.length : Int) - 1)) a0_0 a0_1 l0_2
def codewrightref04_Add.l0 : Nat → List Int → List Int → Int → Int → Int → List Int → Option (Int)
 | 0, _, _, _, _, _, _ => none
 | k + 1, x7, x8, x9, x343000, x343001, x343002 => if x9 < (x7.length : Int) then (if 0 ≤ x9 then (if x9 < (x8.length : Int) then (if x343000 = 0 then (none) else (codewrightref04_Add.l0 k (x7.set (x9 : Int).toNat (Int.tmod (wrap64 ((rd x7 x9) + (rd x8 x9))) x343000)) x8 (wrap64 (x9 + 1)) x343000 x343001 x343002)) else (none)) else (none)) else ((codewrightref04_Value.f k x343000 x343001 x343002 x7).bind fun t352 => (some t352))
def codewrightref04_Add.f (k : Nat) (a0_0 : Int) (a0_1 : Int) (l0_2 : List Int) (a1 : Int) (a2 : Int) : Option (Int) := (codewrightref04_Digits.f k a0_0 a0_1 l0_2 a1).bind fun t343 => ((codewrightref04_Digits.f k a0_0 a0_1 l0_2 a2).bind fun t346 => (codewrightref04_Add.l0 k t343 t346 0 a0_0 a0_1 l0_2))
end Go.Proofs.Ytccmpmkmgehkiaa.PA
end
section
namespace Go.Proofs.Ytccmpmkmgehkiaa.PA
open Go.RowKit Go.Proofs.YtccmpmkmgehkiaaW.PrintWords Go.Proofs.YtccmpmkmgehkiaaW.PrintLast Go.Proofs.YtccmpmkmgehkiaaW.PrintMore
attribute [local go_sem] max2_int min2_int max_two min_two max_three min_three max_four min_four
set_option linter.unusedVariables false
set_option linter.unusedSimpArgs false
end Go.Proofs.Ytccmpmkmgehkiaa.PA
end
section
namespace Go.Proofs.Ytccmpmkmgehkiaa.PA
open Go.RowKit Go.Proofs.YtccmpmkmgehkiaaW.PrintWords Go.Proofs.YtccmpmkmgehkiaaW.PrintLast Go.Proofs.YtccmpmkmgehkiaaW.PrintMore
attribute [local go_sem] max2_int min2_int max_two min_two max_three min_three max_four min_four
set_option linter.unusedVariables false
set_option linter.unusedSimpArgs false
mutual
def codewrightref04_Mul.l0 : Nat → List Int → List Int → List Int → Int → Int → Int → List Int → Option (Int)
 | 0, _, _, _, _, _, _, _ => none
 | k + 1, x7, x8, x9, x10, x365000, x365001, x365002 => if x10 < x365001 then (codewrightref04_Mul.l1 k x7 x8 x9 x10 0 x365000 x365001 x365002) else (codewrightref04_Mul.l2 k x9 (wrap64 ((wrap64 (2 * x365001)) - 2)) x365000 x365001 x365002)
def codewrightref04_Mul.l1 : Nat → List Int → List Int → List Int → Int → Int → Int → Int → List Int → Option (Int)
 | 0, _, _, _, _, _, _, _, _ => none
 | k + 1, x7, x8, x9, x10, x11, x365000, x365001, x365002 => if x11 < x365001 then (if 0 ≤ (wrap64 (x10 + x11)) then (if (wrap64 (x10 + x11)) < (x9.length : Int) then (if 0 ≤ x10 then (if x10 < (x7.length : Int) then (if 0 ≤ x11 then (if x11 < (x8.length : Int) then (if x365000 = 0 then (none) else (codewrightref04_Mul.l1 k x7 x8 (x9.set ((wrap64 (x10 + x11)) : Int).toNat (Int.tmod (wrap64 ((rd x9 (wrap64 (x10 + x11))) + (wrap64 ((rd x7 x10) * (rd x8 x11))))) x365000)) x10 (wrap64 (x11 + 1)) x365000 x365001 x365002)) else (none)) else (none)) else (none)) else (none)) else (none)) else (none)) else (codewrightref04_Mul.l0 k x7 x8 x9 (wrap64 (x10 + 1)) x365000 x365001 x365002)
def codewrightref04_Mul.l2 : Nat → List Int → Int → Int → Int → List Int → Option (Int)
 | 0, _, _, _, _, _ => none
 | k + 1, x9, x12, x365000, x365001, x365002 => if x12 ≥ x365001 then (codewrightref04_Mul.l3 k x9 x12 0 x365000 x365001 x365002) else (if 0 ≤ x365001 then (if x365001 ≤ (x9.length : Int) then ((codewrightref04_Value.f k x365000 x365001 x365002 (x9.take (x365001 : Int).toNat)).bind fun t382 => (some t382)) else (none)) else (none))
def codewrightref04_Mul.l3 : Nat → List Int → Int → Int → Int → Int → List Int → Option (Int)
 | 0, _, _, _, _, _, _ => none
 | k + 1, x9, x12, x13, x365000, x365001, x365002 => if x13 < x365001 then (if 0 ≤ (wrap64 ((wrap64 (x12 - x365001)) + x13)) then (if (wrap64 ((wrap64 (x12 - x365001)) + x13)) < (x9.length : Int) then (if 0 ≤ x12 then (if x12 < (x9.length : Int) then (if 0 ≤ x13 then (if x13 < (x365002.length : Int) then (if x365000 = 0 then (none) else (codewrightref04_Mul.l3 k (x9.set ((wrap64 ((wrap64 (x12 - x365001)) + x13)) : Int).toNat (Int.tmod (wrap64 ((rd x9 (wrap64 ((wrap64 (x12 - x365001)) + x13))) + (wrap64 ((wrap64 (x365000 - (rd x9 x12))) * (rd x365002 x13))))) x365000)) x12 (wrap64 (x13 + 1)) x365000 x365001 x365002)) else (none)) else (none)) else (none)) else (none)) else (none)) else (none)) else (codewrightref04_Mul.l2 k x9 (wrap64 (x12 - 1)) x365000 x365001 x365002)
end
def codewrightref04_Mul.f (k : Nat) (a0_0 : Int) (a0_1 : Int) (l0_2 : List Int) (a1 : Int) (a2 : Int) : Option (Int) := (codewrightref04_Digits.f k a0_0 a0_1 l0_2 a1).bind fun t365 => ((codewrightref04_Digits.f k a0_0 a0_1 l0_2 a2).bind fun t368 => (if 0 ≤ (wrap64 ((wrap64 (2 * a0_1)) - 1)) then (if (wrap64 ((wrap64 (2 * a0_1)) - 1) : Int).toNat ≤ 35184372088832 then (codewrightref04_Mul.l0 k t365 t368 (List.replicate (wrap64 ((wrap64 (2 * a0_1)) - 1) : Int).toNat 0) 0 a0_0 a0_1 l0_2) else (none)) else (none)))
end Go.Proofs.Ytccmpmkmgehkiaa.PA
end
section
namespace Go.Proofs.Ytccmpmkmgehkiaa.PA
open Go.RowKit Go.Proofs.YtccmpmkmgehkiaaW.PrintWords Go.Proofs.YtccmpmkmgehkiaaW.PrintLast Go.Proofs.YtccmpmkmgehkiaaW.PrintMore
attribute [local go_sem] max2_int min2_int max_two min_two max_three min_three max_four min_four
set_option linter.unusedVariables false
set_option linter.unusedSimpArgs false
def poly_Degree.f (k : Nat) (s0_0 : Int) (s0_1 : Int) (s0_2 : List Int) (s0_3 : Int) (s0_4 : List Int) (s0_5 : List Int) (l1 : List Int) : Option (Int × Int × Int × Int) := (poly_Canon.f k s0_0 s0_1 s0_2 s0_3 s0_4 s0_5 l1).bind fun bt407 => (some (wrap64 ((bt407.1.length : Int) - 1), bt407.2.1, bt407.2.2.1, bt407.2.2.2))
set_option maxHeartbeats 8000000 in
set_option maxRecDepth 100000 in
theorem poly_Degree.calls (k : Nat) (g : Nat) (s0_0 : Int) (s0_1 : Int) (s0_2 : List Int) (s0_3 : Int) (s0_4 : List Int) (s0_5 : List Int) (A1 : Option Addr) (c1 : Nat) (l1 : List Int) (r1 : Int) (r2 : Int) (r3 : Int) (r4 : Int) (w0 w : World) (hI : IsS74 w0 w g s0_0 s0_1 s0_2 s0_3 s0_4 s0_5) (hB : Below w0.heap.size w0 w) (hr1 : Kd.C (Kd.int .i64) w A1 l1.length l1) (hc1 : l1.length ≤ c1) (hf1 : ∀ ad, A1 = some ad → 0 < l1.length → ad.block ≠ g) (h : poly_Degree.f k s0_0 s0_1 s0_2 s0_3 s0_4 s0_5 l1 = some (r1, r2, r3, r4)) :
  Calls Try.prog 23 #[.pointer (some ⟨g, 0, none⟩), .slice A1 l1.length c1] w fun e w' => e = .returned (.int .i64 r1) ∧ IsS74 w0 w' g r2 r3 s0_2 r4 s0_4 s0_5 ∧ Below w0.heap.size w0 w' ∧ KeepBut w w' g none := by
 have HR1 := Aside0.mk hr1
 have HC1 := Aside0.mk hc1
 clear hr1 hc1
 have HI0 := Aside0.mk hI
 have HK := Aside0.mk (KeepBut.refl w g none)
 have HL := Aside0.mk hB.size
 clear hI
 have HW0 := Aside0.mk hB.size
 have HB := Aside0.mk hB
 clear hB
 have H : ((poly_Canon.f k s0_0 s0_1 s0_2 s0_3 s0_4 s0_5 l1).bind fun bt407 => (some (wrap64 ((bt407.1.length : Int) - 1), bt407.2.1, bt407.2.2.1, bt407.2.2.2))) = some (r1, r2, r3, r4) := h
 clear h
 replace H := Option.bind_eq_some_iff.mp H
 obtain ⟨⟨t407, t410, t411, t412⟩, A30, H⟩ := H
 replace H : (some (wrap64 ((t407.length : Int) - 1), t410, t411, t412)) = some (r1, r2, r3, r4) := H
 have A3 := Aside0.mk A30
 clear A30
 simp only [Option.some.injEq, Prod.mk.injEq] at H
 obtain ⟨rfl, rfl, rfl, rfl⟩ := H
 go_enter Try.func23, Try.ntmps23
 go_wp2_with (first | ((with_reducible refine gate_callee (f := 22) rfl ?_); refine goesL_ (some 7) rfl rfl Try.func22 (by kernel_rfl) rfl #[.pointer (some ⟨g, 0, none⟩), .slice A1 l1.length c1] rfl (by (try simp only [List.map_toArray, List.map_cons, List.map_nil]); first | done | rfl | (simp only [List.length_drop, List.length_take]; rfl)) ?_; (with_reducible refine (poly_Canon.calls k g s0_0 s0_1 s0_2 s0_3 s0_4 s0_5 _ _ l1 t407 t410 t411 t412 w0 _ ?side1 ?side2 ?side3 ?side4 ?side5 A3.out).mono ?_); (case side1 => repeat (first | (with_reducible first | exact HI0.out | apply IsS74.alloc | apply IsS74.drewN | apply IsS74.drew | apply IsS74.set_0 | apply IsS74.set_1 | apply IsS74.set_3) | exact HI0.out)); (case side2 => repeat (first | (with_reducible first | exact HB.out | apply below_alloc | apply pw_below_drewN | apply below_drew1 | refine below_set ?_ (IsS74.ge HI0.out)) | exact HB.out)); (case side3 => exact Kd.C_keep 0 HR1.out (by repeat (first | (with_reducible first | exact HK.out | apply KeepBut.set_ | apply keep_drewN | apply keep_drew | apply keep_alloc) | exact HK.out)) hf1); (case side4 => exact HC1.out); (case side5 => exact hf1); rintro e w4 ⟨v408, rfl, ho0, hi, hb, hk⟩; refine ⟨_, rfl, ?_⟩; have n0_ := Aside0.mk (Kd.R_lower ho0 (keep_size (w := w) (g := g) (row := none) (by repeat (first | (with_reducible first | exact HK.out | apply KeepBut.set_ | apply keep_drewN | apply keep_drew | apply keep_alloc) | exact HK.out)))); have n1_ := Aside0.mk (KeepBut.trans (by repeat (first | (with_reducible first | exact HK.out | apply KeepBut.set_ | apply keep_drewN | apply keep_drew | apply keep_alloc) | exact HK.out)) hk (.inl rfl)); have n2_ := Aside0.mk (hb); have n3_ := Aside0.mk (hi); clear HK; clear HB; clear HI0; have HO409 := n0_; have HK := n1_; have HB := n2_; have HI0 := n3_; clear n0_ n1_ n2_ n3_; (try clear hb); (try clear hb2); (try clear hk); (try clear hi); (try clear ho0); obtain ⟨Ao5, co5, eo5⟩ := Kd.R_slice HO409.out; subst eo5))
 go_ret
 exact ⟨by first | rfl | (simp [errW_none, errW_some] <;> rfl) | (simp [*, errW_none, errW_some] <;> rfl), by repeat (first | (with_reducible first | exact HI0.out | apply IsS74.alloc | apply IsS74.drewN | apply IsS74.drew | apply IsS74.set_0 | apply IsS74.set_1 | apply IsS74.set_3) | exact HI0.out), by repeat (first | (with_reducible first | exact HB.out | apply below_alloc | apply pw_below_drewN | apply below_drew1 | refine below_set ?_ (IsS74.ge HI0.out)) | exact HB.out), by repeat (first | (with_reducible first | exact HK.out | apply KeepBut.set_ | apply keep_drewN | apply keep_drew | apply keep_alloc) | exact HK.out)⟩
end Go.Proofs.Ytccmpmkmgehkiaa.PA
end
section
namespace Go.Proofs.Ytccmpmkmgehkiaa.PA
open Go.RowKit Go.Proofs.YtccmpmkmgehkiaaW.PrintWords Go.Proofs.YtccmpmkmgehkiaaW.PrintLast Go.Proofs.YtccmpmkmgehkiaaW.PrintMore
attribute [local go_sem] max2_int min2_int max_two min_two max_three min_three max_four min_four
set_option linter.unusedVariables false
set_option linter.unusedSimpArgs false
end Go.Proofs.Ytccmpmkmgehkiaa.PA
end
section
namespace Go.Proofs.Ytccmpmkmgehkiaa.PA
open Go.RowKit Go.Proofs.YtccmpmkmgehkiaaW.PrintWords Go.Proofs.YtccmpmkmgehkiaaW.PrintLast Go.Proofs.YtccmpmkmgehkiaaW.PrintMore
attribute [local go_sem] max2_int min2_int max_two min_two max_three min_three max_four min_four
set_option linter.unusedVariables false
set_option linter.unusedSimpArgs false
def codewrightref04_Neg.l0 : Nat → List Int → Int → Int → Int → List Int → Option (Int)
 | 0, _, _, _, _, _ => none
 | k + 1, x5, x6, x511000, x511001, x511002 => if x6 < (x5.length : Int) then (if 0 ≤ x6 then (if x511000 = 0 then (none) else (codewrightref04_Neg.l0 k (x5.set (x6 : Int).toNat (Int.tmod (wrap64 (x511000 - (rd x5 x6))) x511000)) (wrap64 (x6 + 1)) x511000 x511001 x511002)) else (none)) else ((codewrightref04_Value.f k x511000 x511001 x511002 x5).bind fun t516 => (some t516))
def codewrightref04_Neg.f (k : Nat) (a0_0 : Int) (a0_1 : Int) (l0_2 : List Int) (a1 : Int) : Option (Int) := (codewrightref04_Digits.f k a0_0 a0_1 l0_2 a1).bind fun t511 => (codewrightref04_Neg.l0 k t511 0 a0_0 a0_1 l0_2)
end Go.Proofs.Ytccmpmkmgehkiaa.PA
end
section
namespace Go.Proofs.Ytccmpmkmgehkiaa.PA
open Go.RowKit Go.Proofs.YtccmpmkmgehkiaaW.PrintWords Go.Proofs.YtccmpmkmgehkiaaW.PrintLast Go.Proofs.YtccmpmkmgehkiaaW.PrintMore
attribute [local go_sem] max2_int min2_int max_two min_two max_three min_three max_four min_four
set_option linter.unusedVariables false
set_option linter.unusedSimpArgs false
end Go.Proofs.Ytccmpmkmgehkiaa.PA
end
section
namespace Go.Proofs.Ytccmpmkmgehkiaa.PA
open Go.RowKit Go.Proofs.YtccmpmkmgehkiaaW.PrintWords Go.Proofs.YtccmpmkmgehkiaaW.PrintLast Go.Proofs.YtccmpmkmgehkiaaW.PrintMore
attribute [local go_sem] max2_int min2_int max_two min_two max_three min_three max_four min_four
set_option linter.unusedVariables false
set_option linter.unusedSimpArgs false
end Go.Proofs.Ytccmpmkmgehkiaa.PA
end
section
namespace Go.Proofs.Ytccmpmkmgehkiaa.PA
open Go.RowKit Go.Proofs.YtccmpmkmgehkiaaW.PrintWords Go.Proofs.YtccmpmkmgehkiaaW.PrintLast Go.Proofs.YtccmpmkmgehkiaaW.PrintMore
attribute [local go_sem] max2_int min2_int max_two min_two max_three min_three max_four min_four
set_option linter.unusedVariables false
set_option linter.unusedSimpArgs false
end Go.Proofs.Ytccmpmkmgehkiaa.PA
end
section
namespace Go.Proofs.Ytccmpmkmgehkiaa.PA
open Go.RowKit Go.Proofs.YtccmpmkmgehkiaaW.PrintWords Go.Proofs.YtccmpmkmgehkiaaW.PrintLast Go.Proofs.YtccmpmkmgehkiaaW.PrintMore
theorem Ev.succ {α : Type} {g : Nat → Option α} {r : α} (h : Ev (fun k => g (k + 1)) r) : Ev g r := Ev.step (fun _ => rfl) h
theorem Ev.ifp {α : Type} {c : Prop} [Decidable c] {f g : Nat → Option α} {r : α} (h : c) (e : Ev f r) : Ev (fun k => if c then f k else g k) r := by simp only [if_pos h]; exact e
theorem Ev.ifn {α : Type} {c : Prop} [Decidable c] {f g : Nat → Option α} {r : α} (h : ¬ c) (e : Ev g r) : Ev (fun k => if c then f k else g k) r := by simp only [if_neg h]; exact e
theorem Ev.val {α : Type} {a r : α} (h : a = r) : Ev (fun _ => some a) r := h ▸ Ev.now a
theorem Ev.some_bind {α β : Type} {a : α} {f : Nat → α → Option β} {r : β} (h : Ev (fun k => f k a) r) : Ev (fun k => (some a).bind (f k)) r := h
theorem Ev.opt_bind {α β : Type} {o : Option α} {a : α} {f : Nat → α → Option β} {r : β} (h0 : o = some a) (h : Ev (fun k => f k a) r) : Ev (fun k => o.bind (f k)) r := by subst h0; exact h
theorem Ev.inj {α : Type} {g : Nat → Option α} {a b : α} (h : Ev g a) (h' : Ev g b) : a = b := by
  obtain ⟨K, h⟩ := h; obtain ⟨K', h'⟩ := h'
  have h1 := h (max K K') (by omega); have h2 := h' (max K K') (by omega)
  rw [h1] at h2; exact Option.some.inj h2
theorem Ev.at {α : Type} {g : Nat → Option α} (hg : ∀ k, LeO (g k) (g (k + 1))) {k : Nat} {a b : α} (h : Ev g a) (h' : g k = some b) : b = a := Ev.inj (Ev.of hg h') h
theorem w64 {n : Int} (h : -4000000000000000000 ≤ n ∧ n ≤ 4000000000000000000) : wrap64 n = n := by unfold wrap64; omega
theorem rd_nat (xs : List Int) (j : Nat) : rd xs (j : Int) = xs.getD j 0 := by unfold rd; rw [Int.toNat_natCast]
theorem rd_set (xs : List Int) (i j : Nat) (v : Int) (h : i < xs.length) : (xs.set i v).getD j 0 = if i = j then v else xs.getD j 0 := by
  rw [List.getD_eq_getElem?_getD, List.getElem?_set]
  split
  · rename_i e; subst e; simp [h]
  · rw [List.getD_eq_getElem?_getD]
theorem tdiv_pos {a b : Int} (h : 0 ≤ a) : Int.tdiv a b = a / b := Int.tdiv_eq_ediv_of_nonneg h
theorem tmod_pos {a b : Int} (h : 0 ≤ a) : Int.tmod a b = a % b := Int.tmod_eq_emod_of_nonneg h
theorem getD_nat_lt (xs : List Int) (j : Nat) (h : xs.length ≤ j) : xs.getD j 0 = 0 := by
  rw [List.getD_eq_getElem?_getD, List.getElem?_eq_none h]; rfl
theorem getD_zeros (n j : Nat) : (List.replicate n (0 : Int)).getD j 0 = 0 := by
  rw [List.getD_eq_getElem?_getD, List.getElem?_replicate]; split <;> rfl
end Go.Proofs.Ytccmpmkmgehkiaa.PA
end
