/- Proved: for every input the law KeyequationRegisters returns true and leaves its arguments as they were; no conditions. Part 5 of 5 of the proof. -/
import Derived.Test.YtkdakjlopheefaaZKeyequationRegisters3
import Derived.IntWalk
import Derived.WalkSpells
import Derived.Deep.RegionLaw
import Derived.Deep.RegionHeldLaw
import Derived.Deep.DeepFit
import Derived.Deep.RegionHeld3
import Derived.Outline
import Derived.Test.YtkdakjlopheefaaRows
import Derived.WalkKit
import Derived.ProofKit
import Derived.OpenShut
import Derived.ShutString
import Derived.ChangeOld
import Derived.Below
import Derived.SizedLaws
import Derived.Lib.SmallJoins
import Derived.Deep.Matrix
set_option linter.unusedSectionVars false
set_option linter.unusedSimpArgs false
set_option linter.unusedVariables false
section
namespace Go.Proofs.Ytkdakjlopheefaa.PA
open Go.RowKit Go.Proofs.YtkdakjlopheefaaW.PrintWords Go.Proofs.YtkdakjlopheefaaW.PrintLast Go.Proofs.YtkdakjlopheefaaW.PrintMore
open Alg
structure FOk (p m : Nat) (md : List Int) : Prop where
  p2 : 2 ≤ p
  p256 : p ≤ 256
  m1 : 1 ≤ m
  m8 : m ≤ 8
  q256 : (p : Int) ^ m ≤ 256
  mdl : m = 1 ∧ md = [] ∨ 1 < m ∧ md.length = m
  mdin : InP p md
section
variable {p m : Nat} {md : List Int}
theorem FOk.pow_le (h : FOk p m md) {i : Nat} (hi : i ≤ m) : 1 ≤ (p : Int) ^ i ∧ (p : Int) ^ i ≤ 256 := by
  have h2 := h.p2
  have h1 := pow_pos (p := p) (by omega) i
  refine ⟨by omega, ?_⟩
  have : (p : Int) ^ i ≤ (p : Int) ^ m := by
    obtain ⟨k, rfl⟩ := Nat.exists_eq_add_of_le hi
    rw [Int.pow_add]
    have h3 := pow_pos (p := p) (by omega) k
    have h4 : (p : Int) ^ i * 1 ≤ (p : Int) ^ i * (p : Int) ^ k := Int.mul_le_mul_of_nonneg_left (by omega) (by omega)
    omega
  have := h.q256
  omega
theorem order_l0 (h : FOk p m md) (n i : Nat) (hi : i + n = m) : Ev (fun k => codewrightref04_Order.l0 k ((p : Int) ^ i) (i : Int) (p : Int) (m : Int) md) ((p : Int) ^ m) := by
  have h2 := h.p2
  induction n generalizing i with
  | zero =>
    refine Ev.succ ?_
    simp only [codewrightref04_Order.l0]
    refine Ev.ifn (by omega) (Ev.val ?_)
    rw [show i = m from by omega]
  | succ n ih =>
    refine Ev.succ ?_
    simp only [codewrightref04_Order.l0]
    have h8 := h.m8
    have hp := h.pow_le (i := i + 1) (by omega)
    have hp0 := h.pow_le (i := i) (by omega)
    rw [Int.pow_succ] at hp
    refine Ev.ifp (by omega) (Ev.ifn (by omega) (Ev.ifn ?_ ?_))
    · have h256 := h.p256
      have hd : 0 ≤ (256 : Int) / p ∧ (256 : Int) / p ≤ 256 := ⟨Int.ediv_nonneg (by omega) (by omega), Int.ediv_le_self _ (by omega)⟩
      rw [tdiv_pos (by omega), w64 (by omega)]
      have : (p : Int) ^ i ≤ 256 / p := Int.le_ediv_of_mul_le (by omega) hp.2
      omega
    · rw [w64 (by omega), w64 (by omega), ← Int.pow_succ]
      exact ih (i + 1) (by omega)
theorem order_ev (h : FOk p m md) : Ev (fun k => codewrightref04_Order.f k (p : Int) (m : Int) md) ((p : Int) ^ m) := by
  have h2 := h.p2; have h1 := h.m1; have h8 := h.m8
  unfold codewrightref04_Order.f
  refine Ev.ifn (by omega) (Ev.ifn (by omega) (Ev.succ ?_))
  simp only [codewrightref04_Order.j0]
  refine Ev.ifn (by simp; omega) ?_
  have := order_l0 h m 0 (by omega)
  rw [Int.pow_zero] at this; exact this
theorem is_ev (h : FOk p m md) (x : Int) : Ev (fun k => codewrightref04_Is.f k (p : Int) (m : Int) md x) (decide (0 ≤ x ∧ x < (p : Int) ^ m)) := by
  unfold codewrightref04_Is.f
  by_cases h0 : x ≥ 0
  · refine Ev.ifp h0 (Ev.bind (order_ev h) (Ev.val ?_))
    simp; omega
  · refine Ev.ifn h0 (Ev.val ?_)
    simp; omega
theorem in_ev (h : FOk p m md) (x : Int) : Ev (fun k => codewrightref04_In.f k (p : Int) (m : Int) md x) (inq ((p : Int) ^ m) x) := by
  unfold codewrightref04_In.f inq
  refine Ev.bind (is_ev h x) ?_
  by_cases hx : 0 ≤ x ∧ x < (p : Int) ^ m
  · refine Ev.ifp (by simpa using hx) (Ev.val (if_pos hx).symm)
  · refine Ev.ifn (by simpa using hx) (Ev.val (if_neg hx).symm)
theorem digits_l0 (hp : 2 ≤ p) (n i : Nat) (hi : i + n = m) (hm : m ≤ 1000) (x : Int) (h0 : 0 ≤ x) (hx : x ≤ 1000000) (out : List Int) (hl : out.length = m) :
    ∃ r : List Int, Ev (fun k => codewrightref04_digits.l0 k x (p : Int) (m : Int) out (i : Int)) r ∧ r.length = m ∧ ∀ j, j < m → r.getD j 0 = if j < i then out.getD j 0 else x / (p : Int) ^ (j - i) % p := by
  induction n generalizing i x out with
  | zero =>
    refine ⟨out, Ev.succ ?_, hl, fun j hj => by rw [if_pos (by omega)]⟩
    simp only [codewrightref04_digits.l0]
    exact Ev.ifn (by omega) (Ev.now _)
  | succ n ih =>
    have hd : 0 ≤ x / p ∧ x / p ≤ x := ⟨Int.ediv_nonneg h0 (by omega), Int.ediv_le_self _ h0⟩
    obtain ⟨r, hr, hrl, hrj⟩ := ih (i + 1) (by omega) (x / p) hd.1 (by omega) (out.set i (x % p)) (by rw [List.length_set, hl])
    refine ⟨r, Ev.succ ?_, hrl, fun j hj => ?_⟩
    · simp only [codewrightref04_digits.l0]
      refine Ev.ifp (by omega) (Ev.ifn (by omega) (Ev.ifp (by omega) (Ev.ifp (by omega) ?_)))
      rw [tdiv_pos h0, tmod_pos h0, w64 (by omega), w64 (by omega), Int.toNat_natCast]
      exact hr
    · rw [hrj j hj]
      by_cases h1 : j < i
      · rw [if_pos (by omega), if_pos h1, rd_set _ _ _ _ (by omega), if_neg (by omega)]
      · by_cases h2 : j = i
        · subst h2
          rw [if_pos (by omega), if_neg (by omega), rd_set _ _ _ _ (by omega), if_pos rfl, Nat.sub_self, Int.pow_zero, Int.ediv_one]
        · rw [if_neg (by omega), if_neg (by omega), show j - i = (j - (i + 1)) + 1 from by omega, div_succ]
theorem digits_ev (hp : 2 ≤ p) (hm : m ≤ 1000) (x : Int) (h0 : 0 ≤ x) (hx : x ≤ 1000000) :
    Ev (fun k => codewrightref04_digits.f k x (p : Int) (m : Int)) (digs p m x) := by
  obtain ⟨r, hr, hrl, hrj⟩ := digits_l0 hp m 0 (by omega) hm x h0 hx (List.replicate m 0) (by simp)
  have e : r = digs p m x := eq_digs hrl fun j hj => by rw [hrj j hj, if_neg (by omega), Nat.sub_zero]
  rw [← e]
  unfold codewrightref04_digits.f
  refine Ev.ifp (by omega) (Ev.ifp (by rw [Int.toNat_natCast]; omega) ?_)
  rw [Int.toNat_natCast]
  exact hr
theorem Digits_ev (h : FOk p m md) (x : Int) : Ev (fun k => codewrightref04_Digits.f k (p : Int) (m : Int) md x) (digs p m (inq ((p : Int) ^ m) x)) := by
  have h1 := h.pow_le (Nat.le_refl m)
  have h2 := inq_range (q := (p : Int) ^ m) (by omega) x
  have h8 := h.m8
  unfold codewrightref04_Digits.f
  exact Ev.bind (in_ev h x) (Ev.bind (digits_ev h.p2 (by omega) _ h2.1 (by omega)) (Ev.now _))
theorem value_l0 (hp : 2 ≤ p) (l : List Int) (hin : InP p l) (hq : (p : Int) ^ l.length ≤ 1000000) (hl : l.length ≤ 1000) (M : Int) (n : Nat) (hn : n ≤ l.length) :
    Ev (fun k => codewrightref04_Value.l0 k l (vl p (l.drop n)) ((n : Int) - 1) (p : Int) M md) (vl p l) := by
  induction n with
  | zero =>
    refine Ev.succ ?_
    simp only [codewrightref04_Value.l0]
    exact Ev.ifn (by omega) (Ev.val (by rw [List.drop_zero]))
  | succ n ih =>
    have hd : l.drop n = l.getD n 0 :: l.drop (n + 1) := by
      rw [List.drop_eq_getElem_cons (by omega), List.getD_eq_getElem?_getD, List.getElem?_eq_getElem (by omega)]; rfl
    have hin' : InP p (l.drop n) := fun x hx => hin x (List.mem_of_mem_drop hx)
    have hr := vl_range (p := p) (by omega) _ hin'
    have hpw : (p : Int) ^ (l.drop n).length ≤ 1000000 := by
      have h4 := pow_pos (p := p) (by omega) n
      have h5 := pow_pos (p := p) (by omega) (l.length - n)
      have e : (p : Int) ^ l.length = (p : Int) ^ (l.length - n) * (p : Int) ^ n := by rw [← Int.pow_add]; congr 1; omega
      have h6 : (p : Int) ^ (l.length - n) * 1 ≤ (p : Int) ^ (l.length - n) * (p : Int) ^ n := Int.mul_le_mul_of_nonneg_left (by omega) (by omega)
      rw [List.length_drop]; omega
    rw [hd] at hr hin'
    have hd0 := hin'.cons.1
    have hv := vl_range (p := p) (by omega) _ hin'.cons.2
    have hv0 : 0 ≤ (p : Int) * vl p (l.drop (n + 1)) := Int.mul_nonneg (by omega) hv.1
    have ev : vl p (l.getD n 0 :: l.drop (n + 1)) = l.getD n 0 + p * vl p (l.drop (n + 1)) := rfl
    rw [ev] at hr
    rw [List.length_cons] at hr
    have e1 : (p : Int) ^ ((l.drop (n + 1)).length + 1) = (p : Int) ^ (l.drop n).length := by congr 1; simp; omega
    rw [e1] at hr
    refine Ev.succ ?_
    simp only [codewrightref04_Value.l0]
    have e2 : (((n + 1 : Nat) : Int) - 1) = (n : Int) := by omega
    rw [e2]
    refine Ev.ifp (by omega) (Ev.ifp (by omega) (Ev.ifp (by omega) ?_))
    rw [rd_nat, w64 (n := (n : Int) - 1) (by omega), w64 (n := vl p (l.drop (n + 1)) * p) (by rw [Int.mul_comm]; omega)]
    rw [w64 (by rw [Int.mul_comm]; omega)]
    have e3 : vl p (l.drop (n + 1)) * (p : Int) + l.getD n 0 = vl p (l.drop n) := by rw [hd, ev, Int.mul_comm]; omega
    rw [e3]
    exact ih (by omega)
theorem value_ev (hp : 2 ≤ p) (l : List Int) (hin : InP p l) (hq : (p : Int) ^ l.length ≤ 1000000) (hl : l.length ≤ 1000) (M : Int) :
    Ev (fun k => codewrightref04_Value.f k (p : Int) M md l) (vl p l) := by
  unfold codewrightref04_Value.f
  have := value_l0 (md := md) hp l hin hq hl M l.length (Nat.le_refl _)
  rw [List.drop_length] at this
  rw [w64 (by omega)]
  exact this
end
end Go.Proofs.Ytkdakjlopheefaa.PA
end
section
namespace Go.Proofs.Ytkdakjlopheefaa.PA
open Go.RowKit Go.Proofs.YtkdakjlopheefaaW.PrintWords Go.Proofs.YtkdakjlopheefaaW.PrintLast Go.Proofs.YtkdakjlopheefaaW.PrintMore
open Alg
section
variable {p m : Nat} {md : List Int} [hp : Two p]
noncomputable def tkk (p : Nat) [Two p] (m : Nat) (md : List Int) (x : Int) : Rs (mdPoly (p := p) md m) := ofNum md m (inq ((p : Int) ^ m) x)
theorem inq_q (h : FOk p m md) (x : Int) : 0 ≤ inq ((p : Int) ^ m) x ∧ inq ((p : Int) ^ m) x < (p : Int) ^ m := by
  have h1 := h.pow_le (Nat.le_refl m); exact inq_range (by omega) x
theorem tkk_val (x : Int) : (tkk p m md x).1 = cz (digs p m (inq ((p : Int) ^ m) x)) := rfl
theorem vl_res (h : FOk p m md) {c : List Int} (hl : c.length = m) (hin : InP p c) {a : Rs (mdPoly (p := p) md m)} (e : cz c = a.1) :
    (0 ≤ vl p c ∧ vl p c < (p : Int) ^ m) ∧ tkk p m md (vl p c) = a := by
  have hp2 := h.p2
  have h1 := vl_range (p := p) (by omega) c hin
  rw [hl] at h1
  refine ⟨h1, Subtype.ext ?_⟩
  unfold tkk
  rw [inq_of h1]
  exact (ofNum_vl hl hin).trans e
theorem value_m (h : FOk p m md) {c : List Int} (hl : c.length = m) (hin : InP p c) : Ev (fun k => codewrightref04_Value.f k (p : Int) (m : Int) md c) (vl p c) := by
  have h8 := h.m8
  exact value_ev h.p2 c hin (by rw [hl]; have := h.q256; omega) (by omega) _
theorem emod_in (x : Int) : 0 ≤ x % (p : Int) ∧ x % (p : Int) < p := by
  have := hp.le
  exact ⟨Int.emod_nonneg _ (by omega), Int.emod_lt_of_pos _ (by omega)⟩
theorem inP_set {l : List Int} (h : InP p l) (i : Nat) {v : Int} (hv : 0 ≤ v ∧ v < p) : InP p (l.set i v) := by
  intro x hx
  rcases List.mem_or_eq_of_mem_set hx with h1 | h1
  · exact h x h1
  · rw [h1]; exact hv
theorem add_l0 (h : FOk p m md) (b : List Int) (hb : b.length = m) (hbi : InP p b) (n i : Nat) (hi : i + n = m) (a : List Int) (ha : a.length = m) (hai : InP p a) :
    ∃ c : List Int, c.length = m ∧ InP p c ∧ (∀ j, j < m → c.getD j 0 = if j < i then a.getD j 0 else (a.getD j 0 + b.getD j 0) % p) ∧ Ev (fun k => codewrightref04_Add.l0 k a b (i : Int) (p : Int) (m : Int) md) (vl p c) := by
  have h2 := h.p2; have h256 := h.p256; have h8 := h.m8
  induction n generalizing i a with
  | zero =>
    refine ⟨a, ha, hai, fun j hj => by rw [if_pos (by omega)], Ev.succ ?_⟩
    simp only [codewrightref04_Add.l0]
    exact Ev.ifn (by omega) (Ev.bind (value_m h ha hai) (Ev.now _))
  | succ n ih =>
    have e1 := inP_getD hai i
    have e2 := inP_getD hbi i
    have e3 := emod_in (p := p) (a.getD i 0 + b.getD i 0)
    obtain ⟨c, hc, hci, hcj, he⟩ := ih (i + 1) (by omega) (a.set i ((a.getD i 0 + b.getD i 0) % p)) (by rw [List.length_set, ha]) (inP_set hai i e3)
    clear e3
    refine ⟨c, hc, hci, fun j hj => ?_, Ev.succ ?_⟩
    · rw [hcj j hj]
      by_cases h1 : j = i
      · subst h1; rw [if_pos (by omega), if_neg (by omega), rd_set _ _ _ _ (by omega), if_pos rfl]
      · by_cases h3 : j < i
        · rw [if_pos (by omega), if_pos h3, rd_set _ _ _ _ (by omega), if_neg (by omega)]
        · rw [if_neg (by omega), if_neg h3, rd_set _ _ _ _ (by omega), if_neg (by omega)]
    · simp only [codewrightref04_Add.l0]
      refine Ev.ifp (by omega) ?_
      refine Ev.ifp (by omega) ?_
      refine Ev.ifp (by omega) ?_
      refine Ev.ifn (by omega) ?_
      rw [rd_nat, rd_nat, w64 (n := a.getD i 0 + b.getD i 0) (by omega), tmod_pos (by omega), w64 (by omega), Int.toNat_natCast]
      exact he
theorem radd (h : FOk p m md) (x y : Int) : ∃ r, Ev (fun k => codewrightref04_Add.f k (p : Int) (m : Int) md x y) r ∧ (0 ≤ r ∧ r < (p : Int) ^ m) ∧ tkk p m md r = tkk p m md x + tkk p m md y := by
  have h2 := h.p2
  obtain ⟨c, hc, hci, hcj, he⟩ := add_l0 h (digs p m (inq ((p : Int) ^ m) y)) (digs_length ..) (digs_in pos_of_two m _) m 0 (by omega) (digs p m (inq ((p : Int) ^ m) x)) (digs_length ..) (digs_in pos_of_two m _)
  refine ⟨vl p c, ?_, vl_res h hc hci ?_⟩
  · unfold codewrightref04_Add.f
    exact Ev.bind (Digits_ev h x) (Ev.bind (Digits_ev h y) he)
  · rw [Rs.add_val, tkk_val, tkk_val]
    ext j
    rw [S.add_at, cz_at, cz_at, cz_at]
    by_cases hj : j < m
    · rw [hcj j hj, if_neg (by omega), Zp.mk_emod, Zp.mk_add]
    · rw [getD_nat_lt _ _ (by omega), getD_nat_lt _ _ (by rw [digs_length]; omega), getD_nat_lt _ _ (by rw [digs_length]; omega), Zp.mk_zero, add_zero]
theorem neg_l0 (h : FOk p m md) (n i : Nat) (hi : i + n = m) (a : List Int) (ha : a.length = m) (hai : InP p a) :
    ∃ c : List Int, c.length = m ∧ InP p c ∧ (∀ j, j < m → c.getD j 0 = if j < i then a.getD j 0 else (p - a.getD j 0) % p) ∧ Ev (fun k => codewrightref04_Neg.l0 k a (i : Int) (p : Int) (m : Int) md) (vl p c) := by
  have h2 := h.p2; have h256 := h.p256; have h8 := h.m8
  induction n generalizing i a with
  | zero =>
    refine ⟨a, ha, hai, fun j hj => by rw [if_pos (by omega)], Ev.succ ?_⟩
    simp only [codewrightref04_Neg.l0]
    exact Ev.ifn (by omega) (Ev.bind (value_m h ha hai) (Ev.now _))
  | succ n ih =>
    have e1 := inP_getD hai i
    have e3 := emod_in (p := p) (p - a.getD i 0)
    obtain ⟨c, hc, hci, hcj, he⟩ := ih (i + 1) (by omega) (a.set i ((p - a.getD i 0) % p)) (by rw [List.length_set, ha]) (inP_set hai i e3)
    clear e3
    refine ⟨c, hc, hci, fun j hj => ?_, Ev.succ ?_⟩
    · rw [hcj j hj]
      by_cases h1 : j = i
      · subst h1; rw [if_pos (by omega), if_neg (by omega), rd_set _ _ _ _ (by omega), if_pos rfl]
      · by_cases h3 : j < i
        · rw [if_pos (by omega), if_pos h3, rd_set _ _ _ _ (by omega), if_neg (by omega)]
        · rw [if_neg (by omega), if_neg h3, rd_set _ _ _ _ (by omega), if_neg (by omega)]
    · simp only [codewrightref04_Neg.l0]
      refine Ev.ifp (by omega) ?_
      refine Ev.ifp (by omega) ?_
      refine Ev.ifn (by omega) ?_
      rw [rd_nat, w64 (n := (p : Int) - a.getD i 0) (by omega), tmod_pos (by omega), w64 (by omega), Int.toNat_natCast]
      exact he
theorem mk_neg_p (a : Int) : (Zp.mk ((p - a) % p) : Zp p) = -Zp.mk a := by
  rw [Zp.mk_emod, Zp.mk_sub, Zp.mk_p, sub_eq, zero_add]
theorem rneg (h : FOk p m md) (x : Int) : ∃ r, Ev (fun k => codewrightref04_Neg.f k (p : Int) (m : Int) md x) r ∧ (0 ≤ r ∧ r < (p : Int) ^ m) ∧ tkk p m md r = -tkk p m md x := by
  have h2 := h.p2
  obtain ⟨c, hc, hci, hcj, he⟩ := neg_l0 h m 0 (by omega) (digs p m (inq ((p : Int) ^ m) x)) (digs_length ..) (digs_in pos_of_two m _)
  refine ⟨vl p c, ?_, vl_res h hc hci ?_⟩
  · unfold codewrightref04_Neg.f
    exact Ev.bind (Digits_ev h x) he
  · rw [Rs.neg_val, tkk_val]
    ext j
    rw [S.neg_at, cz_at, cz_at]
    by_cases hj : j < m
    · rw [hcj j hj, if_neg (by omega), mk_neg_p]
    · rw [getD_nat_lt _ _ (by omega), getD_nat_lt _ _ (by rw [digs_length]; omega), Zp.mk_zero, neg_zero]
theorem cz_set (l : List Int) (n : Nat) (v : Int) (h : n < l.length) : (cz (l.set n v) : S (Zp p)) = cz l + S.C (Zp.mk v - Zp.mk (l.getD n 0)) * S.pw n := by
  ext i
  rw [cz_at, rd_set l n i v h, S.add_at, S.C_mul_at, S.pw_at]
  by_cases e : n = i
  · subst e; rw [if_pos rfl, if_pos rfl, mul_one, cz_at]; exact ring_of [(Zp.mk v : Zp p), Zp.mk (l.getD n 0)] (by decide +kernel)
  · rw [if_neg e, if_neg (fun h => e h.symm), mul_zero, add_zero]; rfl
theorem cz_cons (c : Int) (l : List Int) : (cz (c :: l) : S (Zp p)) = S.C (Zp.mk c) + S.X * cz l := by
  ext i; rw [S.add_at]; cases i with
  | zero => rw [S.C_zero, S.X_mul_zero, add_zero]; rfl
  | succ i => rw [S.C_succ, S.X_mul_succ, zero_add]; rfl
theorem cz_nil : (cz [] : S (Zp p)) = 0 := S.lt_zero (cz_lt [])
theorem drop_getD (l : List Int) (j : Nat) (h : j < l.length) : l.drop j = l.getD j 0 :: l.drop (j + 1) := by
  rw [List.drop_eq_getElem_cons h, List.getD_eq_getElem?_getD, List.getElem?_eq_getElem h]; rfl
def tz (l : List Int) (j : Nat) : S (Zp p) := S.pw j * cz (l.drop j)
theorem tz_step (l : List Int) (j : Nat) (h : j < l.length) : (tz l j : S (Zp p)) = S.C (Zp.mk (l.getD j 0)) * S.pw j + tz l (j + 1) := by
  unfold tz
  rw [drop_getD l j h, cz_cons, S.pw_succ]
  exact ring_of [(S.pw j : S (Zp p)), S.C (Zp.mk (l.getD j 0)), S.X, cz (l.drop (j + 1))] (by decide +kernel)
theorem tz_end (l : List Int) : (tz l l.length : S (Zp p)) = 0 := by unfold tz; rw [List.drop_length, cz_nil, mul_zero]
theorem tz_zero (l : List Int) : (tz l 0 : S (Zp p)) = cz l := by unfold tz; rw [List.drop_zero, S.pw_zero, one_mul]
theorem mul_l1 (h : FOk p m md) (a b : List Int) (ha : a.length = m) (hai : InP p a) (hb : b.length = m) (hbi : InP p b) (i : Nat) (hi : i < m) (n j : Nat) (hj : j + n = m) (c : List Int) (hc : c.length = 2 * m - 1) (hci : InP p c) :
    ∃ c' : List Int, c'.length = 2 * m - 1 ∧ InP p c' ∧ (cz c' : S (Zp p)) = cz c + S.C (Zp.mk (a.getD i 0)) * (S.pw i * tz b j) ∧
      ∀ r, Ev (fun k => codewrightref04_Mul.l0 k a b c' ((i + 1 : Nat) : Int) (p : Int) (m : Int) md) r → Ev (fun k => codewrightref04_Mul.l1 k a b c (i : Int) (j : Int) (p : Int) (m : Int) md) r := by
  have h2 := h.p2; have h256 := h.p256; have h8 := h.m8
  induction n generalizing j c with
  | zero =>
    refine ⟨c, hc, hci, ?_, fun r hr => Ev.succ ?_⟩
    · rw [show j = b.length from by omega, tz_end, mul_zero, mul_zero, add_zero]
    · simp only [codewrightref04_Mul.l1]
      refine Ev.ifn (by omega) ?_
      rw [w64 (by omega)]; exact hr
  | succ n ih =>
    have e1 := inP_getD hai i
    have e2 := inP_getD hbi j
    have e3 := inP_getD hci (i + j)
    have e4 := emod_in (p := p) (c.getD (i + j) 0 + a.getD i 0 * b.getD j 0)
    have e5 : 0 ≤ a.getD i 0 * b.getD j 0 ∧ a.getD i 0 * b.getD j 0 ≤ 256 * 256 := ⟨Int.mul_nonneg e1.1 e2.1, Int.mul_le_mul (by omega) (by omega) e2.1 (by omega)⟩
    obtain ⟨c', hc', hci', ec, he⟩ := ih (j + 1) (by omega) (c.set (i + j) ((c.getD (i + j) 0 + a.getD i 0 * b.getD j 0) % p)) (by rw [List.length_set, hc]) (inP_set hci _ e4)
    clear e4
    refine ⟨c', hc', hci', ?_, fun r hr => Ev.succ ?_⟩
    · rw [ec, cz_set _ _ _ (by omega), tz_step b j (by omega), Zp.mk_emod, Zp.mk_add, Zp.mk_mul]
      have e6 : (Zp.mk (c.getD (i + j) 0) + Zp.mk (a.getD i 0) * Zp.mk (b.getD j 0) - Zp.mk (c.getD (i + j) 0) : Zp p) = Zp.mk (a.getD i 0) * Zp.mk (b.getD j 0) :=
        ring_of [(Zp.mk (c.getD (i + j) 0) : Zp p), Zp.mk (a.getD i 0), Zp.mk (b.getD j 0)] (by decide +kernel)
      rw [e6, S.C_mul, S.pw_add]
      exact ring_of [(cz c : S (Zp p)), S.C (Zp.mk (a.getD i 0)), S.C (Zp.mk (b.getD j 0)), S.pw i, S.pw j, tz b (j + 1)] (by decide +kernel)
    · simp only [codewrightref04_Mul.l1]
      have ew : wrap64 ((i : Int) + (j : Int)) = ((i + j : Nat) : Int) := by rw [w64 (by omega)]; omega
      rw [ew]; clear ew
      refine Ev.ifp (by omega) ?_
      refine Ev.ifp (by omega) ?_
      refine Ev.ifp (by omega) ?_
      refine Ev.ifp (by omega) ?_
      refine Ev.ifp (by omega) ?_
      refine Ev.ifp (by omega) ?_
      refine Ev.ifp (by omega) ?_
      refine Ev.ifn (by omega) ?_
      rw [rd_nat, rd_nat, rd_nat, w64 (n := a.getD i 0 * b.getD j 0) (by omega), w64 (n := c.getD (i + j) 0 + a.getD i 0 * b.getD j 0) (by omega), tmod_pos (by omega), w64 (by omega), Int.toNat_natCast]
      exact he r hr
theorem mul_l0 (h : FOk p m md) (a b : List Int) (ha : a.length = m) (hai : InP p a) (hb : b.length = m) (hbi : InP p b) (n i : Nat) (hi : i + n = m) (c : List Int) (hc : c.length = 2 * m - 1) (hci : InP p c) :
    ∃ c' : List Int, c'.length = 2 * m - 1 ∧ InP p c' ∧ (cz c' : S (Zp p)) = cz c + tz a i * cz b ∧
      ∀ r, Ev (fun k => codewrightref04_Mul.l2 k c' (2 * (m : Int) - 2) (p : Int) (m : Int) md) r → Ev (fun k => codewrightref04_Mul.l0 k a b c (i : Int) (p : Int) (m : Int) md) r := by
  have h8 := h.m8; have h1 := h.m1
  induction n generalizing i c with
  | zero =>
    refine ⟨c, hc, hci, ?_, fun r hr => Ev.succ ?_⟩
    · rw [show i = a.length from by omega, tz_end, zero_mul, add_zero]
    · simp only [codewrightref04_Mul.l0]
      refine Ev.ifn (by omega) ?_
      rw [w64 (n := 2 * (m : Int)) (by omega), w64 (by omega)]; exact hr
  | succ n ih =>
    obtain ⟨c1, hc1, hci1, ec1, he1⟩ := mul_l1 h a b ha hai hb hbi i (by omega) m 0 (by omega) c hc hci
    obtain ⟨c2, hc2, hci2, ec2, he2⟩ := ih (i + 1) (by omega) c1 hc1 hci1
    refine ⟨c2, hc2, hci2, ?_, fun r hr => Ev.succ ?_⟩
    · rw [ec2, ec1, tz_zero, tz_step a i (by omega)]
      exact ring_of [(cz c : S (Zp p)), S.C (Zp.mk (a.getD i 0)), S.pw i, cz b, tz a (i + 1)] (by decide +kernel)
    · simp only [codewrightref04_Mul.l0]
      refine Ev.ifp (by omega) ?_
      exact he1 r (he2 r hr)
def tr (n : Nat) (a : S (Zp p)) : S (Zp p) := fun i => if i < n then a i else 0
theorem tr_add (n : Nat) (a b : S (Zp p)) : tr n (a + b) = tr n a + tr n b := by
  ext i; show (if i < n then a i + b i else 0) = (if i < n then a i else 0) + (if i < n then b i else 0)
  split
  · rfl
  · rw [add_zero]
theorem tr_of_lt {n : Nat} {a : S (Zp p)} (h : S.Lt a n) : tr n a = a := by
  ext i; show (if i < n then a i else 0) = a i
  split
  · rfl
  · rw [h i (by omega)]
theorem tr_succ (n : Nat) (a : S (Zp p)) : tr (n + 1) a = tr n a + S.C (a n) * S.pw n := by
  ext i
  rw [S.add_at, S.C_mul_at, S.pw_at]
  show (if i < n + 1 then a i else 0) = (if i < n then a i else 0) + _
  by_cases h1 : i = n
  · subst h1; rw [if_pos (by omega), if_neg (by omega), if_pos rfl, mul_one, zero_add]
  · rw [if_neg h1, mul_zero, add_zero]
    by_cases h2 : i < n
    · rw [if_pos (by omega), if_pos h2]
    · rw [if_neg (by omega), if_neg h2]
theorem mul_l3 (h : FOk p m md) (hm : md.length = m) (i : Nat) (hi : m ≤ i) (hi2 : i ≤ 2 * m - 2) (n j : Nat) (hj : j + n = m) (c : List Int) (hc : c.length = 2 * m - 1) (hci : InP p c) :
    ∃ c' : List Int, c'.length = 2 * m - 1 ∧ InP p c' ∧ (cz c' : S (Zp p)) = cz c - S.C (Zp.mk (c.getD i 0)) * (S.pw (i - m) * tz md j) ∧
      ∀ r, Ev (fun k => codewrightref04_Mul.l2 k c' ((i : Int) - 1) (p : Int) (m : Int) md) r → Ev (fun k => codewrightref04_Mul.l3 k c (i : Int) (j : Int) (p : Int) (m : Int) md) r := by
  have h2 := h.p2; have h256 := h.p256; have h8 := h.m8
  induction n generalizing j c with
  | zero =>
    refine ⟨c, hc, hci, ?_, fun r hr => Ev.succ ?_⟩
    · rw [show j = md.length from by omega, tz_end, mul_zero, mul_zero, sub_eq, neg_zero, add_zero]
    · simp only [codewrightref04_Mul.l3]
      refine Ev.ifn (by omega) ?_
      rw [w64 (by omega)]; exact hr
  | succ n ih =>
    have e1 := inP_getD hci i
    have e2 := inP_getD h.mdin j
    have e3 := inP_getD hci (i - m + j)
    have e5 : 0 ≤ ((p : Int) - c.getD i 0) * md.getD j 0 ∧ ((p : Int) - c.getD i 0) * md.getD j 0 ≤ 256 * 256 := ⟨Int.mul_nonneg (by omega) e2.1, Int.mul_le_mul (by omega) (by omega) e2.1 (by omega)⟩
    have e4 := emod_in (p := p) (c.getD (i - m + j) 0 + ((p : Int) - c.getD i 0) * md.getD j 0)
    obtain ⟨c', hc', hci', ec, he⟩ := ih (j + 1) (by omega) (c.set (i - m + j) ((c.getD (i - m + j) 0 + ((p : Int) - c.getD i 0) * md.getD j 0) % p)) (by rw [List.length_set, hc]) (inP_set hci _ e4)
    clear e4
    refine ⟨c', hc', hci', ?_, fun r hr => Ev.succ ?_⟩
    · rw [ec, rd_set _ _ _ _ (by omega), if_neg (by omega), cz_set _ _ _ (by omega), tz_step md j (by omega), Zp.mk_emod, Zp.mk_add, Zp.mk_mul, Zp.mk_sub, Zp.mk_p]
      have e6 : (Zp.mk (c.getD (i - m + j) 0) + (0 - Zp.mk (c.getD i 0)) * Zp.mk (md.getD j 0) - Zp.mk (c.getD (i - m + j) 0) : Zp p) = -(Zp.mk (c.getD i 0) * Zp.mk (md.getD j 0)) :=
        ring_of [(Zp.mk (c.getD (i - m + j) 0) : Zp p), Zp.mk (c.getD i 0), Zp.mk (md.getD j 0)] (by decide +kernel)
      rw [e6, S.C_neg, S.C_mul, S.pw_add]
      exact ring_of [(cz c : S (Zp p)), S.C (Zp.mk (c.getD i 0)), S.C (Zp.mk (md.getD j 0)), S.pw (i - m), S.pw j, tz md (j + 1)] (by decide +kernel)
    · simp only [codewrightref04_Mul.l3]
      have ew : wrap64 (wrap64 ((i : Int) - (m : Int)) + (j : Int)) = ((i - m + j : Nat) : Int) := by rw [w64 (n := (i : Int) - m) (by omega), w64 (by omega)]; omega
      rw [ew]; clear ew
      refine Ev.ifp (by omega) ?_
      refine Ev.ifp (by omega) ?_
      refine Ev.ifp (by omega) ?_
      refine Ev.ifp (by omega) ?_
      refine Ev.ifp (by omega) ?_
      refine Ev.ifp (by omega) ?_
      refine Ev.ifp (by omega) ?_
      refine Ev.ifn (by omega) ?_
      rw [rd_nat, rd_nat, rd_nat, w64 (n := (p : Int) - c.getD i 0) (by omega), w64 (n := ((p : Int) - c.getD i 0) * md.getD j 0) (by omega),
        w64 (n := c.getD (i - m + j) 0 + ((p : Int) - c.getD i 0) * md.getD j 0) (by omega), tmod_pos (by omega), w64 (by omega), Int.toNat_natCast]
      exact he r hr
theorem mul_l2 (h : FOk p m md) (hm : m = 1 ∨ md.length = m) (n i : Nat) (hn : i = m + n) (hi2 : i ≤ 2 * m - 1) (c : List Int) (hc : c.length = 2 * m - 1) (hci : InP p c) :
    ∃ d : List Int, d.length = m ∧ InP p d ∧ S.Cg (mdPoly (p := p) md m).q (tr i (cz c)) (cz d) ∧ Ev (fun k => codewrightref04_Mul.l2 k c ((i : Int) - 1) (p : Int) (m : Int) md) (vl p d) := by
  have h8 := h.m8; have h1 := h.m1
  induction n generalizing i c with
  | zero =>
    obtain rfl : i = m := by omega
    refine ⟨c.take i, by rw [List.length_take]; omega, fun x hx => hci x (List.mem_of_mem_take hx), ?_, Ev.succ ?_⟩
    · have e : tr i (cz c : S (Zp p)) = cz (c.take i) := by
        ext j
        show (if j < i then _ else 0) = Zp.mk ((c.take i).getD j 0)
        rw [List.getD_eq_getElem?_getD, List.getElem?_take]
        split
        · rw [← List.getD_eq_getElem?_getD]; rfl
        · rfl
      rw [e]; exact S.Cg.refl _ _
    · simp only [codewrightref04_Mul.l2]
      refine Ev.ifn (by omega) ?_
      refine Ev.ifp (by omega) ?_
      refine Ev.ifp (by omega) ?_
      rw [Int.toNat_natCast]
      exact Ev.bind (value_m h (by rw [List.length_take]; omega) (fun x hx => hci x (List.mem_of_mem_take hx))) (Ev.now _)
  | succ n ih =>
    have hm' : md.length = m := by rcases hm with h | h <;> omega
    obtain ⟨c1, hc1, hci1, ec1, he1⟩ := mul_l3 h hm' (i - 1) (by omega) (by omega) m 0 (by omega) c hc hci
    obtain ⟨d, hd, hdi, hcg, he⟩ := ih (i - 1) (by omega) (by omega) c1 hc1 hci1
    refine ⟨d, hd, hdi, S.Cg.trans ?_ hcg, Ev.succ ?_⟩
    ·
      obtain ⟨t, rfl⟩ : ∃ t, i = t + 1 := ⟨i - 1, by omega⟩
      rw [Nat.add_sub_cancel] at ec1 ⊢
      rw [tz_zero] at ec1
      refine ⟨S.C (Zp.mk (c.getD t 0)) * S.pw (t - m), t + 1, (S.Lt.C _).mul (S.Lt.pw (t - m)) (by omega), ?_⟩
      have hlt : S.Lt (S.C (Zp.mk (c.getD t 0)) * (S.pw (t - m) * cz md) : S (Zp p)) t :=
        (S.Lt.C _).mul ((S.Lt.pw (t - m)).mul (cz_lt md) (show t - m + md.length ≤ t by omega)) (by omega)
      have e1 : tr t (cz c1 : S (Zp p)) = tr t (cz c) - S.C (Zp.mk (c.getD t 0)) * (S.pw (t - m) * cz md) := by
        rw [ec1, sub_eq, tr_add, tr_of_lt hlt.neg]; rfl
      have e2 : (S.pw t : S (Zp p)) = S.pw (t - m) * S.pw m := by rw [← S.pw_add]; congr 1; omega
      rw [e1, tr_succ, cz_at, e2]
      show _ = _ + (cz (md.take m) + S.pw m) * _
      rw [List.take_of_length_le (by omega)]
      exact ring_of [tr t (cz c : S (Zp p)), S.C (Zp.mk (c.getD t 0)), S.pw (t - m), S.pw m, cz md] (by decide +kernel)
    · simp only [codewrightref04_Mul.l2]
      refine Ev.ifp (by omega) ?_
      have e3 : ((i : Int) - 1) = ((i - 1 : Nat) : Int) := by omega
      rw [e3]
      exact he1 _ he
theorem rmul (h : FOk p m md) (x y : Int) : ∃ r, Ev (fun k => codewrightref04_Mul.f k (p : Int) (m : Int) md x y) r ∧ (0 ≤ r ∧ r < (p : Int) ^ m) ∧ tkk p m md r = tkk p m md x * tkk p m md y := by
  have h2 := h.p2; have h8 := h.m8; have h1 := h.m1
  have hm : m = 1 ∨ md.length = m := by rcases h.mdl with h | h <;> omega
  obtain ⟨c, hc, hci, ec, he⟩ := mul_l0 h (digs p m (inq ((p : Int) ^ m) x)) (digs p m (inq ((p : Int) ^ m) y)) (digs_length ..) (digs_in pos_of_two m _) (digs_length ..) (digs_in pos_of_two m _) m 0 (by omega)
    (List.replicate (2 * m - 1) 0) (by simp) (fun z hz => by rw [List.eq_of_mem_replicate hz]; omega)
  rw [cz_zeros, zero_add, tz_zero] at ec
  obtain ⟨d, hd, hdi, hcg, hev⟩ := mul_l2 h hm (m - 1) (2 * m - 1) (by omega) (by omega) c hc hci
  have hlt := cz_lt (p := p) c
  rw [hc] at hlt
  rw [tr_of_lt hlt, ec] at hcg
  have hres : tkk p m md x * tkk p m md y = ⟨cz d, by have := cz_lt (p := p) d; rwa [hd] at this⟩ := Rs.mul_is hcg
  refine ⟨vl p d, ?_, vl_res h hd hdi (by rw [hres])⟩
  unfold codewrightref04_Mul.f
  refine Ev.bind (Digits_ev h x) (Ev.bind (Digits_ev h y) ?_)
  rw [w64 (n := 2 * (m : Int)) (by omega), w64 (by omega)]
  refine Ev.ifp (by omega) ?_
  refine Ev.ifp (by omega) ?_
  rw [show (2 * (m : Int) - 1).toNat = 2 * m - 1 from by omega]
  refine he _ ?_
  rw [show (2 * (m : Int) - 2) = ((2 * m - 1 : Nat) : Int) - 1 from by omega]
  exact hev
end
end Go.Proofs.Ytkdakjlopheefaa.PA
end
section
namespace Go.Proofs.Ytkdakjlopheefaa.PA
open Go.RowKit Go.Proofs.YtkdakjlopheefaaW.PrintWords Go.Proofs.YtkdakjlopheefaaW.PrintLast Go.Proofs.YtkdakjlopheefaaW.PrintMore
open Alg
section
variable {p m : Nat} {md : List Int}
theorem digitsOf_l0 (hp : 2 ≤ p) (n i : Nat) (hi : i + n = m) (hm : m ≤ 1000) (x : Int) (h0 : 0 ≤ x) (hx : x ≤ 1000000) (out : List Int) (hl : out.length = m) :
    ∃ r : List Int, Ev (fun k => field_digitsOf.l0 k x (p : Int) out (m : Int) (i : Int)) r ∧ r.length = m ∧ ∀ j, j < m → r.getD j 0 = if j < i then out.getD j 0 else x / (p : Int) ^ (j - i) % p := by
  induction n generalizing i x out with
  | zero =>
    refine ⟨out, Ev.succ ?_, hl, fun j hj => by rw [if_pos (by omega)]⟩
    simp only [field_digitsOf.l0]
    exact Ev.ifn (by omega) (Ev.now _)
  | succ n ih =>
    have hd : 0 ≤ x / p ∧ x / p ≤ x := ⟨Int.ediv_nonneg h0 (by omega), Int.ediv_le_self _ h0⟩
    obtain ⟨r, hr, hrl, hrj⟩ := ih (i + 1) (by omega) (x / p) hd.1 (by omega) (out.set i (x % p)) (by rw [List.length_set, hl])
    refine ⟨r, Ev.succ ?_, hrl, fun j hj => ?_⟩
    · simp only [field_digitsOf.l0]
      refine Ev.ifp (by omega) ?_
      refine Ev.ifn (by omega) ?_
      refine Ev.ifp (by omega) ?_
      refine Ev.ifp (by omega) ?_
      rw [tdiv_pos h0, tmod_pos h0, w64 (by omega), w64 (by omega), Int.toNat_natCast]
      exact hr
    · rw [hrj j hj]
      by_cases h1 : j < i
      · rw [if_pos (by omega), if_pos h1, rd_set _ _ _ _ (by omega), if_neg (by omega)]
      · by_cases h2 : j = i
        · subst h2
          rw [if_pos (by omega), if_neg (by omega), rd_set _ _ _ _ (by omega), if_pos rfl, Nat.sub_self, Int.pow_zero, Int.ediv_one]
        · rw [if_neg (by omega), if_neg (by omega), show j - i = (j - (i + 1)) + 1 from by omega, div_succ]
theorem digitsOf_ev (hp : 2 ≤ p) (hm : m ≤ 1000) (x : Int) (h0 : 0 ≤ x) (hx : x ≤ 1000000) :
    Ev (fun k => field_digitsOf.f k x (p : Int) (m : Int)) (digs p m x) := by
  obtain ⟨r, hr, hrl, hrj⟩ := digitsOf_l0 hp m 0 (by omega) hm x h0 hx (List.replicate m 0) (by simp)
  have e : r = digs p m x := eq_digs hrl fun j hj => by rw [hrj j hj, if_neg (by omega), Nat.sub_zero]
  rw [← e]
  unfold field_digitsOf.f
  refine Ev.ifp (by omega) (Ev.ifp (by rw [Int.toNat_natCast]; omega) (Ev.some_bind ?_))
  rw [Int.toNat_natCast, List.length_replicate]
  exact hr
theorem valueOf_l0 (hp : 2 ≤ p) (l : List Int) (hin : InP p l) (hq : (p : Int) ^ l.length ≤ 1000000) (hl : l.length ≤ 1000) (n : Nat) (hn : n ≤ l.length) :
    Ev (fun k => field_valueOf.l0 k l (p : Int) (vl p (l.drop n)) ((n : Int) - 1)) (vl p l) := by
  induction n with
  | zero =>
    refine Ev.succ ?_
    simp only [field_valueOf.l0]
    exact Ev.ifn (by omega) (Ev.val (by rw [List.drop_zero]))
  | succ n ih =>
    have hd := drop_getD l n (by omega)
    have hin' : InP p (l.drop n) := fun x hx => hin x (List.mem_of_mem_drop hx)
    have hr := vl_range (p := p) (by omega) _ hin'
    have hpw : (p : Int) ^ (l.drop n).length ≤ 1000000 := by
      have h4 := pow_pos (p := p) (by omega) n
      have h5 := pow_pos (p := p) (by omega) (l.length - n)
      have e : (p : Int) ^ l.length = (p : Int) ^ (l.length - n) * (p : Int) ^ n := by rw [← Int.pow_add]; congr 1; omega
      have h6 : (p : Int) ^ (l.length - n) * 1 ≤ (p : Int) ^ (l.length - n) * (p : Int) ^ n := Int.mul_le_mul_of_nonneg_left (by omega) (by omega)
      rw [List.length_drop]; omega
    rw [hd] at hr hin'
    have hd0 := hin'.cons.1
    have hv := vl_range (p := p) (by omega) _ hin'.cons.2
    have hv0 : 0 ≤ (p : Int) * vl p (l.drop (n + 1)) := Int.mul_nonneg (by omega) hv.1
    have ev : vl p (l.getD n 0 :: l.drop (n + 1)) = l.getD n 0 + p * vl p (l.drop (n + 1)) := rfl
    rw [ev] at hr
    rw [List.length_cons] at hr
    have e1 : (p : Int) ^ ((l.drop (n + 1)).length + 1) = (p : Int) ^ (l.drop n).length := by congr 1; simp; omega
    rw [e1] at hr
    refine Ev.succ ?_
    simp only [field_valueOf.l0]
    have e2 : (((n + 1 : Nat) : Int) - 1) = (n : Int) := by omega
    rw [e2]
    refine Ev.ifp (by omega) ?_
    refine Ev.ifp (by omega) ?_
    refine Ev.ifp (by omega) ?_
    rw [rd_nat, w64 (n := (n : Int) - 1) (by omega), w64 (n := vl p (l.drop (n + 1)) * p) (by rw [Int.mul_comm]; omega)]
    rw [w64 (by rw [Int.mul_comm]; omega)]
    have e3 : vl p (l.drop (n + 1)) * (p : Int) + l.getD n 0 = vl p (l.drop n) := by rw [hd, ev, Int.mul_comm]; omega
    rw [e3]
    exact ih (by omega)
theorem valueOf_ev (hp : 2 ≤ p) (l : List Int) (hin : InP p l) (hq : (p : Int) ^ l.length ≤ 1000000) (hl : l.length ≤ 1000) :
    Ev (fun k => field_valueOf.f k l (p : Int)) (vl p l) := by
  unfold field_valueOf.f
  have := valueOf_l0 hp l hin hq hl l.length (Nat.le_refl _)
  rw [List.drop_length] at this
  rw [w64 (by omega)]
  exact this
variable [hp : Two p]
def field_multiply.row (P M top bi : Int) (a Mod : List Int) : List Int → Nat → List Int
  | [], _ => []
  | o :: os, j => (o + (P - top) * (if M > 1 then rd Mod (j : Int) else 0) + bi * rd a (j : Int)) % P :: field_multiply.row P M top bi a Mod os (j + 1)
def field_multiply.go (P M : Int) (a b Mod : List Int) : Nat → List Int → List Int
  | 0, out => out
  | n + 1, out => field_multiply.go P M a b Mod n (field_multiply.row P M (rd out (M - 1)) (rd b (n : Int)) a Mod (0 :: out.take (out.length - 1)) 0)
theorem row_length (P M top bi : Int) (a Mod os : List Int) (j : Nat) : (field_multiply.row P M top bi a Mod os j).length = os.length := by
  induction os generalizing j with
  | nil => rfl
  | cons o os ih => simp [field_multiply.row, ih]
theorem row_at (P M top bi : Int) (a Mod os : List Int) (j i : Nat) (h : i < os.length) :
    (field_multiply.row P M top bi a Mod os j).getD i 0 = (os.getD i 0 + (P - top) * (if M > 1 then Mod.getD (j + i) 0 else 0) + bi * a.getD (j + i) 0) % P := by
  induction os generalizing j i with
  | nil => simp at h
  | cons o os ih =>
    cases i with
    | zero => simp only [field_multiply.row, List.getD_cons_zero, rd_nat, Nat.add_zero]
    | succ i =>
      simp only [field_multiply.row, List.getD_cons_succ]
      rw [ih (j + 1) i (by simpa using h), show j + 1 + i = j + (i + 1) from by omega]
theorem row_in (M top bi : Int) (a Mod os : List Int) (j : Nat) : InP p (field_multiply.row (p : Int) M top bi a Mod os j) := by
  induction os generalizing j with
  | nil => intro x hx; cases hx
  | cons o os ih =>
    intro x hx
    rcases List.mem_cons.1 hx with rfl | hx
    · exact emod_in _
    · exact ih (j + 1) x hx
theorem row_cz (h : FOk p m md) (top bi : Int) (a os : List Int) (ha : a.length = m) (hos : os.length = m) :
    (cz (field_multiply.row (p : Int) (m : Int) top bi a md os 0) : S (Zp p)) = cz os - S.C (Zp.mk top) * cz (md.take m) + S.C (Zp.mk bi) * cz a := by
  have h1 := h.m1
  ext j
  rw [S.add_at, S.sub_at, S.C_mul_at, S.C_mul_at, cz_at, cz_at, cz_at, cz_at]
  by_cases hj : j < m
  · rw [row_at _ _ _ _ _ _ _ _ _ (by omega), Zp.mk_emod, Zp.mk_add, Zp.mk_add, Zp.mk_mul, Zp.mk_mul, Zp.mk_sub, Zp.mk_p, Nat.zero_add]
    have e : (if (m : Int) > 1 then md.getD j 0 else 0) = (md.take m).getD j 0 := by
      rcases h.mdl with ⟨h2, h3⟩ | ⟨h2, h3⟩
      · rw [if_neg (by omega), h3]; simp
      · rw [if_pos (by omega), List.take_of_length_le (by omega)]
    rw [e]
    exact ring_of [(Zp.mk (os.getD j 0) : Zp p), Zp.mk top, Zp.mk ((md.take m).getD j 0), Zp.mk bi, Zp.mk (a.getD j 0)] (by decide +kernel)
  · rw [getD_nat_lt _ _ (by rw [row_length]; omega), getD_nat_lt os j (by omega), getD_nat_lt _ j (by rw [List.length_take]; omega), getD_nat_lt a j (by omega), Zp.mk_zero]
    exact ring_of [(Zp.mk top : Zp p), Zp.mk bi] (by decide +kernel)
theorem take_snoc_cz (l : List Int) (n : Nat) (h : n < l.length) : (cz (l.take (n + 1)) : S (Zp p)) = cz (l.take n) + S.C (Zp.mk (l.getD n 0)) * S.pw n := by
  ext j
  rw [S.add_at, S.C_mul_at, S.pw_at, cz_at, cz_at, List.getD_eq_getElem?_getD, List.getD_eq_getElem?_getD, List.getElem?_take, List.getElem?_take]
  by_cases e : j = n
  · subst e; rw [if_pos (by omega), if_neg (by omega), if_pos rfl, mul_one, ← List.getD_eq_getElem?_getD]
    show _ = Zp.mk 0 + _
    rw [Zp.mk_zero, zero_add]
  · rw [if_neg e, mul_zero, add_zero]
    by_cases h1 : j < n
    · rw [if_pos (by omega), if_pos h1]
    · rw [if_neg (by omega), if_neg h1]
theorem go_cg (h : FOk p m md) (a b : List Int) (ha : a.length = m) (hb : b.length = m) (n : Nat) (hn : n ≤ m) (out : List Int) (ho : out.length = m) (hoi : InP p out) :
    ∃ d : List Int, field_multiply.go (p : Int) (m : Int) a b md n out = d ∧ d.length = m ∧ InP p d ∧ S.Cg (mdPoly (p := p) md m).q (S.pw n * cz out + cz (b.take n) * cz a) (cz d) := by
  have h1 := h.m1
  induction n generalizing out with
  | zero =>
    refine ⟨out, rfl, ho, hoi, ?_⟩
    rw [List.take_zero, cz_nil, zero_mul, add_zero, S.pw_zero, one_mul]; exact S.Cg.refl _ _
  | succ n ih =>
    have hl : (0 :: out.take (out.length - 1)).length = m := by simp; omega
    obtain ⟨d, e, hd, hdi, hcg⟩ := ih (by omega) (field_multiply.row (p : Int) (m : Int) (rd out ((m : Int) - 1)) (rd b (n : Int)) a md (0 :: out.take (out.length - 1)) 0)
      (by rw [row_length]; exact hl) (row_in _ _ _ _ _ _ _)
    refine ⟨d, e, hd, hdi, S.Cg.trans ?_ hcg⟩
    rw [row_cz h _ _ _ _ ha hl, rd_nat, show ((m : Int) - 1) = ((m - 1 : Nat) : Int) from by omega, rd_nat, take_snoc_cz b n (by omega), cz_cons, Zp.mk_zero, S.C_0, zero_add, S.pw_succ]
    have e1 := take_snoc_cz (p := p) out (m - 1) (by omega)
    rw [show m - 1 + 1 = out.length from by omega, List.take_length] at e1
    have e2 : (S.X * S.pw (m - 1) : S (Zp p)) = S.pw m := by rw [← S.pw_succ]; congr 1; omega
    rw [ho]
    refine ⟨S.pw n * S.C (Zp.mk (out.getD (m - 1) 0)), n + 1, (S.Lt.pw n).mul (S.Lt.C _) (by omega), ?_⟩
    show _ = _ + (cz (md.take m) + S.pw m) * _
    rw [← e2, e1]
    exact ring_of [(S.X : S (Zp p)), S.pw n, cz (out.take (m - 1)), S.C (Zp.mk (out.getD (m - 1) 0)), S.pw (m - 1), cz (b.take n), S.C (Zp.mk (b.getD n 0)), cz a, cz (md.take m)] (by decide +kernel)
theorem mult_l1 (h : FOk p m md) (a b : List Int) (ha : a.length = m) (hai : InP p a) (hb : b.length = m) (hbi : InP p b) (i : Nat) (hi : i < m) (top : Int) (ht : 0 ≤ top ∧ top < p) (n j : Nat) (hj : j + n = m) (out : List Int) (ho : out.length = m) (hoi : InP p out) :
    ∃ out' : List Int, out'.length = m ∧ InP p out' ∧ (∀ t, t < m → out'.getD t 0 = if t < j then out.getD t 0 else (out.getD t 0 + (p - top) * (if (m : Int) > 1 then md.getD t 0 else 0) + b.getD i 0 * a.getD t 0) % p) ∧
      ∀ r, Ev (fun k => field_multiply.l0 k a b out' ((i : Int) - 1) (p : Int) (m : Int) md) r → Ev (fun k => field_multiply.l1 k a b out (i : Int) top (m : Int) (j : Int) (p : Int) (m : Int) md) r := by
  have h2 := h.p2; have h256 := h.p256; have h8 := h.m8
  induction n generalizing j out with
  | zero =>
    refine ⟨out, ho, hoi, fun t htm => by rw [if_pos (by omega)], fun r hr => Ev.succ ?_⟩
    simp only [field_multiply.l1]
    refine Ev.ifn (by omega) ?_
    rw [w64 (by omega)]; exact hr
  | succ n ih =>
    have e1 := inP_getD hbi i
    have e2 := inP_getD hai j
    have e3 := inP_getD hoi j
    have e7 := inP_getD h.mdin j
    have e5 : 0 ≤ b.getD i 0 * a.getD j 0 ∧ b.getD i 0 * a.getD j 0 ≤ 256 * 256 := ⟨Int.mul_nonneg e1.1 e2.1, Int.mul_le_mul (by omega) (by omega) e2.1 (by omega)⟩
    have e6 : 0 ≤ ((p : Int) - top) * md.getD j 0 ∧ ((p : Int) - top) * md.getD j 0 ≤ 256 * 256 := ⟨Int.mul_nonneg (by omega) e7.1, Int.mul_le_mul (by omega) (by omega) e7.1 (by omega)⟩
    obtain ⟨v, hv⟩ : ∃ v, v = (out.getD j 0 + ((p : Int) - top) * (if (m : Int) > 1 then md.getD j 0 else 0) + b.getD i 0 * a.getD j 0) % p := ⟨_, rfl⟩
    have hvr : 0 ≤ v ∧ v < p := by rw [hv]; exact emod_in _
    obtain ⟨out', hl', hi', hp', he⟩ := ih (j + 1) (by omega) (out.set j v) (by rw [List.length_set, ho]) (inP_set hoi j hvr)
    refine ⟨out', hl', hi', fun t htm => ?_, fun r hr => Ev.succ ?_⟩
    · rw [hp' t htm]
      by_cases h1 : t = j
      · subst h1; rw [if_pos (by omega), if_neg (by omega), rd_set _ _ _ _ (by omega), if_pos rfl, hv]
      · by_cases h3 : t < j
        · rw [if_pos (by omega), if_pos h3, rd_set _ _ _ _ (by omega), if_neg (by omega)]
        · rw [if_neg (by omega), if_neg h3, rd_set _ _ _ _ (by omega), if_neg (by omega)]
    · have h9 := he r hr
      simp only [field_multiply.l1]
      refine Ev.ifp (by omega) ?_
      by_cases hm1 : (m : Int) > 1
      · rw [if_pos hm1] at hv
        have hmd : md.length = m := by rcases h.mdl with h | h <;> omega
        refine Ev.ifp hm1 ?_
        refine Ev.ifp (by omega) ?_
        refine Ev.ifp (by omega) ?_
        refine Ev.ifp (by omega) ?_
        refine Ev.ifp (by omega) ?_
        refine Ev.ifp (by omega) ?_
        refine Ev.ifp (by omega) ?_
        refine Ev.ifn (by omega) ?_
        have ev : Int.tmod (wrap64 ((wrap64 ((rd out (j : Int)) + (wrap64 ((wrap64 ((p : Int) - top)) * (rd md (j : Int)))))) + (wrap64 ((rd b (i : Int)) * (rd a (j : Int)))))) (p : Int) = v := by
          clear h9 he hp'
          rw [rd_nat, rd_nat, rd_nat, rd_nat, w64 (n := (p : Int) - top) (by omega), w64 (n := ((p : Int) - top) * md.getD j 0) (by omega), w64 (n := b.getD i 0 * a.getD j 0) (by omega),
            w64 (n := out.getD j 0 + ((p : Int) - top) * md.getD j 0) (by omega), w64 (by omega), tmod_pos (by omega), hv]
        rw [ev, Int.toNat_natCast, w64 (by omega)]
        exact h9
      · rw [if_neg hm1, Int.mul_zero, Int.add_zero] at hv
        refine Ev.ifn hm1 ?_
        refine Ev.ifp (by omega) ?_
        refine Ev.ifp (by omega) ?_
        refine Ev.ifp (by omega) ?_
        refine Ev.ifp (by omega) ?_
        refine Ev.ifp (by omega) ?_
        refine Ev.ifn (by omega) ?_
        have ev : Int.tmod (wrap64 ((wrap64 ((rd out (j : Int)) + (wrap64 0))) + (wrap64 ((rd b (i : Int)) * (rd a (j : Int)))))) (p : Int) = v := by
          clear h9 he hp'
          rw [rd_nat, rd_nat, rd_nat, w64 (n := 0) (by omega), Int.add_zero, w64 (n := b.getD i 0 * a.getD j 0) (by omega), w64 (n := out.getD j 0) (by omega), w64 (by omega), tmod_pos (by omega), hv]
        rw [ev, Int.toNat_natCast, w64 (by omega)]
        exact h9
theorem shifted (out : List Int) (m : Nat) (hm : 1 ≤ m) (ho : out.length = m) : (splice out 1 (out.take (m - 1))).set 0 0 = 0 :: out.take (out.length - 1) := by
  have hl : (out.take (m - 1)).length = m - 1 := by rw [List.length_take]; omega
  apply List.ext_getElem?
  intro k
  rw [List.getElem?_set, splice_get _ _ _ (by omega), hl]
  cases k with
  | zero => rw [if_pos rfl, if_pos (by rw [length_splice _ _ _ (by omega)]; omega)]; rfl
  | succ k =>
    rw [if_neg (by omega), if_neg (by omega), List.getElem?_cons_succ, ho]
    by_cases h1 : k < m - 1
    · rw [if_pos (by omega), Nat.add_sub_cancel]
    · rw [if_neg (by omega), List.getElem?_eq_none (by omega), List.getElem?_eq_none (by omega)]
theorem mult_l0 (h : FOk p m md) (a b : List Int) (ha : a.length = m) (hai : InP p a) (hb : b.length = m) (hbi : InP p b) (n : Nat) (hn : n ≤ m) (out : List Int) (ho : out.length = m) (hoi : InP p out) :
    Ev (fun k => field_multiply.l0 k a b out ((n : Int) - 1) (p : Int) (m : Int) md) (vl p (field_multiply.go (p : Int) (m : Int) a b md n out)) := by
  have h2 := h.p2; have h8 := h.m8; have h1 := h.m1; have hq := h.q256
  induction n generalizing out with
  | zero =>
    refine Ev.succ ?_
    simp only [field_multiply.l0]
    exact Ev.ifn (by omega) (Ev.bind (valueOf_ev h2 out hoi (by rw [ho]; omega) (by omega)) (Ev.now _))
  | succ n ih =>
    have hs := shifted out m h1 ho
    have hsl : (0 :: out.take (out.length - 1)).length = m := by simp; omega
    have hsi : InP p (0 :: out.take (out.length - 1)) := by
      intro x hx
      rcases List.mem_cons.1 hx with rfl | hx
      · omega
      · exact hoi x (List.mem_of_mem_take hx)
    obtain ⟨out', hl', hi', hp', he⟩ := mult_l1 h a b ha hai hb hbi n (by omega) (out.getD (m - 1) 0) (inP_getD hoi _) m 0 (by omega) _ hsl hsi
    have er : out' = field_multiply.row (p : Int) (m : Int) (rd out ((m : Int) - 1)) (rd b (n : Int)) a md (0 :: out.take (out.length - 1)) 0 := by
      refine ext_getD (by rw [hl', row_length, hsl]) fun t ht => ?_
      rw [hp' t (by omega), if_neg (by omega), row_at _ _ _ _ _ _ _ _ _ (by omega), Nat.zero_add, show ((m : Int) - 1) = ((m - 1 : Nat) : Int) from by omega, rd_nat, rd_nat]
    have h3 := ih (by omega) out' hl' hi'
    rw [er] at h3
    have h4 := he _ (by rw [er]; exact h3)
    refine Ev.succ ?_
    simp only [field_multiply.l0]
    rw [show ((n + 1 : Nat) : Int) - 1 = (n : Int) from by omega, w64 (n := (m : Int) - 1) (by omega), show ((m : Int) - 1) = ((m - 1 : Nat) : Int) from by omega, rd_nat, Int.toNat_natCast, ho]
    refine Ev.ifp (by omega) ?_
    refine Ev.ifp (by omega) ?_
    refine Ev.ifp (by omega) ?_
    refine Ev.ifp (by omega) ?_
    rw [show (0 : Int).toNat = 0 from rfl, hs]
    exact h4
theorem pmul (h : FOk p m md) (x y : Int) (hx : 0 ≤ x ∧ x < (p : Int) ^ m) (hy : 0 ≤ y ∧ y < (p : Int) ^ m) :
    ∃ r, Ev (fun k => field_multiply.f k (p : Int) (m : Int) md x y) r ∧ (0 ≤ r ∧ r < (p : Int) ^ m) ∧ tkk p m md r = tkk p m md x * tkk p m md y := by
  have h2 := h.p2; have h8 := h.m8; have h1 := h.m1; have h256 := h.p256; have hq := h.q256
  obtain ⟨d, e, hd, hdi, hcg⟩ := go_cg h (digs p m x) (digs p m y) (digs_length ..) (digs_length ..) m (Nat.le_refl m) (List.replicate m 0) (by simp) (fun z hz => by rw [List.eq_of_mem_replicate hz]; omega)
  rw [cz_zeros, mul_zero, zero_add, List.take_of_length_le (by rw [digs_length]; exact Nat.le_refl m), mul_comm] at hcg
  have hres : tkk p m md x * tkk p m md y = ⟨cz d, by have := cz_lt (p := p) d; rwa [hd] at this⟩ := Rs.mul_is (by rw [tkk_val, tkk_val, inq_of hx, inq_of hy]; exact hcg)
  refine ⟨vl p d, ?_, vl_res h hd hdi (by rw [hres])⟩
  unfold field_multiply.f
  refine Ev.bind (digitsOf_ev h2 (by omega) x hx.1 (by omega)) (Ev.bind (digitsOf_ev h2 (by omega) y hy.1 (by omega)) ?_)
  refine Ev.ifp (by omega) (Ev.ifp (by omega) ?_)
  rw [Int.toNat_natCast, w64 (by omega)]
  have := mult_l0 h (digs p m x) (digs p m y) (digs_length ..) (digs_in pos_of_two m _) (digs_length ..) (digs_in pos_of_two m _) m (Nat.le_refl m) (List.replicate m 0) (by simp) (fun z hz => by rw [List.eq_of_mem_replicate hz]; omega)
  rw [e] at this
  exact this
def addl (p : Nat) : Nat → Int → Int → List Int
  | 0, _, _ => []
  | n + 1, x, y => (x % p + y % p) % p :: addl p n (x / p) (y / p)
theorem addl_length (n : Nat) (x y : Int) : (addl p n x y).length = n := by
  induction n generalizing x y with
  | zero => rfl
  | succ n ih => simp [addl, ih]
theorem addl_in (n : Nat) (x y : Int) : InP p (addl p n x y) := by
  induction n generalizing x y with
  | zero => intro z hz; cases hz
  | succ n ih =>
    intro z hz
    rcases List.mem_cons.1 hz with rfl | hz
    · exact emod_in _
    · exact ih _ _ z hz
theorem addl_cz (n : Nat) (x y : Int) : (cz (addl p n x y) : S (Zp p)) = cz (digs p n x) + cz (digs p n y) := by
  induction n generalizing x y with
  | zero => show cz [] = cz [] + cz []; rw [cz_nil, add_zero]
  | succ n ih =>
    show cz (_ :: addl p n (x / p) (y / p)) = cz (_ :: digs p n (x / p)) + cz (_ :: digs p n (y / p))
    rw [cz_cons, cz_cons, cz_cons, ih, Zp.mk_emod, Zp.mk_add, S.C_add]
    exact ring_of [(S.C (Zp.mk (x % p)) : S (Zp p)), S.C (Zp.mk (y % p)), S.X, cz (digs p n (x / p)), cz (digs p n (y / p))] (by decide +kernel)
theorem addl_zero (n : Nat) : vl p (addl p n 0 0) = 0 := by
  induction n with
  | zero => rfl
  | succ n ih => show ((0 : Int) % p + 0 % p) % p + p * vl p (addl p n (0 / p) (0 / p)) = 0; simp [ih]
theorem gin (q : Int) (ex lg : List Int) (x : Int) : field_GF_in.f (p : Int) (m : Int) md q ex lg x = some (inq q x, (p : Int), (m : Int), q) := by
  unfold field_GF_in.f field_GF_Is.f inq
  by_cases h : x ≥ 0
  · rw [if_pos h]; simp only [Option.bind_some, decide_eq_true_eq]
    by_cases h2 : x < q
    · rw [if_pos h2, if_pos ⟨h, h2⟩]
    · rw [if_neg h2, if_neg (fun hh => h2 hh.2)]
  · rw [if_neg h]; simp only [Option.bind_some]
    rw [if_neg (by simp), if_neg (fun hh => h hh.1)]
theorem gadd_l0 (h : FOk p m md) (q : Int) (ex lg : List Int) (n i : Nat) (hi : i + n = m) (x y s : Int) (hx : 0 ≤ x ∧ x < (p : Int) ^ n) (hy : 0 ≤ y ∧ y < (p : Int) ^ n) (hs : 0 ≤ s ∧ s < (p : Int) ^ i) :
    Ev (fun k => field_GF_Add.l0 k x y s ((p : Int) ^ i) (p : Int) (m : Int) md q ex lg) (s + (p : Int) ^ i * vl p (addl p n x y), (p : Int), (m : Int), q) := by
  have h2 := h.p2; have h256 := h.p256
  induction n generalizing i x y s with
  | zero =>
    rw [Int.pow_zero] at hx hy
    refine Ev.succ ?_
    simp only [field_GF_Add.l0]
    refine Ev.ifn (by omega) (Ev.ifn (by omega) (Ev.val ?_))
    show (s, _) = (s + _ * 0, _)
    rw [Int.mul_zero, Int.add_zero]
  | succ n ih =>
    by_cases hz : x = 0 ∧ y = 0
    · obtain ⟨rfl, rfl⟩ := hz
      refine Ev.succ ?_
      simp only [field_GF_Add.l0]
      refine Ev.ifn (by omega) (Ev.ifn (by omega) (Ev.val ?_))
      rw [addl_zero, Int.mul_zero, Int.add_zero]
    · have hpi := h.pow_le (i := i) (by omega)
      have hpi1 := h.pow_le (i := i + 1) (by omega)
      have hd1 := emod_in (p := p) x
      have hd2 := emod_in (p := p) y
      have hd3 := emod_in (p := p) (x % p + y % p)
      have hx1 : 0 ≤ x / p ∧ x / p < (p : Int) ^ n ∧ x / p ≤ x := ⟨Int.ediv_nonneg hx.1 (by omega), Int.ediv_lt_of_lt_mul (by omega) (by rw [← Int.pow_succ]; exact hx.2), Int.ediv_le_self _ hx.1⟩
      have hy1 : 0 ≤ y / p ∧ y / p < (p : Int) ^ n ∧ y / p ≤ y := ⟨Int.ediv_nonneg hy.1 (by omega), Int.ediv_lt_of_lt_mul (by omega) (by rw [← Int.pow_succ]; exact hy.2), Int.ediv_le_self _ hy.1⟩
      have hxq := h.pow_le (i := n + 1) (by omega)
      have em : Int.tmod (wrap64 (Int.tmod x p + Int.tmod y p)) (p : Int) = (x % p + y % p) % p := by
        rw [tmod_pos hx.1, tmod_pos hy.1]
        generalize x % (p : Int) = u at *
        generalize y % (p : Int) = v at *
        clear hd3
        rw [w64 (by omega), tmod_pos (by omega)]
      generalize hu : (x % p + y % p) % (p : Int) = u at em hd3
      have hu' : s + u * (p : Int) ^ i < (p : Int) ^ (i + 1) ∧ 0 ≤ u * (p : Int) ^ i := by
        have h3 : u * (p : Int) ^ i ≤ (p - 1) * (p : Int) ^ i := Int.mul_le_mul_of_nonneg_right (by omega) (by omega)
        have h4 : ((p : Int) - 1) * (p : Int) ^ i = (p : Int) ^ (i + 1) - (p : Int) ^ i := by rw [Int.pow_succ, Int.sub_mul, Int.one_mul, Int.mul_comm]
        have h5 := Int.mul_nonneg hd3.1 (show (0 : Int) ≤ (p : Int) ^ i by omega)
        omega
      have goal := ih (i + 1) (by omega) (x / p) (y / p) (s + u * (p : Int) ^ i) ⟨hx1.1, hx1.2.1⟩ ⟨hy1.1, hy1.2.1⟩ ⟨by omega, hu'.1⟩
      have ev : s + u * (p : Int) ^ i + (p : Int) ^ (i + 1) * vl p (addl p n (x / p) (y / p)) = s + (p : Int) ^ i * vl p (addl p (n + 1) x y) := by
        show _ = s + (p : Int) ^ i * ((x % p + y % p) % p + p * vl p (addl p n (x / p) (y / p)))
        rw [hu, Int.mul_add, Int.pow_succ, Int.mul_comm u, Int.mul_assoc, Int.add_assoc]
      rw [ev] at goal
      have body : Ev (fun k => field_GF_Add.l0 k (wrap64 (Int.tdiv x p)) (wrap64 (Int.tdiv y p)) (wrap64 (s + wrap64 (Int.tmod (wrap64 (Int.tmod x p + Int.tmod y p)) (p : Int) * (p : Int) ^ i))) (wrap64 ((p : Int) ^ i * p)) (p : Int) (m : Int) md q ex lg) (s + (p : Int) ^ i * vl p (addl p (n + 1) x y), (p : Int), (m : Int), q) := by
        rw [em, tdiv_pos hx.1, tdiv_pos hy.1, w64 (n := x / p) (by omega), w64 (n := y / p) (by omega), w64 (n := u * (p : Int) ^ i) (by omega), w64 (n := s + u * (p : Int) ^ i) (by omega), ← Int.pow_succ, w64 (n := (p : Int) ^ (i + 1)) (by omega)]
        exact goal
      clear goal ev em hu
      refine Ev.succ ?_
      simp only [field_GF_Add.l0]
      by_cases hx0 : x > 0
      · refine Ev.ifp hx0 (Ev.ifn (by omega) ?_); exact body
      · refine Ev.ifn hx0 (Ev.ifp (by omega) (Ev.ifn (by omega) ?_)); exact body
theorem xor_addl (n : Nat) (a b : Nat) (ha : a < 2 ^ n) (hb : b < 2 ^ n) : (((a ^^^ b : Nat) : Nat) : Int) = vl 2 (addl 2 n (a : Int) (b : Int)) := by
  induction n generalizing a b with
  | zero => simp at ha hb; subst ha; subst hb; rfl
  | succ n ih =>
    have h1 := ih (a / 2) (b / 2) (by rw [Nat.pow_succ] at ha; omega) (by rw [Nat.pow_succ] at hb; omega)
    show _ = ((a : Int) % (2 : Nat) + (b : Int) % (2 : Nat)) % (2 : Nat) + (2 : Nat) * vl 2 (addl 2 n ((a : Int) / (2 : Nat)) ((b : Int) / (2 : Nat)))
    have e1 : ((a : Int) / (2 : Nat)) = ((a / 2 : Nat) : Int) := by omega
    have e2 : ((b : Int) / (2 : Nat)) = ((b / 2 : Nat) : Int) := by omega
    rw [e1, e2, ← h1]
    have e3 : (a ^^^ b) % 2 = (a % 2 + b % 2) % 2 := by have := @Nat.xor_mod_two_eq_one a b; omega
    have e4 : (a ^^^ b) / 2 = a / 2 ^^^ b / 2 := Nat.xor_div_two
    omega
theorem bits_i64 (a b : Nat) (ha : a < 1000000) (hb : b < 1000000) : Go.bits .xor .i64 (a : Int) (b : Int) = ((a ^^^ b : Nat) : Int) := by
  have hx : a ^^^ b < 2 ^ 20 := Nat.xor_lt_two_pow (by omega) (by omega)
  show IntKind.i64.wrap ((BitVec.ofInt 64 (a : Int) ^^^ BitVec.ofInt 64 (b : Int)).toNat : Int) = _
  have e1 : (BitVec.ofInt 64 (a : Int)).toNat = a := by simp; omega
  have e2 : (BitVec.ofInt 64 (b : Int)).toNat = b := by simp; omega
  rw [BitVec.toNat_xor, e1, e2]
  exact IntWalk.i64_in _ (by omega)
theorem gadd' (h : FOk p m md) (ex lg : List Int) (x y : Int) : ∃ r, Ev (fun k => field_GF_Add.f k (p : Int) (m : Int) md ((p : Int) ^ m) ex lg x y) (r, (p : Int), (m : Int), (p : Int) ^ m) ∧ (0 ≤ r ∧ r < (p : Int) ^ m) ∧ tkk p m md r = tkk p m md x + tkk p m md y := by
  have h2 := h.p2; have hq := h.q256
  have hx := inq_q h x
  have hy := inq_q h y
  refine ⟨vl p (addl p m (inq ((p : Int) ^ m) x) (inq ((p : Int) ^ m) y)), ?_, vl_res h (addl_length ..) (addl_in m _ _) (by rw [Rs.add_val, tkk_val, tkk_val]; exact addl_cz _ _ _)⟩
  unfold field_GF_Add.f
  refine Ev.opt_bind (gin _ _ _ _) (Ev.opt_bind (gin _ _ _ _) ?_)
  by_cases hp2 : (p : Int) = 2
  · refine Ev.ifp hp2 (Ev.val ?_)
    obtain rfl : p = 2 := by omega
    obtain ⟨A, hA⟩ := Int.eq_ofNat_of_zero_le hx.1
    obtain ⟨B, hB⟩ := Int.eq_ofNat_of_zero_le hy.1
    show (Go.bits .xor .i64 (inq _ x) (inq _ y), _) = _
    have hA2 : A < 2 ^ m := by have := hx.2; rw [hA] at this; exact_mod_cast this
    have hB2 : B < 2 ^ m := by have := hy.2; rw [hB] at this; exact_mod_cast this
    rw [hA, hB, bits_i64 A B (by omega) (by omega), xor_addl m A B hA2 hB2]
  · refine Ev.ifn hp2 ?_
    have := gadd_l0 h ((p : Int) ^ m) ex lg m 0 (by omega) _ _ 0 hx hy ⟨Int.le_refl 0, by rw [Int.pow_zero]; omega⟩
    rw [Int.pow_zero, Int.one_mul, Int.zero_add] at this
    exact this
end
end Go.Proofs.Ytkdakjlopheefaa.PA
end
section
namespace Go.Proofs.Ytkdakjlopheefaa.PA
open Go.RowKit Go.Proofs.YtkdakjlopheefaaW.PrintWords Go.Proofs.YtkdakjlopheefaaW.PrintLast Go.Proofs.YtkdakjlopheefaaW.PrintMore
open Alg
open Alg.S (npow)
section
variable {p m : Nat} {md : List Int} [hp : Two p]
def negl (p : Nat) : Nat → Int → List Int
  | 0, _ => []
  | n + 1, x => (p - x % p) % p :: negl p n (x / p)
theorem negl_length (n : Nat) (x : Int) : (negl p n x).length = n := by
  induction n generalizing x with
  | zero => rfl
  | succ n ih => simp [negl, ih]
theorem negl_in (n : Nat) (x : Int) : InP p (negl p n x) := by
  induction n generalizing x with
  | zero => intro z hz; cases hz
  | succ n ih =>
    intro z hz
    rcases List.mem_cons.1 hz with rfl | hz
    · exact emod_in _
    · exact ih _ z hz
theorem negl_cz (n : Nat) (x : Int) : (cz (negl p n x) : S (Zp p)) = -cz (digs p n x) := by
  induction n generalizing x with
  | zero => show cz [] = -cz []; rw [cz_nil, neg_zero]
  | succ n ih =>
    show cz (_ :: negl p n (x / p)) = -cz (_ :: digs p n (x / p))
    rw [cz_cons, cz_cons, ih, mk_neg_p, S.C_neg]
    exact ring_of [(S.C (Zp.mk (x % p)) : S (Zp p)), S.X, cz (digs p n (x / p))] (by decide +kernel)
theorem negl_zero (n : Nat) : vl p (negl p n 0) = 0 := by
  induction n with
  | zero => rfl
  | succ n ih => show ((p : Int) - 0 % p) % p + p * vl p (negl p n (0 / p)) = 0; simp [ih]
theorem gneg_l0 (h : FOk p m md) (q : Int) (ex lg : List Int) (n i : Nat) (hi : i + n = m) (x s : Int) (hx : 0 ≤ x ∧ x < (p : Int) ^ n) (hs : 0 ≤ s ∧ s < (p : Int) ^ i) :
    Ev (fun k => field_GF_Neg.l0 k x s ((p : Int) ^ i) (p : Int) (m : Int) md q ex lg) (s + (p : Int) ^ i * vl p (negl p n x), (p : Int), (m : Int), q) := by
  have h2 := h.p2; have h256 := h.p256
  induction n generalizing i x s with
  | zero =>
    rw [Int.pow_zero] at hx
    refine Ev.succ ?_
    simp only [field_GF_Neg.l0]
    refine Ev.ifn (by omega) (Ev.val ?_)
    show (s, _) = (s + _ * 0, _)
    rw [Int.mul_zero, Int.add_zero]
  | succ n ih =>
    by_cases hz : x = 0
    · obtain rfl := hz
      refine Ev.succ ?_
      simp only [field_GF_Neg.l0]
      refine Ev.ifn (by omega) (Ev.val ?_)
      rw [negl_zero, Int.mul_zero, Int.add_zero]
    · have hpi := h.pow_le (i := i) (by omega)
      have hpi1 := h.pow_le (i := i + 1) (by omega)
      have hd1 := emod_in (p := p) x
      have hd3 := emod_in (p := p) (p - x % p)
      have hx1 : 0 ≤ x / p ∧ x / p < (p : Int) ^ n ∧ x / p ≤ x := ⟨Int.ediv_nonneg hx.1 (by omega), Int.ediv_lt_of_lt_mul (by omega) (by rw [← Int.pow_succ]; exact hx.2), Int.ediv_le_self _ hx.1⟩
      have hxq := h.pow_le (i := n + 1) (by omega)
      have em : Int.tmod (wrap64 ((p : Int) - Int.tmod x p)) (p : Int) = (p - x % p) % p := by
        rw [tmod_pos hx.1]
        generalize x % (p : Int) = u at *
        clear hd3
        rw [w64 (by omega), tmod_pos (by omega)]
      generalize hu : ((p : Int) - x % p) % (p : Int) = u at em hd3
      have hu' : s + u * (p : Int) ^ i < (p : Int) ^ (i + 1) ∧ 0 ≤ u * (p : Int) ^ i := by
        have h3 : u * (p : Int) ^ i ≤ (p - 1) * (p : Int) ^ i := Int.mul_le_mul_of_nonneg_right (by omega) (by omega)
        have h4 : ((p : Int) - 1) * (p : Int) ^ i = (p : Int) ^ (i + 1) - (p : Int) ^ i := by rw [Int.pow_succ, Int.sub_mul, Int.one_mul, Int.mul_comm]
        have h5 := Int.mul_nonneg hd3.1 (show (0 : Int) ≤ (p : Int) ^ i by omega)
        omega
      have goal := ih (i + 1) (by omega) (x / p) (s + u * (p : Int) ^ i) ⟨hx1.1, hx1.2.1⟩ ⟨by omega, hu'.1⟩
      have ev : s + u * (p : Int) ^ i + (p : Int) ^ (i + 1) * vl p (negl p n (x / p)) = s + (p : Int) ^ i * vl p (negl p (n + 1) x) := by
        show _ = s + (p : Int) ^ i * ((p - x % p) % p + p * vl p (negl p n (x / p)))
        rw [hu, Int.mul_add, Int.pow_succ, Int.mul_comm u, Int.mul_assoc, Int.add_assoc]
      rw [ev] at goal
      have body : Ev (fun k => field_GF_Neg.l0 k (wrap64 (Int.tdiv x p)) (wrap64 (s + wrap64 (Int.tmod (wrap64 ((p : Int) - Int.tmod x p)) (p : Int) * (p : Int) ^ i))) (wrap64 ((p : Int) ^ i * p)) (p : Int) (m : Int) md q ex lg) (s + (p : Int) ^ i * vl p (negl p (n + 1) x), (p : Int), (m : Int), q) := by
        rw [em, tdiv_pos hx.1, w64 (n := x / p) (by omega), w64 (n := u * (p : Int) ^ i) (by omega), w64 (n := s + u * (p : Int) ^ i) (by omega), ← Int.pow_succ, w64 (n := (p : Int) ^ (i + 1)) (by omega)]
        exact goal
      clear goal ev em hu
      refine Ev.succ ?_
      simp only [field_GF_Neg.l0]
      refine Ev.ifp (by omega) (Ev.ifn (by omega) ?_); exact body
theorem gneg' (h : FOk p m md) (ex lg : List Int) (x : Int) : ∃ r, Ev (fun k => field_GF_Neg.f k (p : Int) (m : Int) md ((p : Int) ^ m) ex lg x) (r, (p : Int), (m : Int), (p : Int) ^ m) ∧ (0 ≤ r ∧ r < (p : Int) ^ m) ∧ tkk p m md r = -tkk p m md x := by
  have h2 := h.p2
  have hx := inq_q h x
  refine ⟨vl p (negl p m (inq ((p : Int) ^ m) x)), ?_, vl_res h (negl_length ..) (negl_in m _) (by rw [Rs.neg_val, tkk_val]; exact negl_cz _ _)⟩
  unfold field_GF_Neg.f
  refine Ev.opt_bind (gin _ _ _ _) ?_
  have := gneg_l0 h ((p : Int) ^ m) ex lg m 0 (by omega) _ 0 hx ⟨Int.le_refl 0, by rw [Int.pow_zero]; omega⟩
  rw [Int.pow_zero, Int.one_mul, Int.zero_add] at this
  exact this
theorem nodup_le (n : Nat) (l : List Int) (hd : l.Nodup) (hr : ∀ x, x ∈ l → 1 ≤ x ∧ x < (n : Int) + 1) : l.length ≤ n := by
  induction n generalizing l with
  | zero =>
    cases l with
    | nil => exact Nat.le_refl _
    | cons a l => have := hr a (by simp); omega
  | succ n ih =>
    by_cases hm : ((n : Int) + 1) ∈ l
    · have h1 := ih (l.erase ((n : Int) + 1)) (hd.erase _) fun x hx => by
        have h2 := hr x (List.mem_of_mem_erase hx)
        have h3 : x ≠ (n : Int) + 1 := fun e => by subst e; exact (hd.not_mem_erase) hx
        omega
      rw [List.length_erase_of_mem hm] at h1; omega
    · have h1 := ih l hd fun x hx => by
        have h2 := hr x hx
        have h3 : x ≠ (n : Int) + 1 := fun e => hm (e ▸ hx)
        omega
      omega
theorem nodup_all (n : Nat) (l : List Int) (hd : l.Nodup) (hr : ∀ x, x ∈ l → 1 ≤ x ∧ x < (n : Int) + 1) (hl : l.length = n) (z : Int) (hz : 1 ≤ z ∧ z < (n : Int) + 1) : z ∈ l := by
  by_cases h : z ∈ l
  · exact h
  · have := nodup_le n (z :: l) (List.nodup_cons.2 ⟨h, hd⟩) fun x hx => by
      rcases List.mem_cons.1 hx with rfl | hx
      · exact hz
      · exact hr x hx
    simp at this; omega
theorem npow_add {R : Type} [CR R] (x : R) (a b : Nat) : npow x (a + b) = npow x a * npow x b := by
  induction b with
  | zero => exact (mul_one _).symm
  | succ b ih => rw [Nat.add_succ, npow, ih, npow, mul_assoc]
structure Pws (p m : Nat) [Two p] (md : List Int) (a : Rs (mdPoly (p := p) md m)) (l : List Int) : Prop where
  nd : l.Nodup
  rg : ∀ x, x ∈ l → 1 ≤ x ∧ x < (p : Int) ^ m
  at_ : ∀ i, i < l.length → tkk p m md (l.getD i 0) = npow a i
theorem Pws.len (h : FOk p m md) {a : Rs (mdPoly (p := p) md m)} {l : List Int} (H : Pws p m md a l) : (l.length : Int) ≤ (p : Int) ^ m - 1 := by
  have h1 := h.pow_le (Nat.le_refl m)
  have := nodup_le (((p : Int) ^ m - 1).toNat) l H.nd fun x hx => by have := H.rg x hx; omega
  omega
theorem powers_l0 (h : FOk p m md) (x : Int) (hx : 0 ≤ x ∧ x < (p : Int) ^ m) (n : Nat) (out : List Int) (seen : List Bool) (y : Int) (hn : (out.length : Int) + n = (p : Int) ^ m)
    (hs : (seen.length : Int) = (p : Int) ^ m) (hs' : ∀ z : Int, 0 ≤ z → z < (p : Int) ^ m → (rdOf false seen z = true ↔ z ∈ out)) (hy : 0 ≤ y ∧ y < (p : Int) ^ m)
    (H : Pws p m md (tkk p m md x) out) (hyv : tkk p m md y = npow (tkk p m md x) out.length) :
    ∃ r, Ev (fun k => field_powers.l0 k x out seen y (p : Int) (m : Int) md) r ∧ Pws p m md (tkk p m md x) r ∧ 1 ≤ r.length ∨ out.length = 0 := by
  have h1 := h.pow_le (Nat.le_refl m)
  by_cases h0 : out.length = 0
  · exact ⟨[], .inr h0⟩
  have hlen := H.len h
  induction n generalizing out seen y with
  | zero => omega
  | succ n ih =>
    by_cases hy0 : y = 0
    · refine ⟨out, .inl ⟨Ev.succ ?_, H, by omega⟩⟩
      simp only [field_powers.l0]
      exact Ev.ifp hy0 (Ev.now _)
    · by_cases hse : rdOf false seen y = true
      · refine ⟨out, .inl ⟨Ev.succ ?_, H, by omega⟩⟩
        simp only [field_powers.l0]
        refine Ev.ifn hy0 ?_
        refine Ev.ifp hy.1 ?_
        refine Ev.ifp (by omega) ?_
        exact Ev.ifp hse (Ev.now _)
      · have hyn : y ∉ out := fun hh => hse ((hs' y hy.1 hy.2).2 hh)
        have H' : Pws p m md (tkk p m md x) (out ++ [y]) := by
          refine ⟨?_, ?_, ?_⟩
          · rw [List.nodup_append]
            refine ⟨H.nd, by simp, ?_⟩
            intro a ha b hb e
            rw [List.mem_singleton] at hb
            exact hyn (hb ▸ e ▸ ha)
          · intro z hz
            rcases List.mem_append.1 hz with hz | hz
            · exact H.rg z hz
            · rw [List.mem_singleton.1 hz]; omega
          · intro i hi
            rw [List.length_append, List.length_singleton] at hi
            rw [List.getD_eq_getElem?_getD]
            by_cases e : i < out.length
            · rw [List.getElem?_append_left e, ← List.getD_eq_getElem?_getD]; exact H.at_ i e
            · have : i = out.length := by omega
              subst this
              rw [List.getElem?_append_right (Nat.le_refl _), Nat.sub_self]; exact hyv
        obtain ⟨z, hz, hzr, hzv⟩ := pmul h y x hy hx
        have hl2 := H'.len h
        rw [List.length_append, List.length_singleton] at hl2
        have hyv' : tkk p m md z = npow (tkk p m md x) (out ++ [y]).length := by
          rw [hzv, hyv, List.length_append, List.length_singleton, npow]
        obtain ⟨r, hr | hr⟩ := ih (out ++ [y]) (seen.set y.toNat true) z (by rw [List.length_append, List.length_singleton]; omega) (by rw [List.length_set]; exact hs) (fun w hw0 hw => by
            have hwn : w.toNat < seen.length := by omega
            show ((seen.set y.toNat true).getD w.toNat false = true) ↔ _
            rw [List.getD_eq_getElem?_getD, List.getElem?_set]
            by_cases e : y = w
            · subst e; rw [if_pos rfl, if_pos hwn]; simp
            · rw [if_neg (by omega), ← List.getD_eq_getElem?_getD]
              have := hs' w hw0 hw
              unfold rdOf at this
              rw [this, List.mem_append, List.mem_singleton]
              exact ⟨.inl, fun hh => hh.elim id fun e2 => absurd e2.symm e⟩) hzr H' hyv' (by simp) (by rw [List.length_append, List.length_singleton]; omega)
        · refine ⟨r, .inl ⟨Ev.succ ?_, hr.2⟩⟩
          simp only [field_powers.l0]
          refine Ev.ifn hy0 ?_
          refine Ev.ifp hy.1 ?_
          refine Ev.ifp (by omega) ?_
          refine Ev.ifn hse ?_
          refine Ev.ifp (by omega) ?_
          exact Ev.bind hz hr.1
        · simp at hr
theorem powers_ev (h : FOk p m md) (x : Int) (hx : 0 ≤ x ∧ x < (p : Int) ^ m) :
    ∃ r, Ev (fun k => field_powers.f k (p : Int) (m : Int) md ((p : Int) ^ m) x) r ∧ Pws p m md (tkk p m md x) r ∧ 1 ≤ r.length := by
  have h1 := h.pow_le (Nat.le_refl m)
  have hq2 : 2 ≤ (p : Int) ^ m := by
    have h2 := h.p2; have h3 := h.m1
    obtain ⟨k, rfl⟩ : ∃ k, m = k + 1 := ⟨m - 1, by omega⟩
    have h4 := h.pow_le (i := k) (by omega)
    rw [Int.pow_succ]
    have : 1 * 2 ≤ (p : Int) ^ k * p := Int.mul_le_mul h4.1 (by omega) (by omega) (by omega)
    omega
  have H0 : Pws p m md (tkk p m md x) [1] := by
    refine ⟨by simp, fun z hz => by rw [List.mem_singleton.1 hz]; omega, fun i hi => ?_⟩
    have : i = 0 := by simpa using hi
    subst this
    show tkk p m md 1 = 1
    unfold tkk
    rw [inq_of (by omega)]; exact ofNum_one h.m1
  obtain ⟨r, hr | hr⟩ := powers_l0 h x hx ((p : Int) ^ m - 1).toNat [1] ((List.replicate ((p : Int) ^ m).toNat false).set 1 true) x (by simp; omega) (by simp; omega) (fun z h0 hz => by
      show (((List.replicate ((p : Int) ^ m).toNat false).set 1 true).getD z.toNat false = true) ↔ _
      rw [List.getD_eq_getElem?_getD, List.getElem?_set]
      by_cases e : 1 = z.toNat
      · rw [if_pos e, if_pos (by simp; omega)]; simp; omega
      · rw [if_neg e, List.getElem?_replicate, if_pos (by omega)]; simp; omega) hx H0 (by
      show _ = npow _ (0 + 1); rw [npow, npow, one_mul])
  · refine ⟨r, ?_, hr.2⟩
    unfold field_powers.f
    refine Ev.ifp (by omega) ?_
    refine Ev.ifp (by omega) (Ev.some_bind ?_)
    refine Ev.ifp (by simp; omega) ?_
    exact hr.1
  · simp at hr
def Gen (p m : Nat) [Two p] (md : List Int) (r : List Int) : Prop :=
  ∃ a : Rs (mdPoly (p := p) md m), Pws p m md a r ∧ (r.length : Int) = (p : Int) ^ m - 1 ∧ npow a r.length = 1
theorem generator_l0 (h : FOk p m md) (n : Nat) (x : Int) (hx : 1 ≤ x) (hn : x + n = (p : Int) ^ m) :
    ∃ r, Ev (fun k => field_generator.l0 k ((p : Int) ^ m) x (p : Int) (m : Int) md) r ∧ (r = [] ∨ Gen p m md r) := by
  have h1 := h.pow_le (Nat.le_refl m)
  induction n generalizing x with
  | zero =>
    refine ⟨[], Ev.succ ?_, .inl rfl⟩
    simp only [field_generator.l0]
    exact Ev.ifn (by omega) (Ev.now _)
  | succ n ih =>
    obtain ⟨t, ht, hP, hl⟩ := powers_ev h x (by omega)
    obtain ⟨r, hr, hr'⟩ := ih (x + 1) (by omega) (by omega)
    by_cases hlen : (t.length : Int) = (p : Int) ^ m - 1
    · have e1 : ((p : Int) ^ m - 2) = ((t.length - 1 : Nat) : Int) := by omega
      have hel : t.getD (t.length - 1) 0 ∈ t := by
        rw [List.getD_eq_getElem?_getD, List.getElem?_eq_getElem (by omega)]; exact List.getElem_mem _
      have hrg := hP.rg _ hel
      obtain ⟨z, hz, hzr, hzv⟩ := pmul h (t.getD (t.length - 1) 0) x (by omega) (by omega)
      by_cases hz1 : z = 1
      · refine ⟨t, Ev.succ ?_, .inr ⟨_, hP, hlen, ?_⟩⟩
        · simp only [field_generator.l0]
          refine Ev.ifp (by omega) (Ev.bind ht ?_)
          rw [w64 (n := (p : Int) ^ m - 1) (by omega), w64 (n := (p : Int) ^ m - 2) (by omega), e1, rd_nat]
          refine Ev.ifp hlen ?_
          refine Ev.ifp (by omega) ?_
          refine Ev.ifp (by omega) (Ev.bind hz ?_)
          exact Ev.ifp hz1 (Ev.now _)
        · have e2 : t.length = (t.length - 1) + 1 := by omega
          rw [e2, npow, ← hP.at_ _ (by omega), ← hzv, hz1]
          unfold tkk
          rw [inq_of (by omega)]; exact ofNum_one h.m1
      · refine ⟨r, Ev.succ ?_, hr'⟩
        simp only [field_generator.l0]
        refine Ev.ifp (by omega) (Ev.bind ht ?_)
        rw [w64 (n := (p : Int) ^ m - 1) (by omega), w64 (n := (p : Int) ^ m - 2) (by omega), e1, rd_nat]
        refine Ev.ifp hlen ?_
        refine Ev.ifp (by omega) ?_
        refine Ev.ifp (by omega) (Ev.bind hz ?_)
        refine Ev.ifn hz1 ?_
        rw [w64 (by omega)]; exact hr
    · refine ⟨r, Ev.succ ?_, hr'⟩
      simp only [field_generator.l0]
      refine Ev.ifp (by omega) (Ev.bind ht ?_)
      rw [w64 (n := (p : Int) ^ m - 1) (by omega)]
      refine Ev.ifn hlen ?_
      rw [w64 (by omega)]; exact hr
theorem generator_ev (h : FOk p m md) : ∃ r, Ev (fun k => field_generator.f k (p : Int) (m : Int) md ((p : Int) ^ m)) r ∧ (r = [] ∨ Gen p m md r) := by
  have h1 := h.pow_le (Nat.le_refl m)
  unfold field_generator.f
  exact generator_l0 h ((p : Int) ^ m - 1).toNat 1 (by omega) (by omega)
def newlog : Nat → List Int → List Int → List Int
  | _, [], lg => lg
  | n, x :: xs, lg => newlog (n + 1) xs (lg.set x.toNat (n : Int))
theorem newlog_length (n : Nat) (xs lg : List Int) : (newlog n xs lg).length = lg.length := by
  induction xs generalizing n lg with
  | nil => rfl
  | cons x xs ih => rw [newlog, ih, List.length_set]
theorem newlog_other (n : Nat) (xs lg : List Int) (z : Int) (hz : 0 ≤ z) (h : z ∉ xs) (hx : ∀ x, x ∈ xs → 0 ≤ x ∧ x < (lg.length : Int)) : (newlog n xs lg).getD z.toNat 0 = lg.getD z.toNat 0 := by
  induction xs generalizing n lg with
  | nil => rfl
  | cons x xs ih =>
    have h1 := hx x (by simp)
    rw [newlog, ih (n + 1) _ (fun hh => h (by simp [hh])) (fun y hy => by rw [List.length_set]; exact hx y (by simp [hy])), rd_set _ _ _ _ (by omega), if_neg]
    intro e
    have : x = z := by omega
    exact h (by simp [this])
theorem newlog_at (n : Nat) (xs lg : List Int) (hd : xs.Nodup) (hx : ∀ x, x ∈ xs → 0 ≤ x ∧ x < (lg.length : Int)) (i : Nat) (hi : i < xs.length) : (newlog n xs lg).getD (xs.getD i 0).toNat 0 = ((n + i : Nat) : Int) := by
  induction xs generalizing n lg i with
  | nil => simp at hi
  | cons x xs ih =>
    rw [List.nodup_cons] at hd
    have h1 := hx x (by simp)
    cases i with
    | zero =>
      rw [newlog, List.getD_cons_zero, newlog_other _ _ _ _ h1.1 hd.1 (fun y hy => by rw [List.length_set]; exact hx y (by simp [hy])), rd_set _ _ _ _ (by omega), if_pos rfl]; rfl
    | succ i =>
      rw [newlog, List.getD_cons_succ, ih (n + 1) _ hd.2 (fun y hy => by rw [List.length_set]; exact hx y (by simp [hy])) i (by simpa using hi)]
      congr 1; omega
structure GOk (p m : Nat) [Two p] (md ex lg : List Int) : Prop where
  f : FOk p m md
  g : Gen p m md ex
  lg_ : lg = newlog 0 ex (List.replicate ((p : Int) ^ m).toNat 0)
section
variable {ex lg : List Int}
theorem GOk.lgl (h : GOk p m md ex lg) : (lg.length : Int) = (p : Int) ^ m := by
  have h1 := h.f.pow_le (Nat.le_refl m)
  rw [h.lg_, newlog_length, List.length_replicate]; omega
theorem GOk.log (h : GOk p m md ex lg) (x : Int) (hx : 1 ≤ x ∧ x < (p : Int) ^ m) : ∃ i : Nat, i < ex.length ∧ ex.getD i 0 = x ∧ lg.getD x.toNat 0 = (i : Int) := by
  obtain ⟨a, hP, hl, _⟩ := h.g
  have h1 := h.f.pow_le (Nat.le_refl m)
  have hm := nodup_all ex.length ex hP.nd (fun z hz => by have := hP.rg z hz; omega) rfl x (by omega)
  obtain ⟨i, hi, e⟩ := List.getElem_of_mem hm
  have e' : ex.getD i 0 = x := by rw [List.getD_eq_getElem?_getD, List.getElem?_eq_getElem hi]; exact e
  refine ⟨i, hi, e', ?_⟩
  have := newlog_at 0 ex (List.replicate ((p : Int) ^ m).toNat 0) hP.nd (fun z hz => by have := hP.rg z hz; rw [List.length_replicate]; omega) i hi
  rw [e', ← h.lg_, Nat.zero_add] at this; exact this
theorem GOk.power (h : GOk p m md ex lg) : ∃ a : Rs (mdPoly (p := p) md m), (∀ i, i < ex.length → (1 ≤ ex.getD i 0 ∧ ex.getD i 0 < (p : Int) ^ m) ∧ tkk p m md (ex.getD i 0) = npow a i) ∧ npow a ex.length = 1 ∧ (ex.length : Int) = (p : Int) ^ m - 1 := by
  obtain ⟨a, hP, hl, h1⟩ := h.g
  refine ⟨a, fun i hi => ⟨hP.rg _ ?_, hP.at_ i hi⟩, h1, hl⟩
  rw [List.getD_eq_getElem?_getD, List.getElem?_eq_getElem hi]; exact List.getElem_mem _
theorem npow_mod {R : Type} [CR R] (a : R) (n : Nat) (hn : npow a n = 1) (i : Nat) : npow a i = npow a (i % n) := by
  have h1 : ∀ k, npow a (n * k) = 1 := by
    intro k
    induction k with
    | zero => rfl
    | succ k ih => rw [Nat.mul_succ, npow_add, ih, hn, one_mul]
  have e := Nat.div_add_mod i n
  calc npow a i = npow a (n * (i / n) + i % n) := by rw [e]
    _ = npow a (i % n) := by rw [npow_add, h1, one_mul]
theorem tkk_surj (h : FOk p m md) (a : Rs (mdPoly (p := p) md m)) : ∃ x : Int, (0 ≤ x ∧ x < (p : Int) ^ m) ∧ tkk p m md x = a := by
  obtain ⟨x, hx, e⟩ := ofNum_surj a
  exact ⟨x, hx, by unfold tkk; rw [inq_of hx]; exact e⟩
theorem tkk_inj (h : FOk p m md) {x y : Int} (hx : 0 ≤ x ∧ x < (p : Int) ^ m) (hy : 0 ≤ y ∧ y < (p : Int) ^ m) (e : tkk p m md x = tkk p m md y) : x = y := by
  unfold tkk at e
  rw [inq_of hx, inq_of hy] at e
  exact ofNum_inj hx hy e
theorem tkk_zero (h : FOk p m md) : tkk p m md 0 = 0 := by
  unfold tkk; rw [inq_zero]; exact ofNum_zero
theorem GOk.inv (h : GOk p m md ex lg) (a : Rs (mdPoly (p := p) md m)) (ha : a ≠ 0) : ∃ b, a * b = 1 := by
  obtain ⟨x, hx, rfl⟩ := tkk_surj h.f a
  have hx1 : 1 ≤ x := by
    by_cases e : x = 0
    · subst e; exact absurd (tkk_zero h.f) ha
    · omega
  obtain ⟨i, hi, e, _⟩ := h.log x ⟨hx1, hx.2⟩
  obtain ⟨g, hg, h1, _⟩ := h.power
  refine ⟨npow g (ex.length - i), ?_⟩
  rw [← e, (hg i hi).2, ← npow_add, Nat.add_sub_cancel' (by omega), h1]
open Classical in
@[reducible] noncomputable def fldOf (h : GOk p m md ex lg) : Fld (Rs (mdPoly (p := p) md m)) where
  inv a := if ha : a ≠ 0 then Classical.choose (h.inv a ha) else 0
  mul_inv a ha := by rw [dif_pos ha]; exact Classical.choose_spec (h.inv a ha)
  one_ne := by
    intro e
    have h1 := h.f.pow_le (Nat.le_refl m)
    have h2 : (tkk p m md 1 : Rs (mdPoly (p := p) md m)) = 1 := by
      unfold tkk
      have h3 := h.f.p2; have h4 := h.f.m1
      have : 2 ≤ (p : Int) ^ m := by
        obtain ⟨k, rfl⟩ : ∃ k, m = k + 1 := ⟨m - 1, by omega⟩
        have h5 := h.f.pow_le (i := k) (by omega)
        rw [Int.pow_succ]
        have : 1 * 2 ≤ (p : Int) ^ k * p := Int.mul_le_mul h5.1 (by omega) (by omega) (by omega)
        omega
      rw [inq_of (by omega)]; exact ofNum_one h.f.m1
    have h3 := h.f.p2; have h4 := h.f.m1
    have : 2 ≤ (p : Int) ^ m := by
      obtain ⟨k, rfl⟩ : ∃ k, m = k + 1 := ⟨m - 1, by omega⟩
      have h5 := h.f.pow_le (i := k) (by omega)
      rw [Int.pow_succ]
      have : 1 * 2 ≤ (p : Int) ^ k * p := Int.mul_le_mul h5.1 (by omega) (by omega) (by omega)
      omega
    have := tkk_inj h.f (x := 1) (y := 0) (by omega) (by omega) (by rw [h2, e, tkk_zero h.f])
    omega
  dec := fun a b => Classical.propDecidable (a = b)
end
end
end Go.Proofs.Ytkdakjlopheefaa.PA
end
section
namespace Go.Proofs.Ytkdakjlopheefaa.PA
open Go.RowKit Go.Proofs.YtkdakjlopheefaaW.PrintWords Go.Proofs.YtkdakjlopheefaaW.PrintLast Go.Proofs.YtkdakjlopheefaaW.PrintMore
open Alg
open Alg.S (npow)
structure ROps {K : Type} [Fld K] (N : Nums K) (p m : Nat) (md : List Int) : Prop where
  pp : N.p = p
  ord : Ev (fun k => codewrightref04_Order.f k (p : Int) (m : Int) md) N.q
  is_ : ∀ x, Ev (fun k => codewrightref04_Is.f k (p : Int) (m : Int) md x) (decide (0 ≤ x ∧ x < N.q))
  in_ : ∀ x, Ev (fun k => codewrightref04_In.f k (p : Int) (m : Int) md x) (inq N.q x)
  add : ∀ x y, Ev (fun k => codewrightref04_Add.f k (p : Int) (m : Int) md x y) (N.nm (N.tk x + N.tk y))
  neg : ∀ x, Ev (fun k => codewrightref04_Neg.f k (p : Int) (m : Int) md x) (N.nm (-N.tk x))
  mul : ∀ x y, Ev (fun k => codewrightref04_Mul.f k (p : Int) (m : Int) md x y) (N.nm (N.tk x * N.tk y))
structure GOps {K : Type} [Fld K] (N : Nums K) (p m : Nat) (md ex lg : List Int) : Prop where
  is_ : ∀ x, field_GF_Is.f (p : Int) (m : Int) md N.q ex lg x = some (decide (0 ≤ x ∧ x < N.q), (p : Int), (m : Int), N.q)
  in_ : ∀ x, field_GF_in.f (p : Int) (m : Int) md N.q ex lg x = some (inq N.q x, (p : Int), (m : Int), N.q)
  add : ∀ x y, Ev (fun k => field_GF_Add.f k (p : Int) (m : Int) md N.q ex lg x y) (N.nm (N.tk x + N.tk y), (p : Int), (m : Int), N.q)
  neg : ∀ x, Ev (fun k => field_GF_Neg.f k (p : Int) (m : Int) md N.q ex lg x) (N.nm (-N.tk x), (p : Int), (m : Int), N.q)
  mul : ∀ x y, field_GF_Mul.f (p : Int) (m : Int) md N.q ex lg x y = some (N.nm (N.tk x * N.tk y), (p : Int), (m : Int), N.q)
  inv : ∀ x, N.tk x ≠ 0 → field_GF_Inv.f (p : Int) (m : Int) md N.q ex lg x = some (N.nm (Alg.inv (N.tk x)), 0, (p : Int), (m : Int), N.q)
  inv0 : ∀ x, N.tk x = 0 → field_GF_Inv.f (p : Int) (m : Int) md N.q ex lg x = some (0, 7, (p : Int), (m : Int), N.q)
theorem GOps.sub {K : Type} [Fld K] {N : Nums K} {p m : Nat} {md ex lg : List Int} (G : GOps N p m md ex lg) (x y : Int) :
    Ev (fun k => field_GF_Sub.f k (p : Int) (m : Int) md N.q ex lg x y) (N.nm (N.tk x - N.tk y), (p : Int), (m : Int), N.q) := by
  unfold field_GF_Sub.f
  refine Ev.bind (G.neg y) (Ev.bind (G.add x _) (Ev.val ?_))
  rw [N.tk_nm]; rfl
section
variable {p m : Nat} {md ex lg : List Int} [hp : Two p]
theorem FOk.q2 (h : FOk p m md) : 2 ≤ (p : Int) ^ m ∧ (p : Int) ≤ (p : Int) ^ m := by
  have h3 := h.p2; have h4 := h.m1
  obtain ⟨k, rfl⟩ : ∃ k, m = k + 1 := ⟨m - 1, by omega⟩
  have h5 := h.pow_le (i := k) (by omega)
  rw [Int.pow_succ]
  have h6 : 1 * (p : Int) ≤ (p : Int) ^ k * p := Int.mul_le_mul_of_nonneg_right h5.1 (by omega)
  omega
theorem tkk_const (h : FOk p m md) (c : Nat) (hc : c < p) : tkk p m md (c : Int) = nc c := by
  have h1 := h.q2
  unfold tkk
  rw [inq_of (by omega), ofNum_const h.m1 _ (by omega) (by omega), Int.toNat_natCast]
theorem nc_p (h : FOk p m md) : (nc p : Rs (mdPoly (p := p) md m)) = 0 := by
  refine Subtype.ext ?_
  rw [Rs.nc_val h.m1, Zp.nc_eq, Zp.mk_p, S.C_0]; rfl
theorem tkk_inq (h : FOk p m md) (x : Int) : tkk p m md (inq ((p : Int) ^ m) x) = tkk p m md x := by
  unfold tkk; rw [inq_inq (by have := h.q2; omega)]
noncomputable def numsOf (h : GOk p m md ex lg) : @Nums (Rs (mdPoly (p := p) md m)) (fldOf h) :=
  letI := fldOf h
  { q := (p : Int) ^ m
    p := p
    tk := tkk p m md
    nm := fun a => Classical.choose (tkk_surj h.f a)
    q2 := h.f.q2.1
    q256 := h.f.q256
    p2 := h.f.p2
    pq := h.f.q2.2
    nm_range := fun a => (Classical.choose_spec (tkk_surj h.f a)).1
    tk_nm := fun a => (Classical.choose_spec (tkk_surj h.f a)).2
    nm_tk := fun x => by
      have h1 := Classical.choose_spec (tkk_surj h.f (tkk p m md x))
      exact tkk_inj h.f h1.1 (inq_q h.f x) (by rw [h1.2, tkk_inq h.f])
    nm_zero := by
      have h1 := Classical.choose_spec (tkk_surj h.f (0 : Rs (mdPoly (p := p) md m)))
      have h2 := h.f.q2
      exact tkk_inj h.f h1.1 (by omega) (by rw [h1.2]; exact (tkk_zero h.f).symm)
    nm_one := by
      have h1 := Classical.choose_spec (tkk_surj h.f (1 : Rs (mdPoly (p := p) md m)))
      have h2 := h.f.q2
      refine tkk_inj h.f h1.1 (by omega) (by rw [h1.2]; unfold tkk; rw [inq_of (by omega)]; exact (ofNum_one h.f.m1).symm)
    tk_const := fun c hc => tkk_const h.f c hc
    nc_p := nc_p h.f }
theorem nm_eq (h : GOk p m md ex lg) {r : Int} {a : Rs (mdPoly (p := p) md m)} (hr : 0 ≤ r ∧ r < (p : Int) ^ m) (e : tkk p m md r = a) : @Nums.nm _ (fldOf h) (numsOf h) a = r := by
  letI := fldOf h
  have := (numsOf h).nm_of (x := r) hr
  rwa [show (numsOf h).tk r = a from e] at this
theorem rops (h : GOk p m md ex lg) : @ROps _ (fldOf h) (numsOf h) p m md := by
  letI := fldOf h
  exact {
    pp := rfl
    ord := order_ev h.f
    is_ := is_ev h.f
    in_ := in_ev h.f
    add := fun x y => by
      obtain ⟨r, h1, h2, h3⟩ := radd h.f x y
      have := nm_eq h h2 h3
      rw [← this] at h1; exact h1
    neg := fun x => by
      obtain ⟨r, h1, h2, h3⟩ := rneg h.f x
      have := nm_eq h h2 h3
      rw [← this] at h1; exact h1
    mul := fun x y => by
      obtain ⟨r, h1, h2, h3⟩ := rmul h.f x y
      have := nm_eq h h2 h3
      rw [← this] at h1; exact h1 }
theorem gmul' (h : GOk p m md ex lg) (x y : Int) : ∃ r, field_GF_Mul.f (p : Int) (m : Int) md ((p : Int) ^ m) ex lg x y = some (r, (p : Int), (m : Int), (p : Int) ^ m) ∧ (0 ≤ r ∧ r < (p : Int) ^ m) ∧ tkk p m md r = tkk p m md x * tkk p m md y := by
  have hq := h.f.q2; have hq2 := h.f.q256
  have hx := inq_q h.f x
  have hy := inq_q h.f y
  unfold field_GF_Mul.f
  rw [gin, Option.bind_some, gin, Option.bind_some, ← tkk_inq h.f x, ← tkk_inq h.f y]
  generalize inq ((p : Int) ^ m) x = u at *
  generalize inq ((p : Int) ^ m) y = v at *
  by_cases hu : u = 0
  · subst hu
    refine ⟨0, by rw [if_pos rfl], by omega, ?_⟩
    rw [tkk_zero h.f, zero_mul]
  · by_cases hv : v = 0
    · subst hv
      refine ⟨0, by rw [if_neg hu, if_pos rfl], by omega, ?_⟩
      rw [tkk_zero h.f, mul_zero]
    · obtain ⟨i, hi, ei, li⟩ := h.log u (by omega)
      obtain ⟨j, hj, ej, lj⟩ := h.log v (by omega)
      obtain ⟨a, ha, h1, hl⟩ := h.power
      have hll := h.lgl
      have e1 : rd lg u = (i : Int) := li
      have e2 : rd lg v = (j : Int) := lj
      obtain ⟨t, ht, hm⟩ : ∃ t, (i + j) % ex.length = t ∧ t < ex.length := ⟨_, rfl, Nat.mod_lt _ (by omega)⟩
      have e3 : Int.tmod ((i : Int) + (j : Int)) ((p : Int) ^ m - 1) = (t : Int) := by
        rw [tmod_pos (by omega), ← hl, ← ht]; push_cast; rfl
      refine ⟨ex.getD t 0, ?_, by have := (ha _ hm).1; omega, ?_⟩
      · rw [if_neg hu, if_neg hv]
        rw [if_pos hx.1, if_pos (by omega), if_pos hy.1, if_pos (by omega), e1, e2, w64 (n := (p : Int) ^ m - 1) (by omega), w64 (n := (i : Int) + j) (by omega), if_neg (by omega), e3]
        clear e3
        rw [if_pos (by omega), if_pos (by omega), rd_nat]
      · rw [(ha _ hm).2, ← ei, ← ej, (ha i hi).2, (ha j hj).2, ← npow_add, npow_mod a ex.length h1 (i + j), ht]
theorem ginv' (h : GOk p m md ex lg) (x : Int) (hx0 : tkk p m md x ≠ 0) : ∃ r, field_GF_Inv.f (p : Int) (m : Int) md ((p : Int) ^ m) ex lg x = some (r, 0, (p : Int), (m : Int), (p : Int) ^ m) ∧ (0 ≤ r ∧ r < (p : Int) ^ m) ∧ tkk p m md x * tkk p m md r = 1 := by
  have hq := h.f.q2; have hq2 := h.f.q256
  have hx := inq_q h.f x
  unfold field_GF_Inv.f
  rw [gin, Option.bind_some]
  rw [← tkk_inq h.f x] at hx0 ⊢
  generalize inq ((p : Int) ^ m) x = u at *
  have hu : u ≠ 0 := by rintro rfl; exact hx0 (tkk_zero h.f)
  obtain ⟨i, hi, ei, li⟩ := h.log u (by omega)
  obtain ⟨a, ha, h1, hl⟩ := h.power
  have hll := h.lgl
  have e1 : rd lg u = (i : Int) := li
  obtain ⟨t, ht, hm⟩ : ∃ t, (ex.length - i) % ex.length = t ∧ t < ex.length := ⟨_, rfl, Nat.mod_lt _ (by omega)⟩
  have e3 : Int.tmod ((p : Int) ^ m - 1 - (i : Int)) ((p : Int) ^ m - 1) = (t : Int) := by
    rw [tmod_pos (by omega), ← hl, ← ht]
    rw [show (ex.length : Int) - (i : Int) = ((ex.length - i : Nat) : Int) from by omega]; push_cast; rfl
  refine ⟨ex.getD t 0, ?_, by have := (ha _ hm).1; omega, ?_⟩
  · rw [if_neg hu, if_pos hx.1, if_pos (by omega), e1, w64 (n := (p : Int) ^ m - 1) (by omega), w64 (n := (p : Int) ^ m - 1 - (i : Int)) (by omega), if_neg (by omega), e3]
    clear e3
    rw [if_pos (by omega), if_pos (by omega), rd_nat]
  · rw [(ha _ hm).2, ← ei, (ha i hi).2, ← ht, ← npow_mod a ex.length h1, ← npow_add, Nat.add_sub_cancel' (by omega), h1]
theorem gops (h : GOk p m md ex lg) : @GOps _ (fldOf h) (numsOf h) p m md ex lg := by
  letI := fldOf h
  exact {
    is_ := fun x => by
      show field_GF_Is.f (p : Int) (m : Int) md ((p : Int) ^ m) ex lg x = some (decide (0 ≤ x ∧ x < (p : Int) ^ m), (p : Int), (m : Int), (p : Int) ^ m)
      unfold field_GF_Is.f
      by_cases h0 : x ≥ 0
      · rw [if_pos h0]; congr 2; simp; omega
      · rw [if_neg h0]; congr 2; simp; omega
    in_ := gin _ _ _
    add := fun x y => by
      obtain ⟨r, h1, h2, h3⟩ := gadd' h.f ex lg x y
      have := nm_eq h h2 h3
      rw [← this] at h1; exact h1
    neg := fun x => by
      obtain ⟨r, h1, h2, h3⟩ := gneg' h.f ex lg x
      have := nm_eq h h2 h3
      rw [← this] at h1; exact h1
    mul := fun x y => by
      obtain ⟨r, h1, h2, h3⟩ := gmul' h x y
      have := nm_eq h h2 h3
      rw [← this] at h1; exact h1
    inv := fun x hx => by
      obtain ⟨r, h1, h2, h3⟩ := ginv' h x hx
      have h4 : tkk p m md r = Alg.inv (tkk p m md x) := inv_unique h3
      have := nm_eq h h2 h4
      rw [← this] at h1; exact h1
    inv0 := fun x hx => by
      have h1 : inq ((p : Int) ^ m) x = 0 := by
        have h2 := h.f.q2
        exact tkk_inj h.f (inq_q h.f x) (by omega) (by rw [tkk_inq h.f, tkk_zero h.f]; exact hx)
      show field_GF_Inv.f (p : Int) (m : Int) md ((p : Int) ^ m) ex lg x = some (0, 7, (p : Int), (m : Int), (p : Int) ^ m)
      unfold field_GF_Inv.f
      rw [gin, Option.bind_some, h1, if_pos rfl] }
end
end Go.Proofs.Ytkdakjlopheefaa.PA
end
section
namespace Go.Proofs.Ytkdakjlopheefaa.PA
open Go.RowKit Go.Proofs.YtkdakjlopheefaaW.PrintWords Go.Proofs.YtkdakjlopheefaaW.PrintLast Go.Proofs.YtkdakjlopheefaaW.PrintMore
set_option linter.unusedVariables false
theorem box_new (w : World) (o : Obj) : Below w.heap.size w (w.alloc o) ∧ (w.alloc o).heap[w.heap.size]? = some o := ⟨below_alloc (Below.refl _ _) o, blk_new w o⟩
set_option maxHeartbeats 1000000 in
set_option maxRecDepth 100000 in
theorem New_no (k : Nat) (P M : Int) (A : Option Addr) (c : Nat) (md : List Int) (w : World) (hr : Kd.C (Kd.int .i64) w A md.length md) (hc : md.length ≤ c) (h : field_shape.f k P M md = some false) :
    Calls Try.prog 41 #[.agg #[.int .i64 P, .int .i64 M, .slice A md.length c]] w fun e w' => e = .returned (.tuple #[.pointer none, .int .i64 1]) ∧ Below w.heap.size w w' := by
  have HR := Aside0.mk hr
  have HC := Aside0.mk hc
  have HH := Aside0.mk h
  clear hr hc h
  go_enter Try.func41, Try.ntmps41
  go_wp2_with fail
  refine (field_shape.calls k P M A c md false _ (Kd.C_below HR.out (box_new _ _).1) HC.out HH.out).mono ?_
  rintro e w2 ⟨rfl, hb⟩
  have HB := Aside0.mk (below_step (box_new w _).1 hb)
  clear hb
  go_wp2
  go_ret2
  exact ⟨rfl, HB.out⟩
set_option maxHeartbeats 1000000 in
set_option maxRecDepth 100000 in
theorem New_nogen (k : Nat) (P M q : Int) (A : Option Addr) (c : Nat) (md : List Int) (w : World) (hr : Kd.C (Kd.int .i64) w A md.length md) (hc : md.length ≤ c) (h : field_shape.f k P M md = some true)
    (h2 : field_order.f k P M = some q) (h3 : field_generator.f k P M md q = some []) :
    Calls Try.prog 41 #[.agg #[.int .i64 P, .int .i64 M, .slice A md.length c]] w fun e w' => e = .returned (.tuple #[.pointer none, .int .i64 1]) ∧ Below w.heap.size w w' := by
  have HR := Aside0.mk hr
  have HC := Aside0.mk hc
  have HH := Aside0.mk h
  have HH2 := Aside0.mk h2
  have HH3 := Aside0.mk h3
  clear hr hc h h2 h3
  have hnil := fun (w' : World) => Lib.run_eql_slice_nil (P := Try.prog) w' 22 3 none 0 0 0 0 Try.underlying22
  go_enter Try.func41, Try.ntmps41
  go_wp2_with fail
  refine (field_shape.calls k P M A c md true _ (Kd.C_below HR.out (box_new _ _).1) HC.out HH.out).mono ?_
  rintro e w2 ⟨rfl, hb⟩
  have HB := Aside0.mk (below_step (box_new w _).1 hb)
  have BK := Aside0.mk (blk_below (blk_new w _) hb)
  clear hb
  have c0 := (blk_cell BK.out 0).trans rfl
  have c1 := (blk_cell BK.out 1).trans rfl
  go_wp2_with fail
  refine (field_order.calls k P M q _ HH2.out).mono ?_
  rintro e w3 ⟨rfl, hb⟩
  have HB3 := Aside0.mk (below_step HB.out hb.below)
  have BK3 := Aside0.mk (blk_below BK.out hb.below)
  clear hb c0 c1 HB BK
  have c0 := (blk_cell BK3.out 0).trans rfl
  have c1 := (blk_cell BK3.out 1).trans rfl
  have c2 := (blk_cell BK3.out 2).trans rfl
  go_wp2_with fail
  refine (field_generator.calls k P M A c md q [] _ (Kd.C_below HR.out HB3.out) HC.out HH3.out).mono ?_
  rintro e w4 ⟨v0, rfl, hR, hb, hn⟩
  obtain rfl := hn rfl
  have HB4 := Aside0.mk (below_step HB3.out hb)
  clear hb hR hn c0 c1 c2
  go_wp2
  go_ret2
  exact ⟨rfl, HB4.out⟩
theorem keep_of {B : Nat} {x0 x1 x2 : Value} {w0 W : World} (bk : w0.heap[B]? = some (.cells #[x0, x1, x2] 24 (0, 0))) (h : Below w0.heap.size w0 W) :
    W.cell? ⟨B, 0, none⟩ = some x0 ∧ W.cell? ⟨B, 1, none⟩ = some x1 ∧ W.cell? ⟨B, 2, none⟩ = some x2 ∧ Aside0 (Below w0.heap.size w0 W) :=
  ⟨(blk_cell (blk_below bk h) 0).trans rfl, (blk_cell (blk_below bk h) 1).trans rfl, (blk_cell (blk_below bk h) 2).trans rfl, ⟨h⟩⟩
theorem keep_alloc {B : Nat} {x0 x1 x2 : Value} {w0 W : World} (bk : w0.heap[B]? = some (.cells #[x0, x1, x2] 24 (0, 0)))
    (h : W.cell? ⟨B, 0, none⟩ = some x0 ∧ W.cell? ⟨B, 1, none⟩ = some x1 ∧ W.cell? ⟨B, 2, none⟩ = some x2 ∧ Aside0 (Below w0.heap.size w0 W)) (o : Obj) :
    (W.alloc o).cell? ⟨B, 0, none⟩ = some x0 ∧ (W.alloc o).cell? ⟨B, 1, none⟩ = some x1 ∧ (W.alloc o).cell? ⟨B, 2, none⟩ = some x2 ∧ Aside0 (Below w0.heap.size w0 (W.alloc o)) :=
  keep_of bk (below_alloc h.2.2.2.out o)
theorem keep_grown {B : Nat} {x0 x1 x2 : Value} {w0 W w1 : World} {g : Nat} (bk : w0.heap[B]? = some (.cells #[x0, x1, x2] 24 (0, 0)))
    (h : W.cell? ⟨B, 0, none⟩ = some x0 ∧ W.cell? ⟨B, 1, none⟩ = some x1 ∧ W.cell? ⟨B, 2, none⟩ = some x2 ∧ Aside0 (Below w0.heap.size w0 W)) {p q r : Prop} (k : Aside0 (p ∧ q ∧ g < W.heap.size ∧ W.grownBy w1 (some g) ∧ r)) (hg : w0.heap.size ≤ g) :
    w1.cell? ⟨B, 0, none⟩ = some x0 ∧ w1.cell? ⟨B, 1, none⟩ = some x1 ∧ w1.cell? ⟨B, 2, none⟩ = some x2 ∧ Aside0 (Below w0.heap.size w0 w1) :=
  keep_of bk (grown_below h.2.2.2.out hg (Nat.le_of_lt k.out.2.2.1) k.out.2.2.2.1)
theorem below_of {a b c : Prop} {w0 W : World} (h : a ∧ b ∧ c ∧ Aside0 (Below w0.heap.size w0 W)) : Below w0.heap.size w0 W := h.2.2.2.out
theorem rd_getElem (l : List Int) (i : Int) (h0 : 0 ≤ i) (h : i < l.length) : rd l i = l[i.toNat]'(by omega) := by
  show l.getD i.toNat 0 = _
  rw [List.getD_eq_getElem?_getD, List.getElem?_eq_getElem (by omega)]; rfl
def cutW (W : World) (m : Nat) : World := { W with heap := W.heap.extract 0 m }
theorem cut_size {W : World} {m : Nat} (h : m ≤ W.heap.size) : (cutW W m).heap.size = m := by
  show (W.heap.extract 0 m).size = m
  rw [Array.size_extract]; omega
theorem cut_heap (W : World) {m j : Nat} (hj : j < m) : (cutW W m).heap[j]? = W.heap[j]? := by
  show (W.heap.extract 0 m)[j]? = _
  rw [Array.getElem?_extract]
  by_cases h : j < W.heap.size
  · rw [if_pos (by omega)]; simp
  · rw [if_neg (by omega), Array.getElem?_eq_none (by omega)]
theorem cut_below {W : World} {m : Nat} (h : m ≤ W.heap.size) : Below (cutW W m).heap.size (cutW W m) W :=
  ⟨rfl, rfl, rfl, by rw [cut_size h]; exact h, fun j hj => by rw [cut_size h] at hj; exact (cut_heap W hj).symm⟩
theorem below_cut {w W : World} {m : Nat} (h : Below w.heap.size w W) (hm : w.heap.size ≤ m) (hW : m ≤ W.heap.size) : Below w.heap.size w (cutW W m) :=
  ⟨h.os, h.tape, h.output, by rw [cut_size hW]; exact hm, fun j hj => by rw [cut_heap W (by omega)]; exact h.block j hj⟩
theorem cut_cell (W : World) {m : Nat} (p : Addr) (h : p.block < m) : (cutW W m).cell? p = W.cell? p := by
  unfold World.cell?
  rw [cut_heap W h]
theorem C_cut {W : World} {A : Option Addr} {n m : Nat} {xs : List Int} (h : Kd.C (Kd.int .i64) W A n xs) (hb : ∀ ad, A = some ad → 0 < n → ad.block < m) : Kd.C (Kd.int .i64) (cutW W m) A n xs := by
  refine ⟨h.1, h.2.1, fun hn => ?_⟩
  obtain ⟨ad, e, hh⟩ := h.2.2 hn
  refine ⟨ad, e, fun j p hp => ?_⟩
  obtain ⟨c, h1, h2, h3⟩ := hh j p hp
  exact ⟨c, h1, h2, fun i u hu => by rw [cut_cell W (ad.add _) (by have h0 := hb ad e hn; unfold Addr.add; split <;> exact h0)]; exact h3 i u hu⟩
theorem made_R {W : World} {base g m e : Nat} (hb : base ≤ g) (h : W.heap[g]? = some (.cells (madeCells #[.int .i64 0] m) e (0, 0))) (hm : m ≤ 256) :
    Kd.R (Kd.int .i64) e W base (fun _ => True) (.slice (some ⟨g, 0, none⟩) m m) (List.replicate m 0) := by
  refine Kd.R_of_own ⟨by simp [encs], .inr ⟨g, m, _, by rw [List.length_replicate], hb, h, by rw [List.length_replicate]; exact Nat.le_refl _, by simp only [maxLen]; omega, by simp [madeCells], ?_⟩⟩ (fun _ _ => trivial)
  have hl : (madeCells #[Value.int .i64 0] m).toList = encs (Value.int .i64) (List.replicate m 0) := by
    apply List.ext_getElem
    · simp [encs, madeCells]
    · intro i h1 h2
      simp [encs, madeCells, Nat.mod_one]
  rw [hl, List.take_of_length_le (by simp [encs])]
set_option maxHeartbeats 1000000 in
set_option maxRecDepth 100000 in
theorem New_yes (k : Nat) (P M q : Int) (A : Option Addr) (c : Nat) (md ex : List Int) (w : World) (hr : Kd.C (Kd.int .i64) w A md.length md) (hc : md.length ≤ c) (h : field_shape.f k P M md = some true)
    (h2 : field_order.f k P M = some q) (h3 : field_generator.f k P M md q = some ex) (hex : 0 < ex.length) (hq : 0 ≤ q ∧ q ≤ 256) (hmd : md.length ≤ 8) (hx : ∀ x, x ∈ ex → 0 ≤ x ∧ x < q) (hln : ex.length ≤ 256) :
    Calls Try.prog 41 #[.agg #[.int .i64 P, .int .i64 M, .slice A md.length c]] w fun e w' => ∃ g : Nat, e = .returned (.tuple #[.pointer (some ⟨g, 0, none⟩), .int .i64 0]) ∧ ∃ W0 : World, Below w.heap.size w W0 ∧ Below W0.heap.size W0 w' ∧ IsS93 W0 w' g P M md q ex (newlog 0 ex (List.replicate q.toNat 0)) := by
  have HR := Aside0.mk hr
  have HC := Aside0.mk hc
  have HH := Aside0.mk h
  have HH2 := Aside0.mk h2
  have HH3 := Aside0.mk h3
  clear hr hc h h2 h3
  go_enter Try.func41, Try.ntmps41
  go_wp2_with fail
  refine (field_shape.calls k P M A c md true _ (Kd.C_below HR.out (box_new _ _).1) HC.out HH.out).mono ?_
  rintro e w2 ⟨rfl, hb⟩
  have HB := Aside0.mk (below_step (box_new w _).1 hb)
  have BK := Aside0.mk (blk_below (blk_new w _) hb)
  clear hb
  have c0 := (blk_cell BK.out 0).trans rfl
  have c1 := (blk_cell BK.out 1).trans rfl
  go_wp2_with fail
  refine (field_order.calls k P M q _ HH2.out).mono ?_
  rintro e w3 ⟨rfl, hb⟩
  have HB3 := Aside0.mk (below_step HB.out hb.below)
  have BK3 := Aside0.mk (blk_below BK.out hb.below)
  clear hb c0 c1 HB BK
  have c0 := (blk_cell BK3.out 0).trans rfl
  have c1 := (blk_cell BK3.out 1).trans rfl
  have c2 := (blk_cell BK3.out 2).trans rfl
  go_wp2_with fail
  refine (field_generator.calls k P M A c md q ex _ (Kd.C_below HR.out HB3.out) HC.out HH3.out).mono ?_
  rintro e w4 ⟨v0, rfl, hR, hb, hn⟩
  have HB4 := Aside0.mk (below_step HB3.out hb)
  have BK4 := Aside0.mk (blk_below BK3.out hb)
  obtain ⟨gx, cx, rfl, hgx, hgl, _⟩ := Kd.R_form hR hex
  have HGL := Aside0.mk hgl
  have HX := Aside0.mk hR
  have HG := Aside0.mk hgx
  clear hb hR hn c0 c1 c2 hgx hgl HB3 BK3
  have hne := fun (w' : World) => Lib.run_eql_slice_nil (P := Try.prog) w' 22 3 (some ⟨gx, 0, none⟩) ex.length cx 0 0 Try.underlying22
  have hmk := print_make_int (P := Try.prog) 22 3 (.int .i64 0) 8 Try.underlying22 rfl rfl (by decide) q hq.1 (by omega)
  have hq0 := hq.1
  have hq1 := hq.2
  have c0 := (blk_cell BK4.out 0).trans rfl
  have c1 := (blk_cell BK4.out 1).trans rfl
  have c2 := (blk_cell BK4.out 2).trans rfl
  go_wp2
  go_region_held_law (fun W => W.cell? ⟨w.heap.size, 0, none⟩ = some (.int .i64 P) ∧ W.cell? ⟨w.heap.size, 1, none⟩ = some (.int .i64 M) ∧ W.cell? ⟨w.heap.size, 2, none⟩ = some (.slice A md.length c) ∧ Aside0 (Below w4.heap.size w4 W)) (first | exact keep_of BK4.out (below_drew1 (Below.refl _ _)) | exact keep_alloc BK4.out (by assumption) _ | exact keep_grown BK4.out (by assumption) (by assumption) (by first | exact Nat.le_refl _ | exact Nat.le_succ _)) ((refine step_append_fresh rfl (.tmp 26) (.tmp 28) 22 3 rfl Try.underlying22 rfl _ A c md rfl rfl (by first | exact blk_new _ _ | exact blk_alloc (blk_new _ _) _ | exact blk_new1 _ _ _) (Kd.C_below HR.out (below_step HB4.out (below_of (by assumption)))) hmd ?_; (intro A1 c1 w5 HA)))
  have U1 := Aside0.mk (blk_new1 w5 (Obj.cells (madeCells #[Value.int .i64 0] q.toNat) 3) (Obj.cells #[.int .i64 P, .int .i64 M, .slice A1 md.length c1, .int .i64 q, .slice (some ⟨gx, 0, none⟩) ex.length cx, .slice (some ⟨w5.heap.size, 0, none⟩) q.toNat q.toNat] 93))
  have U2 := Aside0.mk (blk_alloc (blk_new w5 (Obj.cells (madeCells #[Value.int .i64 0] q.toNat) 3)) (Obj.cells #[.int .i64 P, .int .i64 M, .slice A1 md.length c1, .int .i64 q, .slice (some ⟨gx, 0, none⟩) ex.length cx, .slice (some ⟨w5.heap.size, 0, none⟩) q.toNat q.toNat] 93))
  have SB := Aside0.mk (grown_below (g := w4.heap.size) (below_drew (below_alloc (Below.refl _ w4) (Obj.cells #[] 3))) (Nat.le_refl _) (Nat.le_of_lt HA.out.2.2.1) HA.out.2.2.2.1)
  have U4 := Aside0.mk (below_alloc (below_alloc SB.out (Obj.cells (madeCells #[Value.int .i64 0] q.toNat) 3)) (Obj.cells #[.int .i64 P, .int .i64 M, .slice A1 md.length c1, .int .i64 q, .slice (some ⟨gx, 0, none⟩) ex.length cx, .slice (some ⟨w5.heap.size, 0, none⟩) q.toNat q.toNat] 93))
  have U3 := Aside0.mk (Kd.C_alloc (Kd.C_alloc HA.out.1 (Obj.cells (madeCells #[Value.int .i64 0] q.toNat) 3)) (Obj.cells #[.int .i64 P, .int .i64 M, .slice A1 md.length c1, .int .i64 q, .slice (some ⟨gx, 0, none⟩) ex.length cx, .slice (some ⟨w5.heap.size, 0, none⟩) q.toNat q.toNat] 93))
  have U5 : Aside0 (w4.heap.size ≤ w5.heap.size ∧ w5.heap.size < w5.heap.size + 1) := ⟨SB.out.size, Nat.lt_succ_self _⟩
  have U6 : Aside0 (∀ ad, A1 = some ad → 0 < md.length → ad.block ≠ w5.heap.size ∧ ad.block < w5.heap.size + 1) := ⟨by
    rintro ad rfl hm
    have hl := Kd.C_lt HA.out.1 hm (by decide)
    omega⟩
  clear HA
  generalize w5.heap.size + 1 = bx at U1 U2 U3 U4 U5 U6 ⊢
  generalize w5.heap.size = gl at U1 U2 U3 U4 U5 U6 ⊢
  generalize (w5.alloc (Obj.cells (madeCells #[Value.int .i64 0] q.toNat) 3)).alloc (Obj.cells #[.int .i64 P, .int .i64 M, .slice A1 md.length c1, .int .i64 q, .slice (some ⟨gx, 0, none⟩) ex.length cx, .slice (some ⟨gl, 0, none⟩) q.toNat q.toNat] 93) = W6 at U1 U2 U3 U4 U5 U6 ⊢
  rotate_left
  have U1 := Aside0.mk (blk_new w5 (Obj.cells #[.int .i64 P, .int .i64 M, .slice A1 md.length c1, .int .i64 q, .slice (some ⟨gx, 0, none⟩) ex.length cx, .slice (some ⟨w4.heap.size + 1, 0, none⟩) q.toNat q.toNat] 93))
  have hz : w5.heap[w4.heap.size + 1]? = some (Obj.cells (madeCells #[Value.int .i64 0] q.toNat) 3) := blk_grown (blk_drew (blk_new1 w4 _ _)) HA.out.2.2.2.1 (by simp)
  have U2 := Aside0.mk (blk_alloc hz (Obj.cells #[.int .i64 P, .int .i64 M, .slice A1 md.length c1, .int .i64 q, .slice (some ⟨gx, 0, none⟩) ex.length cx, .slice (some ⟨w4.heap.size + 1, 0, none⟩) q.toNat q.toNat] 93))
  have hzl := blk_lt hz
  have SB := Aside0.mk (grown_below (g := w4.heap.size) (below_drew (below_alloc (below_alloc (Below.refl _ w4) (Obj.cells #[] 3)) (Obj.cells (madeCells #[Value.int .i64 0] q.toNat) 3))) (Nat.le_refl _) (Nat.le_of_lt HA.out.2.2.1) HA.out.2.2.2.1)
  have U4 := Aside0.mk (below_alloc SB.out (Obj.cells #[.int .i64 P, .int .i64 M, .slice A1 md.length c1, .int .i64 q, .slice (some ⟨gx, 0, none⟩) ex.length cx, .slice (some ⟨w4.heap.size + 1, 0, none⟩) q.toNat q.toNat] 93))
  have U3 := Aside0.mk (Kd.C_alloc HA.out.1 (Obj.cells #[.int .i64 P, .int .i64 M, .slice A1 md.length c1, .int .i64 q, .slice (some ⟨gx, 0, none⟩) ex.length cx, .slice (some ⟨w4.heap.size + 1, 0, none⟩) q.toNat q.toNat] 93))
  have U5 : Aside0 (w4.heap.size ≤ w4.heap.size + 1 ∧ w4.heap.size + 1 < w5.heap.size) := ⟨Nat.le_succ _, hzl⟩
  have U6 : Aside0 (∀ ad, A1 = some ad → 0 < md.length → ad.block ≠ w4.heap.size + 1 ∧ ad.block < w5.heap.size) := ⟨by
    rintro ad rfl hm
    have hl := Kd.C_lt HA.out.1 hm (by decide)
    have h3 := HA.out.2.2.2.2 ad rfl
    have h4 := blk_lt (blk_drew (blk_new1 w4 (Obj.cells #[] 3) (Obj.cells (madeCells #[Value.int .i64 0] q.toNat) 3)))
    exact ⟨by rcases h3 with h3 | h3 <;> omega, hl⟩⟩
  clear HA hz hzl
  generalize w4.heap.size + 1 = gl at U1 U2 U3 U4 U5 U6 ⊢
  generalize w5.alloc (Obj.cells #[.int .i64 P, .int .i64 M, .slice A1 md.length c1, .int .i64 q, .slice (some ⟨gx, 0, none⟩) ex.length cx, .slice (some ⟨gl, 0, none⟩) q.toNat q.toNat] 93) = W6 at U1 U2 U3 U4 U5 U6 ⊢
  generalize w5.heap.size = bx at U1 U2 U3 U4 U5 U6 ⊢
  rotate_left
  have U1 := Aside0.mk (blk_new w5 (Obj.cells #[.int .i64 P, .int .i64 M, .slice A1 md.length c1, .int .i64 q, .slice (some ⟨gx, 0, none⟩) ex.length cx, .slice (some ⟨w4.heap.size, 0, none⟩) q.toNat q.toNat] 93))
  have hz : w5.heap[w4.heap.size]? = some (Obj.cells (madeCells #[Value.int .i64 0] q.toNat) 3) := blk_grown (blk_drew (blk_alloc (blk_new w4 _) _)) HA.out.2.2.2.1 (by simp)
  have U2 := Aside0.mk (blk_alloc hz (Obj.cells #[.int .i64 P, .int .i64 M, .slice A1 md.length c1, .int .i64 q, .slice (some ⟨gx, 0, none⟩) ex.length cx, .slice (some ⟨w4.heap.size, 0, none⟩) q.toNat q.toNat] 93))
  have hzl := blk_lt hz
  have SB := Aside0.mk (grown_below (g := w4.heap.size + 1) (below_drew (below_alloc (below_alloc (Below.refl _ w4) (Obj.cells (madeCells #[Value.int .i64 0] q.toNat) 3)) (Obj.cells #[] 3))) (Nat.le_succ _) (Nat.le_of_lt HA.out.2.2.1) HA.out.2.2.2.1)
  have U4 := Aside0.mk (below_alloc SB.out (Obj.cells #[.int .i64 P, .int .i64 M, .slice A1 md.length c1, .int .i64 q, .slice (some ⟨gx, 0, none⟩) ex.length cx, .slice (some ⟨w4.heap.size, 0, none⟩) q.toNat q.toNat] 93))
  have U3 := Aside0.mk (Kd.C_alloc HA.out.1 (Obj.cells #[.int .i64 P, .int .i64 M, .slice A1 md.length c1, .int .i64 q, .slice (some ⟨gx, 0, none⟩) ex.length cx, .slice (some ⟨w4.heap.size, 0, none⟩) q.toNat q.toNat] 93))
  have U5 : Aside0 (w4.heap.size ≤ w4.heap.size ∧ w4.heap.size < w5.heap.size) := ⟨Nat.le_refl _, hzl⟩
  have U6 : Aside0 (∀ ad, A1 = some ad → 0 < md.length → ad.block ≠ w4.heap.size ∧ ad.block < w5.heap.size) := ⟨by
    rintro ad rfl hm
    have hl := Kd.C_lt HA.out.1 hm (by decide)
    have h3 := HA.out.2.2.2.2 ad rfl
    have h4 := blk_lt (blk_drew (blk_new1 w4 (Obj.cells (madeCells #[Value.int .i64 0] q.toNat) 3) (Obj.cells #[] 3)))
    exact ⟨by rcases h3 with h3 | h3 <;> omega, hl⟩⟩
  clear HA hz hzl
  generalize w5.alloc (Obj.cells #[.int .i64 P, .int .i64 M, .slice A1 md.length c1, .int .i64 q, .slice (some ⟨gx, 0, none⟩) ex.length cx, .slice (some ⟨w4.heap.size, 0, none⟩) q.toNat q.toNat] 93) = W6 at U1 U2 U3 U4 U5 U6 ⊢
  generalize w5.heap.size = bx at U1 U2 U3 U4 U5 U6 ⊢
  obtain ⟨gl, egl⟩ : ∃ gl, gl = w4.heap.size := ⟨_, rfl⟩
  rw [← egl] at U1 U2 U6 ⊢
  replace U5 : Aside0 (w4.heap.size ≤ gl ∧ gl < bx) := ⟨by rw [egl]; exact U5.out.1, by rw [egl]; exact U5.out.2⟩
  clear egl
  rotate_left
  all_goals
    clear HR HC HH HH2 HH3 HG hne hmk c0 c2
    have HX6 := Aside0.mk (Kd.C_below (Kd.R_reads' HX.out).2.2 U4.out)
    have L6 := Aside0.mk (made_R U5.out.1 U2.out (by omega))
    have K6 := Aside0.mk (KeepBut.refl W6 gl none)
    have B6 := Aside0.mk (below_step HB4.out U4.out)
    have GE := Aside0.mk (show w.heap.size ≤ gl from Nat.le_trans HB4.out.size U5.out.1)
    have NX := Aside0.mk (show ∀ ad, some (⟨gx, 0, none⟩ : Addr) = some ad → 0 < ex.length → ad.block ≠ gl from fun ad e _ => by injection e with e; subst e; have := HGL.out; have := U5.out.1; show gx ≠ gl; omega)
    have NB := Aside0.mk (show bx ≠ gl from by have := U5.out.2; omega)
    have LE := Aside0.mk (show 0 ≤ (0 : Int) ∧ (List.replicate q.toNat (0 : Int)).length = q.toNat ∧ newlog (0 : Int).toNat (ex.drop (0 : Int).toNat) (List.replicate q.toNat 0) = newlog 0 ex (List.replicate q.toNat 0) ∧ (0 : Int).toNat + ex.length = ex.length from ⟨by decide, List.length_replicate, by show newlog 0 (ex.drop 0) _ = _; rw [List.drop_zero], Nat.zero_add _⟩)
    have XH := Aside0.mk (show ∀ x, x ∈ ex → 0 ≤ x ∧ x < (q.toNat : Int) from fun x h => by have := hx x h; omega)
    have HB9 := Aside0.mk (show (ex.length : Int) ≤ 256 from by have := hln; omega)
    clear hx hln
    obtain ⟨nq, enq⟩ : ∃ nq, nq = q.toNat := ⟨_, rfl⟩
    have ENQ := Aside0.mk enq
    rw [← enq] at U1 U2 L6 LE XH ⊢
    clear enq
    go_wp2
    go_loopg [39] ex.length (fun kq v39 W => ∃ (i : Int) (lg : List Int), v39 = .int .i64 i ∧ Aside0 (0 ≤ i ∧ lg.length = nq ∧ newlog i.toNat (ex.drop i.toNat) lg = newlog 0 ex (List.replicate nq 0) ∧ i.toNat + kq = ex.length) ∧ Aside0 (Kd.R (Kd.int .i64) 3 W w4.heap.size (fun _ => True) (.slice (some ⟨gl, 0, none⟩) nq nq) lg) ∧ Aside0 (KeepBut W6 W gl none) ∧ Aside0 (Below w.heap.size w W))
    case atStart => exact ⟨0, _, rfl, LE, L6, K6, B6⟩
    case round =>
      clear L6 K6 LE
      obtain ⟨i, lg, rfl, HL, HO, HK, HBW⟩ := hrel
      by_cases ct : i < (ex.length : Int)
      · have ctb : decide (i < (ex.length : Int)) = true := decide_eq_true ct
        have p1 : 0 ≤ i := HL.out.1
        obtain ⟨ad, ea, hcell⟩ := Kd.at_int (Kd.C_keep 0 HX6.out HK.out NX.out) i p1 ct
        injection ea with ea
        subst ea
        simp only [add_plain] at hcell
        have hxx := XH.out (rd ex i) (by rw [rd_getElem ex i p1 ct]; exact List.getElem_mem _)
        have EX := Aside0.mk (rd_getElem ex i p1 ct)
        generalize rd ex i = x at hcell hxx EX
        have p2 : 0 ≤ x := hxx.1
        have p3 : x < (nq : Int) := hxx.2
        obtain ⟨hs, hf⟩ := Kd.R_celln 0 HO.out x p2 p3
        have hP := Aside0.mk (Kd.R_putn HO.out x i)
        have cb : wr.cell? ⟨bx, 5, none⟩ = some (.slice (some ⟨gl, 0, none⟩) nq nq) := (blk_cell (HK.out.blk U1.out NB.out (by simp)) 5).trans rfl
        clear hxx
        have HI := Aside0.mk (show 0 ≤ i ∧ i < ex.length from ⟨p1, ct⟩)
        replace p1 := eq_true p1
        replace ct := eq_true ct
        replace p2 := eq_true p2
        replace p3 := eq_true p3
        go_wp2
        go_roundg (gk - 1)
        case measure =>
          have h1 := HL.out.2.2.2
          have h2 := HI.out
          omega
        case rel =>
          have h0 := HI.out
          have h9 := HB9.out
          have h1 := HL.out
          refine ⟨i + 1, lg.set x.toNat i, by rw [w64 (n := i + 1) (by omega)], ⟨by omega, by rw [List.length_set]; exact h1.2.1, ?_, by omega⟩, ⟨hP.out⟩, ⟨HK.out.set_ _ _⟩, ⟨below_set HBW.out GE.out⟩⟩
          have e1 : (i + 1).toNat = i.toNat + 1 := by omega
          rw [← h1.2.2.1, e1, List.drop_eq_getElem_cons (i := i.toNat) (l := ex) (by omega), newlog, ← EX.out, Int.toNat_of_nonneg h0.1]
      · have ctb : decide (i < (ex.length : Int)) = false := decide_eq_false ct
        have HI := Aside0.mk ct
        go_wp2
        go_ret2
        have h1 := HL.out
        have h2 := HI.out
        have e1 : ex.drop i.toNat = [] := List.drop_eq_nil_of_le (by omega)
        have e2 : newlog 0 ex (List.replicate q.toNat 0) = lg := by rw [← ENQ.out, ← h1.2.2.1, e1, newlog]
        have hbx := HK.out.blk U1.out NB.out (by simp)
        have hbl := blk_lt hbx
        have h5 := U5.out
        refine ⟨bx, rfl, cutW wr bx, below_cut HBW.out (by have := HB4.out.size; omega) (by omega), cut_below (by omega), ?_⟩
        rw [e2]
        refine ⟨A1, c1, some ⟨gx, 0, none⟩, cx, some ⟨gl, 0, none⟩, nq, by rw [h1.2.1]; exact hbx, by rw [cut_size (by omega)]; exact Nat.le_refl _, ?_, ?_, ?_⟩
        · exact C_cut (Kd.C_keep 0 U3.out HK.out (fun ad e hn => (U6.out ad e hn).1)) (fun ad e hn => (U6.out ad e hn).2)
        · exact C_cut (Kd.C_keep 0 HX6.out HK.out NX.out) (fun ad e hn => by injection e with e; subst e; have := HGL.out; show gx < bx; omega)
        · rw [h1.2.1]
          have hr := (Kd.R_reads' HO.out).2.2
          rw [h1.2.1] at hr
          exact C_cut hr (fun ad e hn => by injection e with e; subst e; exact h5.2)
end Go.Proofs.Ytkdakjlopheefaa.PA
end
section
namespace Go.Proofs.Ytkdakjlopheefaa.PA
open Alg Go.RowKit Go.Proofs.YtkdakjlopheefaaW.PrintWords Go.Proofs.YtkdakjlopheefaaW.PrintLast Go.Proofs.YtkdakjlopheefaaW.PrintMore
set_option linter.unusedVariables false
theorem ipow_pos {P : Int} (h : 2 ≤ P) : ∀ i : Nat, 1 ≤ P ^ i
  | 0 => by simp
  | i + 1 => by
    have h1 := ipow_pos h i
    rw [Int.pow_succ]
    have := Int.mul_le_mul (a := 1) (b := 1) (c := P ^ i) (d := P) h1 (by omega) (by omega) (by omega)
    omega
theorem rorder_l0 {P : Int} (h2 : 2 ≤ P) (md : List Int) (m : Nat) (hm : m ≤ 8) (n i : Nat) (hi : i + n = m) (x : Int) (e : x = P ^ i) (hx : x ≤ 256) :
    ∃ r, Ev (fun k => codewrightref04_Order.l0 k x (i : Int) P (m : Int) md) r ∧ (r = 0 ∨ r = P ^ m ∧ r ≤ 256) := by
  have h1 := ipow_pos h2 i
  induction n generalizing i x with
  | zero =>
    refine ⟨x, Ev.succ ?_, .inr ⟨by rw [e, show i = m from by omega], hx⟩⟩
    simp only [codewrightref04_Order.l0]
    exact Ev.ifn (by omega) (Ev.now _)
  | succ n ih =>
    have hd : 0 ≤ (256 : Int) / P ∧ (256 : Int) / P ≤ 256 := ⟨Int.ediv_nonneg (by omega) (by omega), Int.ediv_le_self _ (by omega)⟩
    by_cases c : x > (256 : Int) / P
    · refine ⟨0, Ev.succ ?_, .inl rfl⟩
      simp only [codewrightref04_Order.l0]
      refine Ev.ifp (by omega) (Ev.ifn (by omega) (Ev.ifp ?_ (Ev.now _)))
      rw [tdiv_pos (by omega), w64 (n := (256 : Int) / P) (by omega)]; exact c
    · have hle : x * P ≤ 256 := Int.mul_le_of_le_ediv (by omega) (by omega)
      have h3 := ipow_pos h2 (i + 1)
      have e3 : x * P = P ^ (i + 1) := by rw [Int.pow_succ, e]
      obtain ⟨r, hr, hp⟩ := ih (i + 1) (by omega) (x * P) e3 hle h3
      refine ⟨r, Ev.succ ?_, hp⟩
      simp only [codewrightref04_Order.l0]
      refine Ev.ifp (by omega) (Ev.ifn (by omega) (Ev.ifn ?_ ?_))
      · rw [tdiv_pos (by omega), w64 (n := (256 : Int) / P) (by omega)]; exact c
      · rw [w64 (n := x * P) (by omega), w64 (n := (i : Int) + 1) (by omega)]
        exact hr
theorem rorder_tot (P M : Int) (md : List Int) : ∃ r, Ev (fun k => codewrightref04_Order.f k P M md) r ∧ (r = 0 ∨ 2 ≤ P ∧ 1 ≤ M ∧ M ≤ 8 ∧ r = P ^ M.toNat ∧ r ≤ 256) := by
  unfold codewrightref04_Order.f
  by_cases h2 : P < 2
  · exact ⟨0, Ev.ifp h2 (Ev.succ (by simp only [codewrightref04_Order.j0]; exact Ev.ifp trivial (Ev.now _))), .inl rfl⟩
  by_cases h1 : M < 1
  · exact ⟨0, Ev.ifn h2 (Ev.ifp h1 (Ev.succ (by simp only [codewrightref04_Order.j0]; exact Ev.ifp trivial (Ev.now _)))), .inl rfl⟩
  by_cases h8 : M > 8
  · exact ⟨0, Ev.ifn h2 (Ev.ifn h1 (Ev.succ (by simp only [codewrightref04_Order.j0]; exact Ev.ifp (by simpa using h8) (Ev.now _)))), .inl rfl⟩
  obtain ⟨r, hr, hp⟩ := rorder_l0 (P := P) (by omega) md M.toNat (by omega) M.toNat 0 (by omega) 1 (by simp) (by omega)
  rw [Int.toNat_of_nonneg (by omega)] at hr
  refine ⟨r, Ev.ifn h2 (Ev.ifn h1 (Ev.succ ?_)), ?_⟩
  · simp only [codewrightref04_Order.j0]
    exact Ev.ifn (by simpa using h8) hr
  · rcases hp with hp | ⟨hp, h3⟩
    · exact .inl hp
    · exact .inr ⟨by omega, by omega, by omega, hp, h3⟩
theorem rprime_tot {P : Int} (h2 : 2 ≤ P) (h256 : P ≤ 256) : ∃ r, Ev (fun k => codewrightref04_prime.f k P) r := by
  unfold codewrightref04_prime.f
  suffices h : ∀ (n : Nat) (x : Int), 2 ≤ x → x ≤ P → P - x ≤ n → ∃ r, Ev (fun k => codewrightref04_prime.l0 k P x) r from h 256 2 (by omega) h2 (by omega)
  intro n
  induction n with
  | zero =>
    intro x hx hP hn
    refine ⟨true, Ev.succ ?_⟩
    simp only [codewrightref04_prime.l0]
    exact Ev.ifn (by omega) (Ev.now _)
  | succ n ih =>
    intro x hx hP hn
    by_cases c : x < P
    · by_cases d : Int.tmod P x = 0
      · refine ⟨false, Ev.succ ?_⟩
        simp only [codewrightref04_prime.l0]
        exact Ev.ifp c (Ev.ifn (by omega) (Ev.ifp d (Ev.now _)))
      · obtain ⟨r, hr⟩ := ih (x + 1) (by omega) (by omega) (by omega)
        refine ⟨r, Ev.succ ?_⟩
        simp only [codewrightref04_prime.l0]
        refine Ev.ifp c (Ev.ifn (by omega) (Ev.ifn d ?_))
        rw [w64 (n := x + 1) (by omega)]; exact hr
    · refine ⟨true, Ev.succ ?_⟩
      simp only [codewrightref04_prime.l0]
      exact Ev.ifn c (Ev.now _)
theorem divides_l2 (xs : List Int) (hl : xs.length ≤ 1000) (n i : Nat) (hi : i + n = xs.length) : ∃ r, Ev (fun k => codewrightref04_divides.l2 k xs (i : Int)) r := by
  induction n generalizing i with
  | zero =>
    refine ⟨true, Ev.succ ?_⟩
    simp only [codewrightref04_divides.l2]
    exact Ev.ifn (by omega) (Ev.now _)
  | succ n ih =>
    by_cases c : rd xs (i : Int) = 0
    · obtain ⟨r, hr⟩ := ih (i + 1) (by omega)
      refine ⟨r, Ev.succ ?_⟩
      simp only [codewrightref04_divides.l2]
      refine Ev.ifp (by omega) (Ev.ifp (by omega) (Ev.ifp c ?_))
      rw [w64 (n := (i : Int) + 1) (by omega)]; exact hr
    · refine ⟨false, Ev.succ ?_⟩
      simp only [codewrightref04_divides.l2]
      exact Ev.ifp (by omega) (Ev.ifp (by omega) (Ev.ifn c (Ev.now _)))
theorem divides_tot (d l : List Int) (P : Int) (hP : 2 ≤ P) (hd : 1 ≤ d.length ∧ d.length ≤ 100) (hl : l.length ≤ 100) : ∃ r, Ev (fun k => codewrightref04_divides.f k d l P) r := by
  have row : ∀ (j : Nat) (xs : List Int) (n i : Nat), xs.length = l.length + 1 → d.length ≤ j → j < xs.length → i + n = d.length →
      (∀ ys : List Int, ys.length = l.length + 1 → ∃ r, Ev (fun k => codewrightref04_divides.l0 k d P (d.length : Int) ys ((j : Int) - 1)) r) →
      ∀ h : Int, ∃ r, Ev (fun k => codewrightref04_divides.l1 k d P (d.length : Int) xs (j : Int) h (i : Int)) r := by
    intro j xs n i hx hdj hj hi hrec h
    induction n generalizing i xs with
    | zero =>
      obtain ⟨r, hr⟩ := hrec (xs.set j 0) (by rw [List.length_set]; exact hx)
      refine ⟨r, Ev.succ ?_⟩
      simp only [codewrightref04_divides.l1]
      refine Ev.ifn (by omega) (Ev.ifp (by omega) (Ev.ifp (by omega) ?_))
      rw [Int.toNat_natCast, w64 (n := (j : Int) - 1) (by omega)]; exact hr
    | succ n ih =>
      have e1 : wrap64 (wrap64 ((j : Int) - (d.length : Int)) + (i : Int)) = ((j - d.length + i : Nat) : Int) := by
        rw [w64 (n := (j : Int) - (d.length : Int)) (by omega), w64 (n := (j : Int) - (d.length : Int) + (i : Int)) (by omega)]; omega
      have e2 : wrap64 ((i : Int) + 1) = ((i + 1 : Nat) : Int) := by rw [w64 (n := (i : Int) + 1) (by omega)]; omega
      obtain ⟨r, hr⟩ := ih (xs.set (j - d.length + i) (Int.tmod (wrap64 ((rd xs ((j - d.length + i : Nat) : Int)) + (wrap64 ((wrap64 (P - h)) * (rd d (i : Int)))))) P)) (i + 1) (by rw [List.length_set]; exact hx) (by rw [List.length_set]; exact hj) (by omega)
      refine ⟨r, Ev.succ ?_⟩
      simp only [codewrightref04_divides.l1, e1, e2, Int.toNat_natCast]
      clear e1 e2
      exact Ev.ifp (by omega) (Ev.ifp (by omega) (Ev.ifp (by omega) (Ev.ifp (by omega) (Ev.ifp (by omega) (Ev.ifn (by omega) hr)))))
  have col : ∀ (n : Nat) (xs : List Int), xs.length = l.length + 1 → n ≤ l.length + 1 → ∃ r, Ev (fun k => codewrightref04_divides.l0 k d P (d.length : Int) xs ((n : Int) - 1)) r := by
    intro n
    induction n with
    | zero =>
      intro xs hx hn
      obtain ⟨r, hr⟩ := divides_l2 xs (by omega) xs.length 0 (by omega)
      refine ⟨r, Ev.succ ?_⟩
      simp only [codewrightref04_divides.l0]
      exact Ev.ifn (by omega) hr
    | succ n ih =>
      intro xs hx hn
      by_cases c : d.length ≤ n
      · obtain ⟨r, hr⟩ := row n xs d.length 0 hx c (by omega) (by omega) (fun ys hy => ih ys hy (by omega)) (rd xs (n : Int))
        refine ⟨r, Ev.succ ?_⟩
        have e : ((n + 1 : Nat) : Int) - 1 = (n : Int) := by omega
        simp only [codewrightref04_divides.l0, e]
        exact Ev.ifp (by omega) (Ev.ifp (by omega) (Ev.ifp (by omega) hr))
      · obtain ⟨r, hr⟩ := divides_l2 xs (by omega) xs.length 0 (by omega)
        refine ⟨r, Ev.succ ?_⟩
        simp only [codewrightref04_divides.l0]
        exact Ev.ifn (by omega) hr
  obtain ⟨r, hr⟩ := col (l.length + 1) (l ++ [1]) (by simp) (Nat.le_refl _)
  refine ⟨r, ?_⟩
  unfold codewrightref04_divides.f
  refine Ev.some_bind (Ev.ifp (by simp only [List.length_nil]; omega) (Ev.some_bind (Ev.ifp (by simp only [List.nil_append]; omega) (Ev.some_bind ?_))))
  have e : wrap64 ((([] ++ l ++ [1] : List Int).length : Int) - 1) = ((l.length + 1 : Nat) : Int) - 1 := by
    rw [w64] <;> simp only [List.nil_append, List.length_append, List.length_cons, List.length_nil] <;> omega
  rw [e, List.nil_append]
  exact hr
theorem irreducible_tot (l : List Int) (P : Int) (h2 : 2 ≤ P) (h256 : P ≤ 256) (hl : l.length ≤ 8) (hq : P ^ l.length ≤ 256) : ∃ r, Ev (fun k => codewrightref04_irreducible.f k l P) r := by
  obtain ⟨p, rfl⟩ : ∃ p : Nat, P = (p : Int) := ⟨P.toNat, by omega⟩
  have half : ∀ i : Nat, 2 * i ≤ l.length → (p : Int) ^ i ≤ 256 := by
    intro i hi
    have h1 := ipow_pos h2 i
    have h3 := ipow_pos h2 (l.length - i)
    have e : (p : Int) ^ l.length = (p : Int) ^ i * (p : Int) ^ (l.length - i) := by rw [← Int.pow_add]; congr 1; omega
    have h4 : (p : Int) ^ i * 1 ≤ (p : Int) ^ i * (p : Int) ^ (l.length - i) := Int.mul_le_mul_of_nonneg_left (by omega) (by omega)
    omega
  have col : ∀ (n i : Nat), 1 ≤ i → i + n = 6 → (p : Int) ^ (i - 1) ≤ 256 → ∃ r, Ev (fun k => codewrightref04_irreducible.l0 k l (p : Int) ((p : Int) ^ (i - 1)) (i : Int)) r := by
    intro n
    induction n with
    | zero =>
      intro i h1 hi _
      refine ⟨true, Ev.succ ?_⟩
      simp only [codewrightref04_irreducible.l0]
      refine Ev.ifn ?_ (Ev.now _)
      rw [w64 (n := 2 * (i : Int)) (by omega)]; omega
    | succ n ih =>
      intro i h1 hi hpw
      by_cases c : 2 * i ≤ l.length
      · have hp := half i c
        have hp1 := ipow_pos h2 i
        have hp0 := ipow_pos h2 (i - 1)
        have e : (p : Int) ^ (i - 1) * (p : Int) = (p : Int) ^ i := by rw [← Int.pow_succ]; congr 1; omega
        have inner : ∀ (t : Nat) (x : Int), 0 ≤ x → x ≤ (p : Int) ^ i → (p : Int) ^ i - x ≤ t → ∃ r, Ev (fun k => codewrightref04_irreducible.l1 k l (p : Int) ((p : Int) ^ i) (i : Int) x) r := by
          intro t
          induction t with
          | zero =>
            intro x h0 hx ht
            obtain ⟨r, hr⟩ := ih (i + 1) (by omega) (by omega) hp
            refine ⟨r, Ev.succ ?_⟩
            simp only [codewrightref04_irreducible.l1]
            refine Ev.ifn (by omega) ?_
            rw [w64 (n := (i : Int) + 1) (by omega)]
            exact hr
          | succ t iht =>
            intro x h0 hx ht
            by_cases cx : x < (p : Int) ^ i
            · have hdg := digits_ev (p := p) (m := i) (by omega) (by omega) x h0 (by omega)
              obtain ⟨b, hb⟩ := divides_tot (digs p i x) l (p : Int) h2 (by rw [digs_length]; omega) (by omega)
              by_cases cb : b = true
              · refine ⟨false, Ev.succ ?_⟩
                simp only [codewrightref04_irreducible.l1]
                exact Ev.ifp cx (Ev.bind hdg (Ev.bind hb (Ev.ifp cb (Ev.now _))))
              · obtain ⟨r, hr⟩ := iht (x + 1) (by omega) (by omega) (by omega)
                refine ⟨r, Ev.succ ?_⟩
                simp only [codewrightref04_irreducible.l1]
                refine Ev.ifp cx (Ev.bind hdg (Ev.bind hb (Ev.ifn cb ?_)))
                rw [w64 (n := x + 1) (by omega)]; exact hr
            · obtain ⟨r, hr⟩ := ih (i + 1) (by omega) (by omega) hp
              refine ⟨r, Ev.succ ?_⟩
              simp only [codewrightref04_irreducible.l1]
              refine Ev.ifn cx ?_
              rw [w64 (n := (i : Int) + 1) (by omega)]
              exact hr
        obtain ⟨r, hr⟩ := inner 300 0 (by omega) (by omega) (by omega)
        refine ⟨r, Ev.succ ?_⟩
        simp only [codewrightref04_irreducible.l0]
        refine Ev.ifp (by rw [w64 (n := 2 * (i : Int)) (by omega)]; omega) ?_
        rw [e, w64 (n := (p : Int) ^ i) (by omega)]
        exact hr
      · refine ⟨true, Ev.succ ?_⟩
        simp only [codewrightref04_irreducible.l0]
        refine Ev.ifn ?_ (Ev.now _)
        rw [w64 (n := 2 * (i : Int)) (by omega)]; omega
  unfold codewrightref04_irreducible.f
  obtain ⟨r, hr⟩ := col 5 1 (by omega) (by omega) (by simp)
  rw [show (1 - 1 : Nat) = 0 from rfl, Int.pow_zero] at hr
  exact ⟨r, hr⟩
theorem Check_tot (P M : Int) (md : List Int) : ∃ r, Ev (fun k => codewrightref04_Check.f k P M md) r := by
  unfold codewrightref04_Check.f
  obtain ⟨o, ho, hp⟩ := rorder_tot P M md
  by_cases c : o = 0
  · refine ⟨1, Ev.bind ho (Ev.ifp c (Ev.succ ?_))⟩
    simp only [codewrightref04_Check.j0]
    exact Ev.ifp trivial (Ev.now _)
  · obtain ⟨h2, h1, h8, e, h256⟩ : 2 ≤ P ∧ 1 ≤ M ∧ M ≤ 8 ∧ o = P ^ M.toNat ∧ o ≤ 256 := by
      rcases hp with hp | hp
      · exact absurd hp c
      · exact hp
    have hP : P ≤ 256 := by
      have h3 := ipow_pos h2 (M.toNat - 1)
      have e1 : P ^ M.toNat = P ^ (M.toNat - 1) * P := by rw [← Int.pow_succ]; congr 1; omega
      have h4 : 1 * P ≤ P ^ (M.toNat - 1) * P := Int.mul_le_mul_of_nonneg_right h3 (by omega)
      omega
    obtain ⟨b, hb⟩ := rprime_tot h2 hP
    suffices h : ∃ r, Ev (fun k => codewrightref04_Check.j0 k (!b) P M md) r by
      obtain ⟨r, hr⟩ := h
      exact ⟨r, Ev.bind ho (Ev.ifn c (Ev.bind hb hr))⟩
    by_cases cb : (!b) = true
    · exact ⟨1, Ev.succ (by simp only [codewrightref04_Check.j0]; exact Ev.ifp cb (Ev.now _))⟩
    by_cases cM : M = 1
    · by_cases cl : (md.length : Int) = 0
      · exact ⟨0, Ev.succ (by simp only [codewrightref04_Check.j0]; exact Ev.ifn cb (Ev.ifp cM (Ev.ifp cl (Ev.now _))))⟩
      · exact ⟨1, Ev.succ (by simp only [codewrightref04_Check.j0]; exact Ev.ifn cb (Ev.ifp cM (Ev.ifn cl (Ev.now _))))⟩
    by_cases cl : (md.length : Int) = M
    · obtain ⟨ir, hir⟩ := irreducible_tot md P h2 hP (by omega) (by rw [show md.length = M.toNat from by omega, ← e]; exact h256)
      have rng : ∀ (n i : Nat), i + n = md.length → ∃ r, Ev (fun k => codewrightref04_Check.l0 k (i : Int) P M md) r := by
        intro n
        induction n with
        | zero =>
          intro i hi
          by_cases ci : ir = true
          · exact ⟨0, Ev.succ (by simp only [codewrightref04_Check.l0]; exact Ev.ifn (by omega) (Ev.bind hir (Ev.ifp ci (Ev.now _))))⟩
          · exact ⟨1, Ev.succ (by simp only [codewrightref04_Check.l0]; exact Ev.ifn (by omega) (Ev.bind hir (Ev.ifn ci (Ev.now _))))⟩
        | succ n ih =>
          intro i hi
          by_cases c0 : rd md (i : Int) < 0
          · exact ⟨1, Ev.succ (by simp only [codewrightref04_Check.l0]; exact Ev.ifp (by omega) (Ev.ifp (by omega) (Ev.ifp (by omega) (Ev.ifp c0 (Ev.now _)))))⟩
          by_cases c1 : rd md (i : Int) ≥ P
          · exact ⟨1, Ev.succ (by simp only [codewrightref04_Check.l0]; exact Ev.ifp (by omega) (Ev.ifp (by omega) (Ev.ifp (by omega) (Ev.ifn c0 (Ev.ifp c1 (Ev.now _))))))⟩
          obtain ⟨r, hr⟩ := ih (i + 1) (by omega)
          refine ⟨r, Ev.succ ?_⟩
          simp only [codewrightref04_Check.l0]
          refine Ev.ifp (by omega) (Ev.ifp (by omega) (Ev.ifp (by omega) (Ev.ifn c0 (Ev.ifn c1 ?_))))
          rw [w64 (n := (i : Int) + 1) (by omega)]; exact hr
      obtain ⟨r, hr⟩ := rng md.length 0 (by omega)
      exact ⟨r, Ev.succ (by simp only [codewrightref04_Check.j0]; exact Ev.ifn cb (Ev.ifn cM (Ev.ifp cl hr)))⟩
    · exact ⟨1, Ev.succ (by simp only [codewrightref04_Check.j0]; exact Ev.ifn cb (Ev.ifn cM (Ev.ifn cl (Ev.now _))))⟩
theorem forder_l0 {P : Int} (h2 : 2 ≤ P) (h256 : P ≤ 256) (m : Nat) (hm : m ≤ 8) (n i : Nat) (hi : i + n = m) (x : Int) (e : x = P ^ i) (hx : x ≤ 256) :
    ∃ r, Ev (fun k => field_order.l0 k P x (m : Int) (i : Int)) r ∧ (r = 0 ∨ r = P ^ m ∧ r ≤ 256) := by
  have h1 := ipow_pos h2 i
  induction n generalizing i x with
  | zero =>
    refine ⟨x, Ev.succ ?_, .inr ⟨by rw [e, show i = m from by omega], hx⟩⟩
    simp only [field_order.l0]
    exact Ev.ifn (by omega) (Ev.now _)
  | succ n ih =>
    have hb : 0 ≤ x * P ∧ x * P ≤ 256 * 256 := ⟨Int.mul_nonneg (by omega) (by omega), Int.mul_le_mul (by omega) (by omega) (by omega) (by omega)⟩
    by_cases c : x * P > 256
    · refine ⟨0, Ev.succ ?_, .inl rfl⟩
      simp only [field_order.l0]
      refine Ev.ifp (by omega) (Ev.ifp ?_ (Ev.now _))
      rw [w64 (n := x * P) (by omega)]; exact c
    · have h3 := ipow_pos h2 (i + 1)
      have e3 : x * P = P ^ (i + 1) := by rw [Int.pow_succ, e]
      obtain ⟨r, hr, hp⟩ := ih (i + 1) (by omega) (x * P) e3 (by omega) h3
      refine ⟨r, Ev.succ ?_, hp⟩
      simp only [field_order.l0]
      rw [w64 (n := x * P) (by omega)]
      refine Ev.ifp (by omega) (Ev.ifn c ?_)
      rw [w64 (n := (i : Int) + 1) (by omega)]
      exact hr
theorem forder_tot (P M : Int) : ∃ r, Ev (fun k => field_order.f k P M) r ∧ (r = 0 ∨ 2 ≤ P ∧ P ≤ 256 ∧ 1 ≤ M ∧ M ≤ 8 ∧ r = P ^ M.toNat ∧ r ≤ 256) := by
  unfold field_order.f
  by_cases h2 : P < 2
  · exact ⟨0, Ev.ifp h2 (Ev.succ (by simp only [field_order.j0]; exact Ev.ifp trivial (Ev.now _))), .inl rfl⟩
  by_cases h256 : P > 256
  · exact ⟨0, Ev.ifn h2 (Ev.ifp h256 (Ev.succ (by simp only [field_order.j0]; exact Ev.ifp trivial (Ev.now _)))), .inl rfl⟩
  by_cases h1 : M < 1
  · exact ⟨0, Ev.ifn h2 (Ev.ifn h256 (Ev.ifp h1 (Ev.succ (by simp only [field_order.j0]; exact Ev.ifp trivial (Ev.now _))))), .inl rfl⟩
  by_cases h8 : M > 8
  · exact ⟨0, Ev.ifn h2 (Ev.ifn h256 (Ev.ifn h1 (Ev.succ (by simp only [field_order.j0]; exact Ev.ifp (by simpa using h8) (Ev.now _))))), .inl rfl⟩
  obtain ⟨r, hr, hp⟩ := forder_l0 (P := P) (by omega) (by omega) M.toNat (by omega) M.toNat 0 (by omega) 1 (by simp) (by omega)
  rw [Int.toNat_of_nonneg (by omega)] at hr
  refine ⟨r, Ev.ifn h2 (Ev.ifn h256 (Ev.ifn h1 (Ev.succ ?_))), ?_⟩
  · simp only [field_order.j0]
    exact Ev.ifn (by simpa using h8) hr
  · rcases hp with hp | ⟨hp, h3⟩
    · exact .inl hp
    · exact .inr ⟨by omega, by omega, by omega, by omega, hp, h3⟩
theorem isPrime_tot {P : Int} (h2 : 2 ≤ P) (h256 : P ≤ 256) : ∃ r, Ev (fun k => field_isPrime.f k P) r := by
  unfold field_isPrime.f
  suffices h : ∀ (n : Nat) (x : Int), 2 ≤ x → x ≤ 17 → 17 - x ≤ n → ∃ r, Ev (fun k => field_isPrime.l0 k P x) r from h 15 2 (by omega) (by omega) (by omega)
  intro n
  induction n with
  | zero =>
    intro x hx hP hn
    obtain rfl : x = 17 := by omega
    refine ⟨decide (P ≥ 2), Ev.succ ?_⟩
    simp only [field_isPrime.l0]
    exact Ev.ifn (by rw [w64 (n := 17 * 17) (by omega)]; omega) (Ev.now _)
  | succ n ih =>
    intro x hx hP hn
    have hs : 0 ≤ x * x ∧ x * x ≤ 17 * 17 := ⟨Int.mul_nonneg (by omega) (by omega), Int.mul_le_mul (by omega) (by omega) (by omega) (by omega)⟩
    by_cases c : x * x ≤ P
    · have hx16 : x ≤ 16 := by
        rcases Int.lt_or_le 16 x with h | h
        · have h3 : 17 * 17 ≤ x * x := Int.mul_le_mul (by omega) (by omega) (by omega) (by omega)
          omega
        · exact h
      by_cases d : Int.tmod P x = 0
      · refine ⟨false, Ev.succ ?_⟩
        simp only [field_isPrime.l0]
        rw [w64 (n := x * x) (by omega)]
        exact Ev.ifp c (Ev.ifn (by omega) (Ev.ifp d (Ev.now _)))
      · obtain ⟨r, hr⟩ := ih (x + 1) (by omega) (by omega) (by omega)
        refine ⟨r, Ev.succ ?_⟩
        simp only [field_isPrime.l0]
        rw [w64 (n := x * x) (by omega)]
        refine Ev.ifp c (Ev.ifn (by omega) (Ev.ifn d ?_))
        rw [w64 (n := x + 1) (by omega)]; exact hr
    · refine ⟨decide (P ≥ 2), Ev.succ ?_⟩
      simp only [field_isPrime.l0]
      rw [w64 (n := x * x) (by omega)]
      exact Ev.ifn c (Ev.now _)
theorem shape_tot (P M : Int) (md : List Int) : ∃ r, Ev (fun k => field_shape.f k P M md) r ∧ (r = true → ∃ p m : Nat, P = (p : Int) ∧ M = (m : Int) ∧ FOk p m md ∧ Ev (fun k => field_order.f k P M) ((p : Int) ^ m)) := by
  unfold field_shape.f
  obtain ⟨o, ho, hp⟩ := forder_tot P M
  by_cases c : o = 0
  · refine ⟨false, Ev.bind ho (Ev.ifp c (Ev.succ ?_)), fun h => by simp at h⟩
    simp only [field_shape.j0]
    exact Ev.ifp trivial (Ev.now _)
  obtain ⟨h2, hP, h1, h8, e, h256⟩ : 2 ≤ P ∧ P ≤ 256 ∧ 1 ≤ M ∧ M ≤ 8 ∧ o = P ^ M.toNat ∧ o ≤ 256 := by
    rcases hp with hp | hp
    · exact absurd hp c
    · exact hp
  obtain ⟨p, rfl⟩ : ∃ p : Nat, P = (p : Int) := ⟨P.toNat, by omega⟩
  obtain ⟨m, rfl⟩ : ∃ m : Nat, M = (m : Int) := ⟨M.toNat, by omega⟩
  rw [Int.toNat_natCast] at e
  subst e
  obtain ⟨b, hb⟩ := isPrime_tot h2 hP
  suffices h : ∃ r, Ev (fun k => field_shape.j0 k (!b) (p : Int) (m : Int) md) r ∧ (r = true → (m = 1 ∧ md = [] ∨ 1 < m ∧ md.length = m) ∧ InP p md) by
    obtain ⟨r, hr, h⟩ := h
    exact ⟨r, Ev.bind ho (Ev.ifn c (Ev.bind hb hr)), fun hh => ⟨p, m, rfl, rfl, ⟨by omega, by omega, by omega, by omega, h256, (h hh).1, (h hh).2⟩, ho⟩⟩
  by_cases cb : (!b) = true
  · exact ⟨false, Ev.succ (by simp only [field_shape.j0]; exact Ev.ifp cb (Ev.now _)), fun h => by simp at h⟩
  by_cases cM : (m : Int) = 1
  · refine ⟨((md.length : Int) == 0), Ev.succ (by simp only [field_shape.j0]; exact Ev.ifn cb (Ev.ifp cM (Ev.now _))), fun h => ?_⟩
    have hl : md = [] := List.eq_nil_of_length_eq_zero (by simpa using h)
    exact ⟨.inl ⟨by omega, hl⟩, by subst hl; intro x hx; simp at hx⟩
  by_cases cl : (md.length : Int) = (m : Int)
  · have rng : ∀ (n i : Nat), i + n = md.length → ∃ r, Ev (fun k => field_shape.l0 k md (md.length : Int) (i : Int) (p : Int) (m : Int) md) r ∧ (r = true → ∀ j, i ≤ j → j < md.length → 0 ≤ md.getD j 0 ∧ md.getD j 0 < (p : Int)) := by
      intro n
      induction n with
      | zero =>
        intro i hi
        exact ⟨true, Ev.succ (by simp only [field_shape.l0]; exact Ev.ifn (by omega) (Ev.now _)), fun _ j h1 h2 => by omega⟩
      | succ n ih =>
        intro i hi
        by_cases c0 : rd md (i : Int) < 0
        · exact ⟨false, Ev.succ (by simp only [field_shape.l0]; exact Ev.ifp (by omega) (Ev.ifp (by omega) (Ev.ifp (by omega) (Ev.ifp c0 (Ev.now _))))), fun h => by simp at h⟩
        by_cases c1 : rd md (i : Int) ≥ (p : Int)
        · exact ⟨false, Ev.succ (by simp only [field_shape.l0]; exact Ev.ifp (by omega) (Ev.ifp (by omega) (Ev.ifp (by omega) (Ev.ifn c0 (Ev.ifp c1 (Ev.now _)))))), fun h => by simp at h⟩
        obtain ⟨r, hr, hj⟩ := ih (i + 1) (by omega)
        refine ⟨r, Ev.succ ?_, fun h j h1 h2 => ?_⟩
        · simp only [field_shape.l0]
          refine Ev.ifp (by omega) (Ev.ifp (by omega) (Ev.ifp (by omega) (Ev.ifn c0 (Ev.ifn c1 ?_))))
          rw [w64 (n := (i : Int) + 1) (by omega)]; exact hr
        · rcases Nat.lt_or_ge i j with h3 | h3
          · exact hj h j h3 h2
          · obtain rfl : i = j := by omega
            rw [rd_nat] at c0 c1
            omega
    obtain ⟨r, hr, hj⟩ := rng md.length 0 (by omega)
    refine ⟨r, Ev.succ (by simp only [field_shape.j0]; exact Ev.ifn cb (Ev.ifn cM (Ev.ifp cl hr))), fun h => ⟨.inr ⟨by omega, by omega⟩, fun x hx => ?_⟩⟩
    obtain ⟨j, hjl, e⟩ := List.getElem_of_mem hx
    have h3 := hj h j (Nat.zero_le _) hjl
    rw [List.getD_eq_getElem?_getD, List.getElem?_eq_getElem hjl, e] at h3
    exact h3
  · exact ⟨false, Ev.succ (by simp only [field_shape.j0]; exact Ev.ifn cb (Ev.ifn cM (Ev.ifn cl (Ev.now _)))), fun h => by simp at h⟩
end Go.Proofs.Ytkdakjlopheefaa.PA
end
section
namespace Go.Proofs.Ytkdakjlopheefaa.PA
open Alg Go.RowKit Go.Proofs.YtkdakjlopheefaaW.PrintWords Go.Proofs.YtkdakjlopheefaaW.PrintLast Go.Proofs.YtkdakjlopheefaaW.PrintMore
set_option linter.unusedVariables false
def Field (W0 w : World) (g : Nat) (P M : Int) (md : List Int) : Prop :=
  ∃ (p m : Nat) (ex lg : List Int), P = (p : Int) ∧ M = (m : Int) ∧ (∃ t : Two p, @GOk p m t md ex lg) ∧ IsS93 W0 w g (p : Int) (m : Int) md ((p : Int) ^ m) ex lg
theorem New_calls (P M : Int) (A : Option Addr) (c : Nat) (md : List Int) (w : World) (hr : Kd.C (Kd.int .i64) w A md.length md) (hc : md.length ≤ c) :
    Calls Try.prog 41 #[.agg #[.int .i64 P, .int .i64 M, .slice A md.length c]] w fun e w' => ∃ v n, e = .returned (.tuple #[v, .int .i64 n]) ∧ ((n = 1 ∧ Below w.heap.size w w') ∨
      (n = 0 ∧ ∃ g : Nat, v = .pointer (some ⟨g, 0, none⟩) ∧ ∃ W0 : World, Below w.heap.size w W0 ∧ Below W0.heap.size W0 w' ∧ Field W0 w' g P M md)) := by
  obtain ⟨s, ⟨K, hs⟩, hy⟩ := shape_tot P M md
  by_cases c1 : s = true
  · subst c1
    obtain ⟨p, m, rfl, rfl, hf, ⟨K2, ho⟩⟩ := hy rfl
    have : Two p := ⟨hf.p2⟩
    obtain ⟨r, ⟨K3, hg⟩, hG⟩ := generator_ev (md := md) hf
    have k1 := hs (K + K2 + K3) (by omega)
    have k2 := ho (K + K2 + K3) (by omega)
    have k3 := hg (K + K2 + K3) (by omega)
    have hpw := hf.pow_le (Nat.le_refl m)
    have hlm : md.length ≤ 8 := by
      have h8 := hf.m8
      rcases hf.mdl with ⟨_, e⟩ | ⟨_, e⟩
      · rw [e]; exact Nat.zero_le _
      · omega
    by_cases c2 : r = []
    · subst c2
      refine (New_nogen _ p m _ A c md w hr hc k1 k2 k3).mono ?_
      rintro e w' ⟨rfl, hb⟩
      exact ⟨_, _, rfl, .inl ⟨rfl, hb⟩⟩
    · have hGen : Gen p m md r := by
        rcases hG with h | h
        · exact absurd h c2
        · exact h
      obtain ⟨a, hP, hl, _⟩ := id hGen
      refine (New_yes _ p m _ A c md r w hr hc k1 k2 k3 (List.length_pos_iff.2 c2) ⟨by omega, hpw.2⟩ hlm (fun x hx => by have := hP.rg x hx; omega) (by omega)).mono ?_
      rintro e w' ⟨g, rfl, W0, hb, hb2, hI⟩
      exact ⟨_, _, rfl, .inr ⟨rfl, g, rfl, W0, hb, hb2, p, m, r, _, rfl, rfl, ⟨this, ⟨hf, hGen, rfl⟩⟩, hI⟩⟩
  · have k1 := hs K (Nat.le_refl _)
    rw [show s = false from by simpa using c1] at k1
    refine (New_no _ P M A c md w hr hc k1).mono ?_
    rintro e w' ⟨rfl, hb⟩
    exact ⟨_, _, rfl, .inl ⟨rfl, hb⟩⟩
set_option maxHeartbeats 1000000 in
set_option maxRecDepth 100000 in
theorem made_calls (P M : Int) (A : Option Addr) (c : Nat) (md : List Int) (w : World) (hr : Kd.C (Kd.int .i64) w A md.length md) (hc : md.length ≤ c) :
    Calls Try.prog 14 #[.agg #[.int .i64 P, .int .i64 M, .slice A md.length c]] w fun e w' => ∃ v, e = .returned v ∧ ((v = .pointer none ∧ Below w.heap.size w w') ∨
      (∃ g : Nat, v = .pointer (some ⟨g, 0, none⟩) ∧ ∃ W0 : World, Below w.heap.size w W0 ∧ Below W0.heap.size W0 w' ∧ Field W0 w' g P M md)) := by
  obtain ⟨n, ⟨K, hK⟩⟩ := Check_tot P M md
  have HH := Aside0.mk (hK K (Nat.le_refl _))
  have HR := Aside0.mk hr
  have HC := Aside0.mk hc
  clear hr hc hK
  by_cases cn : n = 0
  · subst cn
    go_enter Try.func14, Try.ntmps14
    go_wp2_with fail
    refine (codewrightref04_Check.calls K P M A c md 0 _ (Kd.C_below HR.out (box_new _ _).1) HC.out HH.out).mono ?_
    rintro e w2 ⟨rfl, hb⟩
    have HB := Aside0.mk (below_step (box_new w _).1 hb)
    have BK := Aside0.mk (blk_below (blk_new w _) hb)
    clear hb
    have c0 := (blk_cell BK.out 0).trans rfl
    have c1 := (blk_cell BK.out 1).trans rfl
    have c2 := (blk_cell BK.out 2).trans rfl
    go_wp2_with fail
    refine (New_calls P M A c md _ (Kd.C_below HR.out HB.out) HC.out).mono ?_
    rintro e w3 ⟨v, n, rfl, h⟩
    rcases h with ⟨rfl, hb⟩ | ⟨rfl, g, rfl, W0, hb, hb2, hF⟩
    · have HB2 := Aside0.mk (below_step HB.out hb)
      clear hb
      go_wp2
      go_ret
      exact ⟨_, rfl, .inl ⟨rfl, HB2.out⟩⟩
    · have HB2 := Aside0.mk (below_step HB.out hb)
      have HB3 := Aside0.mk hb2
      have HF := Aside0.mk hF
      clear hb hb2 hF
      go_wp2
      go_ret
      exact ⟨_, rfl, .inr ⟨g, rfl, W0, HB2.out, HB3.out, HF.out⟩⟩
  · have cnb : (n != 0) = true := bne_iff_ne.mpr cn
    go_enter Try.func14, Try.ntmps14
    go_wp2_with fail
    refine (codewrightref04_Check.calls K P M A c md n _ (Kd.C_below HR.out (box_new _ _).1) HC.out HH.out).mono ?_
    rintro e w2 ⟨rfl, hb⟩
    have HB := Aside0.mk (below_step (box_new w _).1 hb)
    clear hb
    go_wp2
    go_ret
    exact ⟨_, rfl, .inl ⟨rfl, HB.out⟩⟩
end Go.Proofs.Ytkdakjlopheefaa.PA
end
section
namespace Go.Proofs.Ytkdakjlopheefaa.PA
open Alg Go.RowKit Go.Proofs.YtkdakjlopheefaaW.PrintWords Go.Proofs.YtkdakjlopheefaaW.PrintLast Go.Proofs.YtkdakjlopheefaaW.PrintMore
set_option linter.unusedVariables false
inductive MulTo (k : Nat) (P M : Int) (md : List Int) (q : Int) (ex lg : List Int) : List (List Int) → List Int → List Int → Prop
  | nil (out : List Int) : MulTo k P M md q ex lg [] out out
  | cons {p r res out : List Int} {ps : List (List Int)} : poly_product.f k P M md q ex lg out p = some (r, P, M, q) → MulTo k P M md q ex lg ps r res → MulTo k P M md q ex lg (p :: ps) out res
def Fac (w : World) (g : Nat) (A : Option Addr) (l : List (List Int)) : Prop :=
  ∀ i : Nat, (hi : i < l.length) → ∃ ad Ai ci, A = some ad ∧ (l[i]).length ≤ ci ∧ ∀ W', KeepBut w W' g none → W'.cell? (ad.add i) = some (.slice Ai (l[i]).length ci) ∧ Kd.C (Kd.int .i64) W' Ai (l[i]).length l[i]
set_option maxHeartbeats 1000000 in
set_option maxRecDepth 100000 in
theorem Mul_calls (k : Nat) (g : Nat) (P M : Int) (md : List Int) (q : Int) (ex lg : List Int) (A : Option Addr) (c : Nat) (l : List (List Int)) (res : List Int) (w0 w : World)
    (hI : IsS93 w0 w g P M md q ex lg) (hB : Below w0.heap.size w0 w) (hF : Fac w g A l) (hl : l.length ≤ 1000) (h : MulTo k P M md q ex lg l [1] res) :
    Calls Try.prog 68 #[.pointer (some ⟨g, 0, none⟩), .slice A l.length c] w fun e w' => ∃ v, e = .returned v ∧ Kd.R (Kd.int .i64) 3 w' w.heap.size (fun _ => True) v res ∧ IsS93 w0 w' g P M md q ex lg ∧ Below w0.heap.size w0 w' ∧ KeepBut w w' g none := by
  have HI := Aside0.mk hI
  have HB := Aside0.mk hB
  have HF := Aside0.mk hF
  have HM := Aside0.mk h
  have HK := Aside0.mk (KeepBut.refl w g none)
  clear hI hB hF h
  have HG := Aside0.mk (IsS93.lt HI.out)
  have HL := Aside0.mk hl
  clear hl
  have L1 : Aside0 (Kd.R (Kd.int .i64) 3 (w.alloc (Obj.cells #[.int .i64 1] 3)) w.heap.size (fun _ => True) (.slice (some ⟨w.heap.size, 0, none⟩) ([1] : List Int).length 1) [1]) :=
    ⟨Kd.R_of_own ⟨rfl, .inr ⟨w.heap.size, 1, #[.int .i64 1], rfl, Nat.le_refl _, blk_new _ _, Nat.le_refl _, by decide, rfl, rfl⟩⟩ (fun _ _ => trivial)⟩
  have I1 := Aside0.mk (IsS93.alloc HI.out (Obj.cells #[.int .i64 1] 3))
  have B1 := Aside0.mk (below_alloc HB.out (Obj.cells #[.int .i64 1] 3))
  have K1 : Aside0 (KeepBut w (w.alloc (Obj.cells #[.int .i64 1] 3)) g none) := ⟨KeepBut.of_below (below_alloc (Below.refl _ _) _) g none⟩
  have LE := Aside0.mk (show 0 ≤ (0 : Int) ∧ (0 : Int).toNat + l.length = l.length ∧ MulTo k P M md q ex lg (l.drop (0 : Int).toNat) [1] res from ⟨by decide, Nat.zero_add _, by show MulTo k P M md q ex lg (l.drop 0) [1] res; rw [List.drop_zero]; exact HM.out⟩)
  clear HM
  go_enter Try.func68, Try.ntmps68
  go_wp2
  go_loopg [5, 11] l.length (fun kq v5 v11 W => ∃ (i : Int) (out : List Int) (Ao : Option Addr) (co : Nat), v5 = .slice Ao out.length co ∧ v11 = .int .i64 i ∧ Aside0 (0 ≤ i ∧ i.toNat + kq = l.length ∧ MulTo k P M md q ex lg (l.drop i.toNat) out res) ∧ Aside0 (Kd.R (Kd.int .i64) 3 W w.heap.size (fun _ => True) (.slice Ao out.length co) out) ∧ Aside0 (IsS93 w0 W g P M md q ex lg) ∧ Aside0 (Below w0.heap.size w0 W) ∧ Aside0 (KeepBut w W g none))
  case atStart => exact ⟨0, [1], _, 1, rfl, rfl, LE, L1, I1, B1, K1⟩
  case round =>
    clear L1 I1 B1 K1 LE HI HB HK
    obtain ⟨i, out, Ao, co, rfl, rfl, HE, HO, HI, HB, HK⟩ := hrel
    by_cases ct : i < (l.length : Int)
    · have ctb : decide (i < (l.length : Int)) = true := decide_eq_true ct
      have p1 : 0 ≤ i := HE.out.1
      have hil : i.toNat < l.length := by omega
      obtain ⟨ad, Ai, ci, rfl, hci, hW⟩ := HF.out i.toNat hil
      obtain ⟨hcell, hrow⟩ := hW _ HK.out
      have HW := Aside0.mk (fun W' h => (hW W' h).2)
      have HCI := Aside0.mk hci
      have HRO := Aside0.mk hrow
      have HIL := Aside0.mk hil
      clear hW hrow hci
      have hd : l.drop i.toNat = l[i.toNat] :: l.drop (i.toNat + 1) := List.drop_eq_getElem_cons hil
      have HM := HE.out.2.2
      rw [hd] at HM
      clear hd
      generalize l[i.toNat] = p at hcell HW HCI HRO HM
      cases HM with
      | cons hp hrest =>
        rename_i r
        have HP := Aside0.mk hp
        have HRS := Aside0.mk hrest
        have HII := Aside0.mk (show 0 ≤ i ∧ i < l.length ∧ i.toNat + gk = l.length from ⟨p1, ct, HE.out.2.1⟩)
        clear hp hrest hil
        replace p1 := eq_true p1
        replace ct := eq_true ct
        go_wp2_with fail
        trace_state
        refine (poly_product.calls k g P M md q ex lg Ao co out Ai ci p r P M q w0 _ HI.out HB.out (Kd.R_reads' HO.out).2.2 (Kd.R_reads' HO.out).2.1 ?f1 HRO.out HCI.out ?f2 HP.out).mono ?_
        case f1 =>
          rintro ad' rfl hn
          obtain ⟨g', cap, e, hge, _⟩ := Kd.R_form HO.out hn
          injection e with e
          injection e with e
          subst e
          have := HG.out
          show g' ≠ g
          omega
        case f2 =>
          rintro ad' rfl hn
          exact Kd.foot_ne (fun W' h => HW.out W' (HK.out.trans h (.inl rfl))) hn (by decide)
        rintro e w4 ⟨v, rfl, hR, hI', hB', hK'⟩
        have hR' := Kd.R_lower hR HK.out.1
        obtain ⟨A2, c2, rfl, hc2, hC2⟩ := Kd.R_reads hR
        have HO2 := Aside0.mk hR'
        have HI2 := Aside0.mk hI'
        have HB2 := Aside0.mk hB'
        have HK2 := Aside0.mk (HK.out.trans hK' (.inl rfl))
        clear hR hR' hI' hB' hK' hc2 hC2
        go_wp2
        trace_state
        go_roundg (gk - 1)
        case measure =>
          have := HII.out
          omega
        case rel =>
          have h2 := HII.out
          have h3 := HL.out
          refine ⟨i + 1, r, A2, c2, rfl, by rw [w64 (n := i + 1) (by omega)], ⟨by omega, by omega, ?_⟩, HO2, HI2, HB2, HK2⟩
          rw [show (i + 1).toNat = i.toNat + 1 from by omega]
          exact HRS.out
    · have ctb : decide (i < (l.length : Int)) = false := decide_eq_false ct
      have HII := Aside0.mk ct
      go_wp2
      go_ret
      have h1 := HE.out
      have h2 := HII.out
      have hd : l.drop i.toNat = [] := List.drop_eq_nil_of_le (by omega)
      have h3 := h1.2.2
      rw [hd] at h3
      cases h3
      exact ⟨_, rfl, HO.out, HI.out, HB.out, HK.out⟩
end Go.Proofs.Ytkdakjlopheefaa.PA
end
section
namespace Go.Proofs.Ytkdakjlopheefaa.PA
open Alg Go.RowKit Go.Proofs.YtkdakjlopheefaaW.PrintWords Go.Proofs.YtkdakjlopheefaaW.PrintLast Go.Proofs.YtkdakjlopheefaaW.PrintMore
set_option linter.unusedVariables false
set_option maxHeartbeats 1000000 in
set_option maxRecDepth 100000 in
theorem made_yes (k : Nat) (P M q : Int) (A : Option Addr) (c : Nat) (md ex : List Int) (w : World) (hr : Kd.C (Kd.int .i64) w A md.length md) (hc : md.length ≤ c) (h0 : codewrightref04_Check.f k P M md = some 0) (h : field_shape.f k P M md = some true)
    (h2 : field_order.f k P M = some q) (h3 : field_generator.f k P M md q = some ex) (hex : 0 < ex.length) (hq : 0 ≤ q ∧ q ≤ 256) (hmd : md.length ≤ 8) (hx : ∀ x, x ∈ ex → 0 ≤ x ∧ x < q) (hln : ex.length ≤ 256) :
    Calls Try.prog 14 #[.agg #[.int .i64 P, .int .i64 M, .slice A md.length c]] w fun e w' => ∃ g : Nat, e = .returned (.pointer (some ⟨g, 0, none⟩)) ∧ ∃ W0 : World, Below w.heap.size w W0 ∧ Below W0.heap.size W0 w' ∧ IsS93 W0 w' g P M md q ex (newlog 0 ex (List.replicate q.toNat 0)) := by
  have HH := Aside0.mk h0
  have HN := Aside0.mk (fun w hr => New_yes k P M q A c md ex w hr hc h h2 h3 hex hq hmd hx hln)
  have HR := Aside0.mk hr
  have HC := Aside0.mk hc
  clear hr hc h0 h h2 h3 hex hq hmd hx hln
  go_enter Try.func14, Try.ntmps14
  go_wp2_with fail
  refine (codewrightref04_Check.calls k P M A c md 0 _ (Kd.C_below HR.out (box_new _ _).1) HC.out HH.out).mono ?_
  rintro e w2 ⟨rfl, hb⟩
  have HB := Aside0.mk (below_step (box_new w _).1 hb)
  have BK := Aside0.mk (blk_below (blk_new w _) hb)
  clear hb
  have c0 := (blk_cell BK.out 0).trans rfl
  have c1 := (blk_cell BK.out 1).trans rfl
  have c2 := (blk_cell BK.out 2).trans rfl
  go_wp2_with fail
  refine (HN.out _ (Kd.C_below HR.out HB.out)).mono ?_
  rintro e w3 ⟨g, rfl, W0, hb, hb2, hF⟩
  have HB2 := Aside0.mk (below_step HB.out hb)
  have HB3 := Aside0.mk hb2
  have HF := Aside0.mk hF
  clear hb hb2 hF
  go_wp2
  go_ret
  exact ⟨g, rfl, W0, HB2.out, HB3.out, HF.out⟩
theorem lit_R {W : World} {base g e : Nat} (cs : List Int) (hb : base ≤ g) (h : W.heap[g]? = some (.cells (cs.map (Value.int .i64)).toArray e (0, 0))) (hl : cs.length ≤ 1000) :
    Kd.R (Kd.int .i64) e W base (fun _ => True) (.slice (some ⟨g, 0, none⟩) cs.length cs.length) cs := by
  refine Kd.R_of_own ⟨by simp [encs], .inr ⟨g, cs.length, _, rfl, hb, h, Nat.le_refl _, by simp only [maxLen]; omega, by simp, ?_⟩⟩ (fun _ _ => trivial)
  show List.take (cs.length * 1) (cs.map (Value.int .i64)) = cs.map (Value.int .i64)
  rw [List.take_of_length_le (by simp)]
theorem lit_C {W : World} {g e : Nat} (cs : List Int) (h : W.heap[g]? = some (.cells (cs.map (Value.int .i64)).toArray e (0, 0))) (hl : cs.length ≤ 1000) : Kd.C (Kd.int .i64) W (some ⟨g, 0, none⟩) cs.length cs :=
  (Kd.R_reads' (lit_R (base := 0) cs (Nat.zero_le _) h hl)).2.2
theorem lit_ne {g g' : Nat} {n : Nat} (h : g < g') : ∀ ad, some (⟨g', 0, none⟩ : Addr) = some ad → 0 < n → ad.block ≠ g := fun ad e _ => by injection e with e; subst e; show g' ≠ g; omega
theorem R_ne {e base g' n c : Nat} {ok : Nat → Prop} {W : World} {A : Option Addr} {xs : List Int} (h : Kd.R (Kd.int .i64) e W base ok (.slice A n c) xs) (hg : g' < base) : ∀ ad, A = some ad → 0 < n → ad.block ≠ g' := by
  rintro ad rfl hn
  have hl := (Kd.R_reads' h).1
  obtain ⟨g, cap, e1, hge, _⟩ := Kd.R_form h (by omega)
  injection e1 with e1
  injection e1 with e1
  subst e1
  show g ≠ g'
  omega
theorem size_alloc (w : World) (o : Obj) : (w.alloc o).heap.size = w.heap.size + 1 := by unfold World.alloc; exact Array.size_push _
end Go.Proofs.Ytkdakjlopheefaa.PA
end
section
namespace Go.Proofs.Ytkdakjlopheefaa.PA
open Alg Go.RowKit Go.Proofs.YtkdakjlopheefaaW.PrintWords Go.Proofs.YtkdakjlopheefaaW.PrintLast Go.Proofs.YtkdakjlopheefaaW.PrintMore
set_option linter.unusedVariables false
theorem same_l0 (a : List Int) (b : List Int) (hb : a.length = b.length) (hl : a.length ≤ 1000000) (n i : Nat) (hi : i + n = a.length) (hs : ∀ j, j < i → a.getD j 0 = b.getD j 0) :
    Ev (fun k => codewrightlaw38_same.l0 k a b (a.length : Int) (i : Int)) (decide (a = b)) := by
  induction n generalizing i with
  | zero =>
    refine Ev.succ ?_
    simp only [codewrightlaw38_same.l0]
    refine Ev.ifn (by omega) (Ev.val ?_)
    symm
    rw [decide_eq_true_iff]
    refine List.ext_getElem hb fun j h1 h2 => ?_
    have := hs j (by omega)
    rwa [List.getD_eq_getElem?_getD, List.getD_eq_getElem?_getD, List.getElem?_eq_getElem h1, List.getElem?_eq_getElem h2] at this
  | succ n ih =>
    refine Ev.succ ?_
    simp only [codewrightlaw38_same.l0]
    refine Ev.ifp (by omega) (Ev.ifp (by omega) (Ev.ifp (by omega) (Ev.ifp (by omega) ?_)))
    by_cases c : rd a (i : Int) = rd b (i : Int)
    · refine Ev.ifp c ?_
      rw [w64 (n := (i : Int) + 1) (by omega)]
      refine ih (i + 1) (by omega) fun j hj => ?_
      rcases Nat.lt_or_ge j i with h | h
      · exact hs j h
      · obtain rfl : j = i := by omega
        rwa [rd_nat, rd_nat] at c
    · refine Ev.ifn c (Ev.val ?_)
      symm
      rw [decide_eq_false_iff_not]
      rintro rfl
      exact c rfl
theorem same_ev (a b : List Int) (hl : a.length ≤ 1000000) : Ev (fun k => codewrightlaw38_same.f k a b) (decide (a = b)) := by
  unfold codewrightlaw38_same.f
  by_cases h : (a.length : Int) = (b.length : Int)
  · exact Ev.ifp h (same_l0 a b (by omega) hl a.length 0 (by omega) (fun j hj => absurd hj (by omega)))
  · refine Ev.ifn h (Ev.val ?_)
    symm
    rw [decide_eq_false_iff_not]
    rintro rfl
    exact h rfl
theorem same_yes (a : List Int) (hl : a.length ≤ 1000000) : Ev (fun k => codewrightlaw38_same.f k a a) true := by
  have := same_ev a a hl
  rwa [decide_eq_true rfl] at this
structure Row (w : World) (g : Nat) (A : Option Addr) (c : Nat) (l : List Int) : Prop where
  C : Kd.C (Kd.int .i64) w A l.length l
  cp : l.length ≤ c
  n : ∀ ad, A = some ad → 0 < l.length → ad.block ≠ g
structure Stp (w w' : World) (g : Nat) : Prop where
  k : KeepBut w w' g none
structure St (W0 w : World) (g : Nat) (P M : Int) (md : List Int) (q : Int) (ex lg : List Int) : Prop where
  I : IsS93 W0 w g P M md q ex lg
  B : Below W0.heap.size W0 w
section
variable {W0 w w' : World} {g : Nat} {P M q : Int} {md ex lg : List Int} {A : Option Addr} {c : Nat} {l : List Int}
theorem Row.step (h : Row w g A c l) (s : Stp w w' g) : Row w' g A c l := ⟨Kd.C_keep 0 h.C s.k h.n, h.cp, h.n⟩
theorem Row.at (h : Row w g A c l) (i : Int) (h0 : 0 ≤ i) (h1 : i < l.length) : ∃ ad, A = some ad ∧ w.cell? (ad.add i.toNat) = some (.int .i64 (rd l i)) := Kd.at_int h.C i h0 h1
theorem Row.cell {ad : Addr} (h : Row w g (some ad) c l) {i v : Int} (hi : Aside0 (0 ≤ i ∧ i < l.length ∧ rd l i = v)) : w.cell? (ad.add i.toNat) = some (.int .i64 v) := by
  obtain ⟨ad', e, hc⟩ := h.at i hi.out.1 hi.out.2.1
  obtain rfl := Option.some.inj e
  rw [hc, hi.out.2.2]
theorem Stp.alloc (w : World) (o : Obj) (g : Nat) : Stp w (w.alloc o) g := ⟨KeepBut.of_below (below_alloc (Below.refl _ w) o) g none⟩
theorem Stp.of_below (h : Below w.heap.size w w') (g : Nat) : Stp w w' g := ⟨KeepBut.of_below h g none⟩
theorem Stp.drew (w : World) (g : Nat) : Stp w w.drew g := Stp.of_below (below_drew (Below.refl _ w)) g
theorem Stp.trans {w2 : World} (h : Stp w w' g) (k : Stp w' w2 g) : Stp w w2 g := ⟨h.k.trans k.k (.inl rfl)⟩
theorem Row.alloc (h : Row w g A c l) (o : Obj) : Row (w.alloc o) g A c l := h.step (Stp.alloc w o g)
theorem St.below (h : St W0 w g P M md q ex lg) (hb : Below w.heap.size w w') : St W0 w' g P M md q ex lg := ⟨h.I.below hb, below_step h.B hb⟩
theorem St.alloc (h : St W0 w g P M md q ex lg) (o : Obj) : St W0 (w.alloc o) g P M md q ex lg := h.below (below_alloc (Below.refl _ w) o)
theorem St.drew (h : St W0 w g P M md q ex lg) : St W0 w.drew g P M md q ex lg := h.below (below_drew (Below.refl _ w))
theorem St.lt (h : St W0 w g P M md q ex lg) : g < w.heap.size := IsS93.lt h.I
theorem St.arg (h : St W0 w g P M md q ex lg) (hC : Kd.C (Kd.int .i64) W0 A l.length l) (hc : l.length ≤ c) : Row w g A c l := by
  refine ⟨Kd.C_below hC h.B, hc, ?_⟩
  rintro ad rfl hn
  have h1 := Kd.C_lt hC hn (by decide)
  have h2 := IsS93.ge h.I
  omega
theorem St.own (h : St W0 w g P M md q ex lg) {e : Nat} {ok : Nat → Prop} {v : Value} {xs : List Int} (hR : Kd.R (Kd.int .i64) e w' w.heap.size ok v xs) : ∃ A c, v = .slice A xs.length c ∧ Row w' g A c xs := by
  obtain ⟨A, c, rfl, hc, hC⟩ := Kd.R_reads hR
  exact ⟨A, c, rfl, hC, hc, R_ne hR h.lt⟩
theorem St.lit (h : St W0 w g P M md q ex lg) (cs : List Int) (e : Nat) (hl : cs.length ≤ 1000) : Row (w.alloc (.cells (cs.map (Value.int .i64)).toArray e)) g (some ⟨w.heap.size, 0, none⟩) cs.length cs :=
  ⟨lit_C (e := e) cs (blk_new _ _) hl, Nat.le_refl _, lit_ne h.lt⟩
def rowVal (x : Option Addr × Nat × List Int) : Value := .slice x.1 x.2.2.length x.2.1
theorem St.facs (h : St W0 w g P M md q ex lg) (xs : List (Option Addr × Nat × List Int)) (e : Nat) (hx : ∀ x, x ∈ xs → Row w g x.1 x.2.1 x.2.2) :
    Fac (w.alloc (.cells (xs.map rowVal).toArray e)) g (some ⟨w.heap.size, 0, none⟩) (xs.map fun x => x.2.2) := by
  intro i hi
  rw [List.length_map] at hi
  have hr := (hx xs[i] (List.getElem_mem _)).alloc (.cells (xs.map rowVal).toArray e)
  refine ⟨_, xs[i].1, xs[i].2.1, rfl, by rw [List.getElem_map]; exact hr.cp, fun W' hk => ?_⟩
  rw [List.getElem_map]
  refine ⟨?_, (hr.step ⟨hk⟩).C⟩
  rw [add_plain]
  have hb := hk.blk (blk_new w (Obj.cells (xs.map rowVal).toArray e)) (by have := h.lt; omega) (by simp)
  refine (blk_cell hb i).trans ?_
  rw [List.getElem?_toArray, List.getElem?_map, List.getElem?_eq_getElem hi]; rfl
theorem Mul_w (k : Nat) (S : St W0 w g P M md q ex lg) (xs : List (Option Addr × Nat × List Int)) (e : Nat) (hl : xs.length ≤ 1000) (hx : ∀ x, x ∈ xs → Row w g x.1 x.2.1 x.2.2) {res : List Int} (h : MulTo k P M md q ex lg (xs.map fun x => x.2.2) [1] res) :
    Calls Try.prog 68 #[.pointer (some ⟨g, 0, none⟩), .slice (some ⟨w.heap.size, 0, none⟩) (xs.map fun x => x.2.2).length (xs.map fun x => x.2.2).length] (w.alloc (.cells (xs.map rowVal).toArray e)) fun e w' => ∃ A c, e = .returned (.slice A res.length c) ∧ Row w' g A c res ∧ St W0 w' g P M md q ex lg ∧ Stp w w' g := by
  refine (Mul_calls k g P M md q ex lg _ _ _ res W0 _ (S.alloc _).I (S.alloc _).B (S.facs xs e hx) (by rw [List.length_map]; exact hl) h).mono ?_
  rintro e w' ⟨v, he, hR, hI, hB, hK⟩
  obtain ⟨A, c, rfl, hr⟩ := (S.alloc _).own hR
  exact ⟨A, c, he, hr, ⟨hI, hB⟩, (Stp.alloc _ _ _).trans ⟨hK⟩⟩
end
end Go.Proofs.Ytkdakjlopheefaa.PA
end
section
namespace Go.Proofs.Ytkdakjlopheefaa.PA
open Alg Go.RowKit Go.Proofs.YtkdakjlopheefaaW.PrintWords Go.Proofs.YtkdakjlopheefaaW.PrintLast Go.Proofs.YtkdakjlopheefaaW.PrintMore
set_option linter.unusedVariables false
theorem poly_Canon.w (k : Nat) {W0 w : World} {g : Nat} {P M : Int} {md : List Int} {q : Int} {ex lg : List Int} {A1 : Option Addr} {c1 : Nat} {l1 : List Int} {r1 : List Int} (S : St W0 w g P M md q ex lg) (R1 : Row w g A1 c1 l1) (h : poly_Canon.f k P M md q ex lg l1 = some (r1, P, M, q)) :
    Calls Try.prog 45 #[.pointer (some ⟨g, 0, none⟩), .slice A1 l1.length c1] w fun e w' => ∃ B0 d0, e = .returned (.slice B0 r1.length d0) ∧ Row w' g B0 d0 r1 ∧ St W0 w' g P M md q ex lg ∧ Stp w w' g := by
  refine (poly_Canon.calls k g P M md q ex lg A1 c1 l1 r1 P M q W0 w S.I S.B R1.C R1.cp R1.n h).mono ?_
  rintro e w' ⟨v0_, he, hR0, hI, hB, hK⟩
  obtain ⟨B0, d0, rfl, hr0⟩ := S.own hR0
  exact ⟨B0, d0, he, hr0, ⟨hI, hB⟩, ⟨hK⟩⟩
theorem field_GF_Inv.w {W0 w : World} {g : Nat} {P M : Int} {md : List Int} {q : Int} {ex lg : List Int} {a1 : Int} {r1 : Int} {r2 : Int} (S : St W0 w g P M md q ex lg) (h : field_GF_Inv.f P M md q ex lg a1 = some (r1, r2, P, M, q)) :
    Calls Try.prog 47 #[.pointer (some ⟨g, 0, none⟩), .int .i64 a1] w fun e w' => e = .returned (.tuple #[.int .i64 r1, .int .i64 r2]) ∧ St W0 w' g P M md q ex lg ∧ Stp w w' g := by
  refine (field_GF_Inv.calls g P M md q ex lg a1 r1 r2 P M q W0 w S.I S.B h).mono ?_
  rintro e w' ⟨he, hI, hB, hK⟩
  exact ⟨he, ⟨hI, hB⟩, ⟨hK⟩⟩
theorem poly_DivMod.w (k : Nat) {W0 w : World} {g : Nat} {P M : Int} {md : List Int} {q : Int} {ex lg : List Int} {A1 : Option Addr} {c1 : Nat} {l1 : List Int} {A2 : Option Addr} {c2 : Nat} {l2 : List Int} {r1 : List Int} {r2 : List Int} {r3 : Int} (S : St W0 w g P M md q ex lg) (R1 : Row w g A1 c1 l1) (R2 : Row w g A2 c2 l2) (h : poly_DivMod.f k P M md q ex lg l1 l2 = some (r1, r2, r3, P, M, q)) :
    Calls Try.prog 51 #[.pointer (some ⟨g, 0, none⟩), .slice A1 l1.length c1, .slice A2 l2.length c2] w fun e w' => ∃ B0 d0, ∃ B1 d1, e = .returned (.tuple #[.slice B0 r1.length d0, .slice B1 r2.length d1, .int .i64 r3]) ∧ Row w' g B0 d0 r1 ∧ Row w' g B1 d1 r2 ∧ St W0 w' g P M md q ex lg ∧ Stp w w' g := by
  refine (poly_DivMod.calls k g P M md q ex lg A1 c1 l1 A2 c2 l2 r1 r2 r3 P M q W0 w S.I S.B R1.C R1.cp R1.n R2.C R2.cp R2.n h).mono ?_
  rintro e w' ⟨v0_, v1_, he, hR0, hR1, hI, hB, hK⟩
  obtain ⟨B0, d0, rfl, hr0⟩ := S.own hR0
  obtain ⟨B1, d1, rfl, hr1⟩ := S.own hR1
  exact ⟨B0, d0, B1, d1, he, hr0, hr1, ⟨hI, hB⟩, ⟨hK⟩⟩
theorem poly_Degree.w (k : Nat) {W0 w : World} {g : Nat} {P M : Int} {md : List Int} {q : Int} {ex lg : List Int} {A1 : Option Addr} {c1 : Nat} {l1 : List Int} {r1 : Int} (S : St W0 w g P M md q ex lg) (R1 : Row w g A1 c1 l1) (h : poly_Degree.f k P M md q ex lg l1 = some (r1, P, M, q)) :
    Calls Try.prog 66 #[.pointer (some ⟨g, 0, none⟩), .slice A1 l1.length c1] w fun e w' => e = .returned (.int .i64 r1) ∧ St W0 w' g P M md q ex lg ∧ Stp w w' g := by
  refine (poly_Degree.calls k g P M md q ex lg A1 c1 l1 r1 P M q W0 w S.I S.B R1.C R1.cp R1.n h).mono ?_
  rintro e w' ⟨he, hI, hB, hK⟩
  exact ⟨he, ⟨hI, hB⟩, ⟨hK⟩⟩
theorem poly_Sub.w (k : Nat) {W0 w : World} {g : Nat} {P M : Int} {md : List Int} {q : Int} {ex lg : List Int} {A1 : Option Addr} {c1 : Nat} {l1 : List Int} {A2 : Option Addr} {c2 : Nat} {l2 : List Int} {r1 : List Int} (S : St W0 w g P M md q ex lg) (R1 : Row w g A1 c1 l1) (R2 : Row w g A2 c2 l2) (h : poly_Sub.f k P M md q ex lg l1 l2 = some (r1, P, M, q)) :
    Calls Try.prog 67 #[.pointer (some ⟨g, 0, none⟩), .slice A1 l1.length c1, .slice A2 l2.length c2] w fun e w' => ∃ B0 d0, e = .returned (.slice B0 r1.length d0) ∧ Row w' g B0 d0 r1 ∧ St W0 w' g P M md q ex lg ∧ Stp w w' g := by
  refine (poly_Sub.calls k g P M md q ex lg A1 c1 l1 A2 c2 l2 r1 P M q W0 w S.I S.B R1.C R1.cp R1.n R2.C R2.cp R2.n h).mono ?_
  rintro e w' ⟨v0_, he, hR0, hI, hB, hK⟩
  obtain ⟨B0, d0, rfl, hr0⟩ := S.own hR0
  exact ⟨B0, d0, he, hr0, ⟨hI, hB⟩, ⟨hK⟩⟩
theorem field_GF_Scale.w (k : Nat) {W0 w : World} {g : Nat} {P M : Int} {md : List Int} {q : Int} {ex lg : List Int} {a1 : Int} {A2 : Option Addr} {c2 : Nat} {l2 : List Int} {r1 : List Int} (S : St W0 w g P M md q ex lg) (R2 : Row w g A2 c2 l2) (h : field_GF_Scale.f k P M md q ex lg a1 l2 = some (r1, P, M, q)) :
    Calls Try.prog 78 #[.pointer (some ⟨g, 0, none⟩), .int .i64 a1, .slice A2 l2.length c2] w fun e w' => ∃ B0 d0, e = .returned (.slice B0 r1.length d0) ∧ Row w' g B0 d0 r1 ∧ St W0 w' g P M md q ex lg ∧ Stp w w' g := by
  refine (field_GF_Scale.calls k g P M md q ex lg a1 A2 c2 l2 r1 P M q W0 w S.I S.B R2.C R2.cp R2.n h).mono ?_
  rintro e w' ⟨v0_, he, hR0, hI, hB, hK⟩
  obtain ⟨B0, d0, rfl, hr0⟩ := S.own hR0
  exact ⟨B0, d0, he, hr0, ⟨hI, hB⟩, ⟨hK⟩⟩
theorem poly_Scale.w (k : Nat) {W0 w : World} {g : Nat} {P M : Int} {md : List Int} {q : Int} {ex lg : List Int} {a1 : Int} {A2 : Option Addr} {c2 : Nat} {l2 : List Int} {r1 : List Int} (S : St W0 w g P M md q ex lg) (R2 : Row w g A2 c2 l2) (h : poly_Scale.f k P M md q ex lg a1 l2 = some (r1, P, M, q)) :
    Calls Try.prog 48 #[.pointer (some ⟨g, 0, none⟩), .int .i64 a1, .slice A2 l2.length c2] w fun e w' => ∃ B0 d0, e = .returned (.slice B0 r1.length d0) ∧ Row w' g B0 d0 r1 ∧ St W0 w' g P M md q ex lg ∧ Stp w w' g := by
  refine (poly_Scale.calls k g P M md q ex lg a1 A2 c2 l2 r1 P M q W0 w S.I S.B R2.C R2.cp R2.n h).mono ?_
  rintro e w' ⟨v0_, he, hR0, hI, hB, hK⟩
  obtain ⟨B0, d0, rfl, hr0⟩ := S.own hR0
  exact ⟨B0, d0, he, hr0, ⟨hI, hB⟩, ⟨hK⟩⟩
theorem codewrightlaw38_same.w (k : Nat) {W0 w : World} {g : Nat} {P M : Int} {md : List Int} {q : Int} {ex lg : List Int} {A0 : Option Addr} {c0 : Nat} {l0 : List Int} {A1 : Option Addr} {c1 : Nat} {l1 : List Int} {r : Bool} (S : St W0 w g P M md q ex lg) (R0 : Row w g A0 c0 l0) (R1 : Row w g A1 c1 l1) (h : codewrightlaw38_same.f k l0 l1 = some r) :
    Calls Try.prog 17 #[.slice A0 l0.length c0, .slice A1 l1.length c1] w fun e w' => e = .returned (.bool r) ∧ St W0 w' g P M md q ex lg ∧ Stp w w' g := by
  refine (codewrightlaw38_same.calls k A0 c0 l0 A1 c1 l1 r w R0.C R0.cp R1.C R1.cp h).mono ?_
  rintro e w' ⟨he, hB⟩
  exact ⟨he, S.below hB.below, Stp.of_below hB.below g⟩
theorem keyequation_Syndrome.w (k : Nat) {W0 w : World} {g : Nat} {P M : Int} {md : List Int} {q : Int} {ex lg : List Int} {A1 : Option Addr} {c1 : Nat} {l1 : List Int} {A2 : Option Addr} {c2 : Nat} {l2 : List Int} {a3 : Int} {r1 : List Int} {r2 : Int} (S : St W0 w g P M md q ex lg) (R1 : Row w g A1 c1 l1) (R2 : Row w g A2 c2 l2) (h : keyequation_Syndrome.f k P M md q ex lg l1 l2 a3 = some (r1, r2, P, M, q)) :
    Calls Try.prog 24 #[.pointer (some ⟨g, 0, none⟩), .slice A1 l1.length c1, .slice A2 l2.length c2, .int .i64 a3] w fun e w' => ∃ B0 d0, e = .returned (.tuple #[.slice B0 r1.length d0, .int .i64 r2]) ∧ Row w' g B0 d0 r1 ∧ St W0 w' g P M md q ex lg ∧ Stp w w' g := by
  refine (keyequation_Syndrome.calls k g P M md q ex lg A1 c1 l1 A2 c2 l2 a3 r1 r2 P M q W0 w S.I S.B R1.C R1.cp R1.n R2.C R2.cp R2.n h).mono ?_
  rintro e w' ⟨v0_, he, hR0, hI, hB, hK⟩
  obtain ⟨B0, d0, rfl, hr0⟩ := S.own hR0
  exact ⟨B0, d0, he, hr0, ⟨hI, hB⟩, ⟨hK⟩⟩
theorem field_GF_Div.w {W0 w : World} {g : Nat} {P M : Int} {md : List Int} {q : Int} {ex lg : List Int} {a1 : Int} {a2 : Int} {r1 : Int} {r2 : Int} (S : St W0 w g P M md q ex lg) (h : field_GF_Div.f P M md q ex lg a1 a2 = some (r1, r2, P, M, q)) :
    Calls Try.prog 61 #[.pointer (some ⟨g, 0, none⟩), .int .i64 a1, .int .i64 a2] w fun e w' => e = .returned (.tuple #[.int .i64 r1, .int .i64 r2]) ∧ St W0 w' g P M md q ex lg ∧ Stp w w' g := by
  refine (field_GF_Div.calls g P M md q ex lg a1 a2 r1 r2 P M q W0 w S.I S.B h).mono ?_
  rintro e w' ⟨he, hI, hB, hK⟩
  exact ⟨he, ⟨hI, hB⟩, ⟨hK⟩⟩
theorem keyequation_Forney.w (k : Nat) {W0 w : World} {g : Nat} {P M : Int} {md : List Int} {q : Int} {ex lg : List Int} {A1 : Option Addr} {c1 : Nat} {l1 : List Int} {A2 : Option Addr} {c2 : Nat} {l2 : List Int} {a3 : Int} {r1 : Int} {r2 : Int} (S : St W0 w g P M md q ex lg) (R1 : Row w g A1 c1 l1) (R2 : Row w g A2 c2 l2) (h : keyequation_Forney.f k P M md q ex lg l1 l2 a3 = some (r1, r2, P, M, q)) :
    Calls Try.prog 32 #[.pointer (some ⟨g, 0, none⟩), .slice A1 l1.length c1, .slice A2 l2.length c2, .int .i64 a3] w fun e w' => e = .returned (.tuple #[.int .i64 r1, .int .i64 r2]) ∧ St W0 w' g P M md q ex lg ∧ Stp w w' g := by
  refine (keyequation_Forney.calls k g P M md q ex lg A1 c1 l1 A2 c2 l2 a3 r1 r2 P M q W0 w S.I S.B R1.C R1.cp R1.n R2.C R2.cp R2.n h).mono ?_
  rintro e w' ⟨he, hI, hB, hK⟩
  exact ⟨he, ⟨hI, hB⟩, ⟨hK⟩⟩
theorem keyequation_Chien.w (k : Nat) {W0 w : World} {g : Nat} {P M : Int} {md : List Int} {q : Int} {ex lg : List Int} {A1 : Option Addr} {c1 : Nat} {l1 : List Int} {A2 : Option Addr} {c2 : Nat} {l2 : List Int} {r1 : List Int} (S : St W0 w g P M md q ex lg) (R1 : Row w g A1 c1 l1) (R2 : Row w g A2 c2 l2) (h : keyequation_Chien.f k P M md q ex lg l1 l2 = some (r1, P, M, q)) :
    Calls Try.prog 33 #[.pointer (some ⟨g, 0, none⟩), .slice A1 l1.length c1, .slice A2 l2.length c2] w fun e w' => ∃ B0 d0, e = .returned (.slice B0 r1.length d0) ∧ Row w' g B0 d0 r1 ∧ St W0 w' g P M md q ex lg ∧ Stp w w' g := by
  refine (keyequation_Chien.calls k g P M md q ex lg A1 c1 l1 A2 c2 l2 r1 P M q W0 w S.I S.B R1.C R1.cp R1.n R2.C R2.cp R2.n h).mono ?_
  rintro e w' ⟨v0_, he, hR0, hI, hB, hK⟩
  obtain ⟨B0, d0, rfl, hr0⟩ := S.own hR0
  exact ⟨B0, d0, he, hr0, ⟨hI, hB⟩, ⟨hK⟩⟩
theorem lfsr_gap.w (k : Nat) {W0 w : World} {g : Nat} {P M : Int} {md : List Int} {q : Int} {ex lg : List Int} {A1 : Option Addr} {c1 : Nat} {l1 : List Int} {A2 : Option Addr} {c2 : Nat} {l2 : List Int} {a3 : Int} {r1 : Int} (S : St W0 w g P M md q ex lg) (R1 : Row w g A1 c1 l1) (R2 : Row w g A2 c2 l2) (h : lfsr_gap.f k P M md q ex lg l1 l2 a3 = some (r1, P, M, q)) :
    Calls Try.prog 77 #[.pointer (some ⟨g, 0, none⟩), .slice A1 l1.length c1, .slice A2 l2.length c2, .int .i64 a3] w fun e w' => e = .returned (.int .i64 r1) ∧ St W0 w' g P M md q ex lg ∧ Stp w w' g := by
  refine (lfsr_gap.calls k g P M md q ex lg A1 c1 l1 A2 c2 l2 a3 r1 P M q W0 w S.I S.B R1.C R1.cp R1.n R2.C R2.cp R2.n h).mono ?_
  rintro e w' ⟨he, hI, hB, hK⟩
  exact ⟨he, ⟨hI, hB⟩, ⟨hK⟩⟩
end Go.Proofs.Ytkdakjlopheefaa.PA
end
section
namespace Go.Proofs.Ytkdakjlopheefaa.PA
open Go.RowKit Go.Proofs.YtkdakjlopheefaaW.PrintWords Go.Proofs.YtkdakjlopheefaaW.PrintLast Go.Proofs.YtkdakjlopheefaaW.PrintMore
open Alg
section
variable {K : Type} [Fld K] {N : Nums K} {p m : Nat} {md ex lg : List Int}
def El (N : Nums K) (l : List Int) : Prop := ∀ x, x ∈ l → 0 ≤ x ∧ x < N.q
theorem El.set {l : List Int} (h : El N l) (i : Nat) {v : Int} (hv : 0 ≤ v ∧ v < N.q) : El N (l.set i v) := by
  intro x hx
  rcases List.mem_or_eq_of_mem_set hx with h1 | h1
  · exact h x h1
  · rw [h1]; exact hv
theorem El.zeros (n : Nat) : El N (List.replicate n 0) := by
  intro x hx; rw [List.eq_of_mem_replicate hx]; have := N.q2; omega
theorem El.take {l : List Int} (h : El N l) (n : Nat) : El N (l.take n) := fun x hx => h x (List.mem_of_mem_take hx)
theorem El.cl {a : S K} (h : S.Po a) : El N (N.cl a) := (N.cl_can h).1
theorem lk_ext {a b : List Int} (h : ∀ i, N.tk (a.getD i 0) = N.tk (b.getD i 0)) : N.lk a = N.lk b := by ext i; exact h i
theorem trim_ev (n : Nat) (l : List Int) (hn : l.length = n) (hb : n ≤ 1000000) (h : El N l) : Ev (fun k => poly_trim.f k l) (N.cl (N.lk l)) := by
  unfold poly_trim.f
  induction n generalizing l with
  | zero =>
    obtain rfl := List.length_eq_zero_iff.1 hn
    refine Ev.succ ?_
    simp only [poly_trim.l0]
    exact Ev.ifn (by simp) (Ev.val (by rw [N.lk_nil, N.cl_zero]))
  | succ n ih =>
    have ew : wrap64 ((l.length : Int) - 1) = (n : Int) := by rw [w64 (by omega)]; omega
    refine Ev.succ ?_
    simp only [poly_trim.l0]
    rw [ew, rd_nat, Int.toNat_natCast]; clear ew
    refine Ev.ifp (by omega) ?_
    refine Ev.ifp (by omega) ?_
    refine Ev.ifp (by omega) ?_
    by_cases hz : l.getD n 0 = 0
    · refine Ev.ifp hz ?_
      refine Ev.ifp (by omega) ?_
      have e : N.lk l = N.lk (l.take n) := by
        refine lk_ext fun i => ?_
        rw [List.getD_eq_getElem?_getD (l := l.take n), List.getElem?_take]
        by_cases hi : i < n
        · rw [if_pos hi, ← List.getD_eq_getElem?_getD]
        · rw [if_neg hi]
          by_cases hin : i = n
          · subst hin; rw [hz]; rfl
          · rw [getD_nat_lt l i (by omega)]; rfl
      rw [e]
      exact ih (l.take n) (by rw [List.length_take]; omega) (by omega) (h.take n)
    · refine Ev.ifn hz (Ev.val ?_)
      refine (N.cl_lk ⟨h, fun _ => ?_⟩).symm
      rw [hn, Nat.add_sub_cancel]; exact hz
theorem trim_ev' {l : List Int} {a : S K} (hb : l.length ≤ 1000000) (h : El N l) (e : N.lk l = a) : Ev (fun k => poly_trim.f k l) (N.cl a) := by
  subst e; exact trim_ev l.length l rfl hb h
theorem canon_l0 (G : GOps N p m md ex lg) (l : List Int) (n i : Nat) (hi : i + n = l.length) (hb : l.length ≤ 1000000) (out : List Int) (ho : out.length = l.length) (he : El N out)
    (hd : ∀ j, N.tk (out.getD j 0) = if j < i then N.tk (l.getD j 0) else 0) :
    Ev (fun k => poly_Canon.l0 k out l (l.length : Int) (i : Int) (p : Int) (m : Int) md N.q ex lg) (N.cl (N.lk l), (p : Int), (m : Int), N.q) := by
  induction n generalizing i out with
  | zero =>
    refine Ev.succ ?_
    simp only [poly_Canon.l0]
    refine Ev.ifn (by omega) (Ev.bind (trim_ev' (a := N.lk l) (by omega) he (lk_ext fun j => ?_)) (Ev.now _))
    rw [hd j]
    by_cases hj : j < i
    · rw [if_pos hj]
    · rw [if_neg hj, getD_nat_lt l j (by omega), N.tk_zero]
  | succ n ih =>
    refine Ev.succ ?_
    simp only [poly_Canon.l0]
    refine Ev.ifp (by omega) ?_
    refine Ev.ifp (by omega) ?_
    refine Ev.ifp (by omega) ?_
    rw [rd_nat, Int.toNat_natCast]
    refine Ev.opt_bind (G.is_ _) ?_
    have ew : wrap64 ((i : Int) + 1) = ((i + 1 : Nat) : Int) := by rw [w64 (by omega)]; omega
    by_cases hx : 0 ≤ l.getD i 0 ∧ l.getD i 0 < N.q
    · refine Ev.ifp (by simpa using hx) ?_
      refine Ev.ifp (by omega) ?_
      rw [ew]
      refine ih (i + 1) (by omega) _ (by rw [List.length_set, ho]) (he.set i hx) fun j => ?_
      rw [rd_set _ _ _ _ (by omega)]
      by_cases e : i = j
      · subst e; rw [if_pos rfl, if_pos (by omega)]
      · rw [if_neg e, hd j]
        by_cases h1 : j < i
        · rw [if_pos h1, if_pos (by omega)]
        · rw [if_neg h1, if_neg (by omega)]
    · refine Ev.ifn (by simpa using hx) ?_
      rw [ew]
      refine ih (i + 1) (by omega) _ ho he fun j => ?_
      rw [hd j]
      by_cases e : i = j
      · subst e; rw [if_neg (by omega), if_pos (by omega)]
        exact ((N.tk_eq_zero).2 (if_neg hx)).symm
      · by_cases h1 : j < i
        · rw [if_pos h1, if_pos (by omega)]
        · rw [if_neg h1, if_neg (by omega)]
theorem canon_ev (G : GOps N p m md ex lg) (l : List Int) (hb : l.length ≤ 1000000) :
    Ev (fun k => poly_Canon.f k (p : Int) (m : Int) md N.q ex lg l) (N.cl (N.lk l), (p : Int), (m : Int), N.q) := by
  unfold poly_Canon.f
  refine Ev.ifp (by omega) (Ev.ifp (by omega) ?_)
  rw [Int.toNat_natCast]
  refine canon_l0 G l l.length 0 (by omega) hb _ (by simp) (El.zeros _) fun j => ?_
  rw [getD_zeros, if_neg (by omega), N.tk_zero]
theorem deg_ev (G : GOps N p m md ex lg) (l : List Int) (hb : l.length ≤ 1000000) : Ev (fun k => poly_Degree.f k (p : Int) (m : Int) md N.q ex lg l) (((N.cl (N.lk l)).length : Int) - 1, (p : Int), (m : Int), N.q) := by
  unfold poly_Degree.f
  have := N.cl_length_le (N.lk_lt l)
  refine Ev.bind (canon_ev G l hb) ?_
  dsimp only
  exact Ev.val (by rw [w64 (by omega)])
theorem mx_nat (a b : Nat) : mx (a : Int) (b : Int) = ((max a b : Nat) : Int) := by unfold mx; split <;> omega
theorem po_lk (l : List Int) : S.Po (N.lk l) := N.po_lk l
theorem cl_le (l : List Int) : (N.cl (N.lk l)).length ≤ l.length := N.cl_length_le (N.lk_lt l)
theorem combine_l1 (G : GOps N p m md ex lg) (c : Int) (b : List Int) (a0 : S K) (n i : Nat) (hi : i + n = b.length) (out : List Int) (ho : b.length ≤ out.length) (hb : out.length ≤ 1000000) (he : El N out)
    (hd : ∀ j, N.tk (out.getD j 0) = if j < i then a0 j + N.tk c * N.tk (b.getD j 0) else a0 j) :
    Ev (fun k => poly_combine.l1 k c out b (b.length : Int) (i : Int) (p : Int) (m : Int) md N.q ex lg) (N.cl (a0 + S.C (N.tk c) * N.lk b), (p : Int), (m : Int), N.q) := by
  induction n generalizing i out with
  | zero =>
    have e : N.lk out = a0 + S.C (N.tk c) * N.lk b := by
      ext j
      rw [S.add_at, S.C_mul_at, N.lk_at, N.lk_at, hd j]
      by_cases hj : j < i
      · rw [if_pos hj]
      · rw [if_neg hj, getD_nat_lt b j (by omega), N.tk_zero, mul_zero, add_zero]
    refine Ev.succ ?_
    simp only [poly_combine.l1]
    exact Ev.ifn (by omega) (Ev.bind (trim_ev' hb he e) (Ev.now _))
  | succ n ih =>
    refine Ev.succ ?_
    simp only [poly_combine.l1]
    refine Ev.ifp (by omega) ?_
    refine Ev.ifp (by omega) ?_
    refine Ev.ifp (by omega) ?_
    refine Ev.ifp (by omega) ?_
    rw [rd_nat, rd_nat, Int.toNat_natCast]
    refine Ev.opt_bind (G.mul _ _) (Ev.bind (G.add _ _) ?_)
    have ew : wrap64 ((i : Int) + 1) = ((i + 1 : Nat) : Int) := by rw [w64 (by omega)]; omega
    rw [ew]; clear ew
    refine ih (i + 1) (by omega) _ (by rw [List.length_set]; exact ho) (by rw [List.length_set]; exact hb) (he.set i (N.nm_range _)) fun j => ?_
    rw [rd_set _ _ _ _ (by omega)]
    by_cases e : i = j
    · subst e; rw [if_pos rfl, if_pos (by omega), N.tk_nm, N.tk_nm, hd i, if_neg (by omega)]
    · rw [if_neg e, hd j]
      by_cases h1 : j < i
      · rw [if_pos h1, if_pos (by omega)]
      · rw [if_neg h1, if_neg (by omega)]
theorem combine_l0 (G : GOps N p m md ex lg) (c : Int) (a b : List Int) (n i : Nat) (hi : i + n = a.length) (out : List Int) (ho : out.length = max a.length b.length) (hb : out.length ≤ 1000000) (he : El N out)
    (hd : ∀ j, N.tk (out.getD j 0) = if j < i then N.tk (a.getD j 0) else 0) :
    Ev (fun k => poly_combine.l0 k c b out a (a.length : Int) (i : Int) (p : Int) (m : Int) md N.q ex lg) (N.cl (N.lk a + S.C (N.tk c) * N.lk b), (p : Int), (m : Int), N.q) := by
  induction n generalizing i out with
  | zero =>
    refine Ev.succ ?_
    simp only [poly_combine.l0]
    refine Ev.ifn (by omega) ?_
    refine combine_l1 G c b (N.lk a) b.length 0 (Nat.zero_add _) out (by omega) hb he fun j => ?_
    rw [if_neg (by omega), hd j, N.lk_at]
    by_cases hj : j < i
    · rw [if_pos hj]
    · rw [if_neg hj, getD_nat_lt a j (by omega), N.tk_zero]
  | succ n ih =>
    refine Ev.succ ?_
    simp only [poly_combine.l0]
    refine Ev.ifp (by omega) ?_
    refine Ev.ifp (by omega) ?_
    refine Ev.ifp (by omega) ?_
    rw [rd_nat, Int.toNat_natCast]
    refine Ev.bind (G.add _ _) ?_
    refine Ev.ifp (by omega) ?_
    have ew : wrap64 ((i : Int) + 1) = ((i + 1 : Nat) : Int) := by rw [w64 (by omega)]; omega
    rw [ew]; clear ew
    refine ih (i + 1) (by omega) _ (by rw [List.length_set]; exact ho) (by rw [List.length_set]; exact hb) (he.set i (N.nm_range _)) fun j => ?_
    rw [rd_set _ _ _ _ (by omega)]
    by_cases e : i = j
    · subst e; rw [if_pos rfl, if_pos (by omega), N.tk_nm, N.tk_zero, add_zero]
    · rw [if_neg e, hd j]
      by_cases h1 : j < i
      · rw [if_pos h1, if_pos (by omega)]
      · rw [if_neg h1, if_neg (by omega)]
theorem combine_ev (G : GOps N p m md ex lg) (a : List Int) (c : Int) (b : List Int) (ha : a.length ≤ 1000000) (hb : b.length ≤ 1000000) :
    Ev (fun k => poly_combine.f k (p : Int) (m : Int) md N.q ex lg a c b) (N.cl (N.lk a + S.C (N.tk c) * N.lk b), (p : Int), (m : Int), N.q) := by
  unfold poly_combine.f
  rw [mx_nat]
  refine Ev.ifp (by omega) (Ev.ifp (by omega) ?_)
  rw [Int.toNat_natCast]
  refine combine_l0 G c a b _ 0 (Nat.zero_add _) _ (by simp) (by simp; omega) (El.zeros _) fun j => ?_
  rw [getD_zeros, if_neg (by omega), N.tk_zero]
theorem subp_ev (G : GOps N p m md ex lg) (a b : List Int) (ha : a.length ≤ 1000000) (hb : b.length ≤ 1000000) :
    Ev (fun k => poly_Sub.f k (p : Int) (m : Int) md N.q ex lg a b) (N.cl (N.lk a - N.lk b), (p : Int), (m : Int), N.q) := by
  unfold poly_Sub.f
  have e : N.lk a + S.C (N.tk (N.nm (-N.tk 1))) * N.lk b = N.lk a - N.lk b := by
    rw [N.tk_nm, N.tk_one, S.C_neg, S.C_1, neg_mul, one_mul]; rfl
  rw [← e]
  exact Ev.bind (G.neg 1) (Ev.bind (combine_ev G a (N.nm (-N.tk 1)) b ha hb) (Ev.now _))
theorem gscale_l0 (G : GOps N p m md ex lg) (c : Int) (a : List Int) (hb : a.length ≤ 1000000) (n i : Nat) (hi : i + n = a.length) (out : List Int) (ho : out.length = a.length) (he : El N out)
    (hd : ∀ j, N.tk (out.getD j 0) = if j < i then N.tk c * N.tk (a.getD j 0) else 0) :
    ∃ r : List Int, Ev (fun k => field_GF_Scale.l0 k c out a (a.length : Int) (i : Int) (p : Int) (m : Int) md N.q ex lg) (r, (p : Int), (m : Int), N.q) ∧ r.length = a.length ∧ El N r ∧ N.lk r = S.C (N.tk c) * N.lk a := by
  induction n generalizing i out with
  | zero =>
    refine ⟨out, Ev.succ ?_, ho, he, ?_⟩
    · simp only [field_GF_Scale.l0]
      exact Ev.ifn (by omega) (Ev.now _)
    · ext j
      rw [S.C_mul_at, N.lk_at, N.lk_at, hd j]
      by_cases hj : j < i
      · rw [if_pos hj]
      · rw [if_neg hj, getD_nat_lt a j (by omega), N.tk_zero, mul_zero]
  | succ n ih =>
    obtain ⟨r, hr, h1, h2, h3⟩ := ih (i + 1) (by omega) (out.set i (N.nm (N.tk c * N.tk (a.getD i 0)))) (by rw [List.length_set, ho]) (he.set i (N.nm_range _)) fun j => by
      rw [rd_set _ _ _ _ (by omega)]
      by_cases e : i = j
      · subst e; rw [if_pos rfl, if_pos (by omega), N.tk_nm]
      · rw [if_neg e, hd j]
        by_cases h1 : j < i
        · rw [if_pos h1, if_pos (by omega)]
        · rw [if_neg h1, if_neg (by omega)]
    refine ⟨r, Ev.succ ?_, h1, h2, h3⟩
    simp only [field_GF_Scale.l0]
    refine Ev.ifp (by omega) ?_
    refine Ev.ifp (by omega) ?_
    refine Ev.ifp (by omega) ?_
    rw [rd_nat, Int.toNat_natCast]
    refine Ev.opt_bind (G.mul _ _) ?_
    refine Ev.ifp (by omega) ?_
    have ew : wrap64 ((i : Int) + 1) = ((i + 1 : Nat) : Int) := by rw [w64 (by omega)]; omega
    rw [ew]; exact hr
theorem gscale_ev (G : GOps N p m md ex lg) (c : Int) (a : List Int) (hb : a.length ≤ 1000000) :
    ∃ r : List Int, Ev (fun k => field_GF_Scale.f k (p : Int) (m : Int) md N.q ex lg c a) (r, (p : Int), (m : Int), N.q) ∧ r.length = a.length ∧ El N r ∧ N.lk r = S.C (N.tk c) * N.lk a := by
  obtain ⟨r, hr, h⟩ := gscale_l0 G c a hb a.length 0 (Nat.zero_add _) (List.replicate a.length 0) (by simp) (El.zeros _) fun j => by
    rw [getD_zeros, if_neg (by omega), N.tk_zero]
  refine ⟨r, ?_, h⟩
  unfold field_GF_Scale.f
  refine Ev.ifp (by omega) (Ev.ifp (by omega) ?_)
  rw [Int.toNat_natCast]; exact hr
theorem scale_ev (G : GOps N p m md ex lg) (c : Int) (a : List Int) (hb : a.length ≤ 1000000) :
    Ev (fun k => poly_Scale.f k (p : Int) (m : Int) md N.q ex lg c a) (N.cl (S.C (N.tk c) * N.lk a), (p : Int), (m : Int), N.q) := by
  obtain ⟨r, hr, h1, h2, h3⟩ := gscale_ev G c a hb
  unfold poly_Scale.f
  refine Ev.bind hr ?_
  dsimp only
  exact Ev.bind (trim_ev' (by omega) h2 h3) (Ev.now _)
def tlk (N : Nums K) (l : List Int) (j : Nat) : S K := S.pw j * N.lk (l.drop j)
theorem tlk_step (l : List Int) (j : Nat) (h : j < l.length) : tlk N l j = S.C (N.tk (l.getD j 0)) * S.pw j + tlk N l (j + 1) := by
  unfold tlk
  rw [drop_getD l j h, N.lk_cons, S.pw_succ]
  exact ring_of [S.pw j, S.C (N.tk (l.getD j 0)), S.X, N.lk (l.drop (j + 1))] (by decide +kernel)
theorem tlk_end (l : List Int) : tlk N l l.length = 0 := by unfold tlk; rw [List.drop_length, N.lk_nil, mul_zero]
theorem tlk_zero (l : List Int) : tlk N l 0 = N.lk l := by unfold tlk; rw [List.drop_zero, S.pw_zero, one_mul]
theorem product_l1 (G : GOps N p m md ex lg) (a b : List Int) (i : Nat) (hi : i < a.length) (n j : Nat) (hj : j + n = b.length) (c : List Int) (hc : a.length + b.length = c.length + 1) (hb : c.length ≤ 1000000) (he : El N c) :
    ∃ c' : List Int, c'.length = c.length ∧ El N c' ∧ N.lk c' = N.lk c + S.C (N.tk (a.getD i 0)) * (S.pw i * tlk N b j) ∧
      ∀ r, Ev (fun k => poly_product.l0 k b c' a (a.length : Int) ((i + 1 : Nat) : Int) (p : Int) (m : Int) md N.q ex lg) r →
        Ev (fun k => poly_product.l1 k b c (i : Int) (a.getD i 0) a (a.length : Int) (i : Int) b (b.length : Int) (j : Int) (p : Int) (m : Int) md N.q ex lg) r := by
  induction n generalizing j c with
  | zero =>
    refine ⟨c, rfl, he, ?_, fun r hr => Ev.succ ?_⟩
    · rw [show j = b.length from by omega, tlk_end, mul_zero, mul_zero, add_zero]
    · simp only [poly_product.l1]
      refine Ev.ifn (by omega) ?_
      rw [w64 (by omega)]; exact hr
  | succ n ih =>
    obtain ⟨c', hc', he', ec, hev⟩ := ih (j + 1) (by omega) (c.set (i + j) (N.nm (N.tk (c.getD (i + j) 0) + N.tk (N.nm (N.tk (a.getD i 0) * N.tk (b.getD j 0)))))) (by rw [List.length_set]; exact hc) (by rw [List.length_set]; exact hb) (he.set _ (N.nm_range _))
    refine ⟨c', by rw [hc', List.length_set], he', ?_, fun r hr => Ev.succ ?_⟩
    · rw [ec, N.lk_set _ _ _ (by omega), tlk_step b j (by omega), N.tk_nm, N.tk_nm]
      have e6 : N.tk (c.getD (i + j) 0) + N.tk (a.getD i 0) * N.tk (b.getD j 0) - N.tk (c.getD (i + j) 0) = N.tk (a.getD i 0) * N.tk (b.getD j 0) :=
        ring_of [N.tk (c.getD (i + j) 0), N.tk (a.getD i 0), N.tk (b.getD j 0)] (by decide +kernel)
      rw [e6, S.C_mul, S.pw_add]
      exact ring_of [N.lk c, S.C (N.tk (a.getD i 0)), S.C (N.tk (b.getD j 0)), S.pw i, S.pw j, tlk N b (j + 1)] (by decide +kernel)
    · simp only [poly_product.l1]
      have ew : wrap64 ((i : Int) + (j : Int)) = ((i + j : Nat) : Int) := by rw [w64 (by omega)]; omega
      rw [ew, rd_nat, rd_nat, Int.toNat_natCast]; clear ew
      refine Ev.ifp (by omega) ?_
      refine Ev.ifp (by omega) ?_
      refine Ev.ifp (by omega) ?_
      refine Ev.ifp (by omega) ?_
      refine Ev.ifp (by omega) ?_
      refine Ev.opt_bind (G.mul _ _) (Ev.bind (G.add _ _) ?_)
      rw [w64 (by omega)]
      exact hev r hr
theorem product_l0 (G : GOps N p m md ex lg) (a b : List Int) (n i : Nat) (hi : i + n = a.length) (c : List Int) (hc : a.length + b.length = c.length + 1) (hb : c.length ≤ 1000000) (he : El N c) :
    ∃ r : List Int, Ev (fun k => poly_product.l0 k b c a (a.length : Int) (i : Int) (p : Int) (m : Int) md N.q ex lg) (r, (p : Int), (m : Int), N.q) ∧ r.length = c.length ∧ El N r ∧ N.lk r = N.lk c + tlk N a i * N.lk b := by
  induction n generalizing i c with
  | zero =>
    refine ⟨c, Ev.succ ?_, rfl, he, by rw [show i = a.length from by omega, tlk_end, zero_mul, add_zero]⟩
    simp only [poly_product.l0]
    exact Ev.ifn (by omega) (Ev.now _)
  | succ n ih =>
    obtain ⟨c1, hc1, he1, ec1, hev1⟩ := product_l1 G a b i (by omega) b.length 0 (by omega) c hc hb he
    obtain ⟨r, hr, h1, h2, h3⟩ := ih (i + 1) (by omega) c1 (by omega) (by omega) he1
    refine ⟨r, Ev.succ ?_, by omega, h2, ?_⟩
    · simp only [poly_product.l0]
      refine Ev.ifp (by omega) ?_
      refine Ev.ifp (by omega) ?_
      refine Ev.ifp (by omega) ?_
      rw [rd_nat]
      exact hev1 _ hr
    · rw [h3, ec1, tlk_zero, tlk_step a i (by omega)]
      exact ring_of [N.lk c, S.C (N.tk (a.getD i 0)), S.pw i, N.lk b, tlk N a (i + 1)] (by decide +kernel)
theorem product_ev (G : GOps N p m md ex lg) (a b : List Int) (ha : a.length ≤ 400000) (hb : b.length ≤ 400000) :
    Ev (fun k => poly_product.f k (p : Int) (m : Int) md N.q ex lg a b) (N.cl (N.lk a * N.lk b), (p : Int), (m : Int), N.q) := by
  have h1 := cl_le (N := N) a
  have h2 := cl_le (N := N) b
  unfold poly_product.f
  refine Ev.bind (canon_ev G a (by omega)) (Ev.bind (canon_ev G b (by omega)) ?_)
  have hz : ∀ u v : List Int, (N.lk a = 0 ∨ N.lk b = 0) → Ev (fun k => poly_product.j0 k u v true (p : Int) (m : Int) md N.q ex lg) (N.cl (N.lk a * N.lk b), (p : Int), (m : Int), N.q) := by
    intro u v h
    have e : N.cl (N.lk a * N.lk b) = [] := by
      rcases h with h | h
      · rw [h, zero_mul, N.cl_zero]
      · rw [h, mul_zero, N.cl_zero]
    rw [e]
    refine Ev.succ ?_
    simp only [poly_product.j0]
    exact Ev.ifp trivial (Ev.now _)
  dsimp only
  by_cases ha0 : N.lk a = 0
  · refine Ev.ifp (by rw [ha0, N.cl_zero]; rfl) (hz _ _ (.inl ha0))
  · have hla : (N.cl (N.lk a)).length ≠ 0 := fun e => ha0 ((N.cl_nil (N.po_lk a)).1 (List.length_eq_zero_iff.1 e))
    refine Ev.ifn (by omega) ?_
    by_cases hb0 : N.lk b = 0
    · have := hz (N.cl (N.lk a)) (N.cl (N.lk b)) (.inr hb0)
      rw [show (((N.cl (N.lk b)).length : Int) == 0) = true from by rw [hb0, N.cl_zero]; rfl]
      exact this
    · have hlb : (N.cl (N.lk b)).length ≠ 0 := fun e => hb0 ((N.cl_nil (N.po_lk b)).1 (List.length_eq_zero_iff.1 e))
      have ed := (S.Deg.mul (N.deg_cl (N.po_lk a) ha0) (N.deg_cl (N.po_lk b) hb0))
      obtain ⟨r, hr, hl, hel, e⟩ := product_l0 G (N.cl (N.lk a)) (N.cl (N.lk b)) (N.cl (N.lk a)).length 0 (Nat.zero_add _) (List.replicate ((N.cl (N.lk a)).length + (N.cl (N.lk b)).length - 1) 0) (by simp; omega) (by simp; omega) (El.zeros _)
      rw [N.lk_zeros, tlk_zero, zero_add, N.lk_cl (N.po_lk a), N.lk_cl (N.po_lk b)] at e
      rw [List.length_replicate] at hl
      have er : N.cl (N.lk a * N.lk b) = r := by
        refine N.cl_of ⟨hel, fun _ => ?_⟩ e
        rw [hl, show (N.cl (N.lk a)).length + (N.cl (N.lk b)).length - 1 - 1 = (N.cl (N.lk a)).length - 1 + ((N.cl (N.lk b)).length - 1) from by omega]
        intro hz0
        apply ed.2
        rw [← e, N.lk_at, hz0, N.tk_zero]
      rw [er, show (((N.cl (N.lk b)).length : Int) == 0) = false from by rw [beq_eq_false_iff_ne]; omega]
      refine Ev.succ ?_
      simp only [poly_product.j0]
      refine Ev.ifn (by simp) ?_
      rw [w64 (n := ((N.cl (N.lk a)).length : Int) + ((N.cl (N.lk b)).length : Int)) (by omega), w64 (by omega)]
      refine Ev.ifp (by omega) (Ev.ifp (by omega) ?_)
      rw [show (((N.cl (N.lk a)).length : Int) + ((N.cl (N.lk b)).length : Int) - 1).toNat = (N.cl (N.lk a)).length + (N.cl (N.lk b)).length - 1 from by omega]
      exact hr
end
end Go.Proofs.Ytkdakjlopheefaa.PA
end
section
namespace Go.Proofs.Ytkdakjlopheefaa.PA
open Go.RowKit Go.Proofs.YtkdakjlopheefaaW.PrintWords Go.Proofs.YtkdakjlopheefaaW.PrintLast Go.Proofs.YtkdakjlopheefaaW.PrintMore
open Alg
set_option linter.unusedVariables false
section
variable {K : Type} [Fld K] {N : Nums K} {p m : Nat} {md ex lg : List Int}
theorem cl_one : N.cl 1 = [1] := by
  have := N.q2
  refine N.cl_of ⟨fun x hx => ?_, fun _ => ?_⟩ N.lk_one
  · obtain rfl := List.mem_singleton.1 hx; omega
  · simp
theorem divmod_l1 (G : GOps N p m md ex lg) (b quo : List Int) (inv a : Int) (nn : Nat) (n j : Nat) (hj : j + n = b.length) (c : List Int) (hc : nn + b.length ≤ c.length) (hb : c.length ≤ 1000000) (he : El N c) :
    ∃ c' : List Int, c'.length = c.length ∧ El N c' ∧ N.lk c' = N.lk c - S.C (N.tk a) * (S.pw nn * tlk N b j) ∧
      ∀ r, Ev (fun k => poly_DivMod.l0 k b quo c' inv ((nn : Int) - 1) (p : Int) (m : Int) md N.q ex lg) r →
        Ev (fun k => poly_DivMod.l1 k b quo c inv (nn : Int) a b (b.length : Int) (j : Int) (p : Int) (m : Int) md N.q ex lg) r := by
  induction n generalizing j c with
  | zero =>
    refine ⟨c, rfl, he, ?_, fun r hr => Ev.succ ?_⟩
    · rw [show j = b.length from by omega, tlk_end, mul_zero, mul_zero, sub_eq, neg_zero, add_zero]
    · simp only [poly_DivMod.l1]
      refine Ev.ifn (by omega) ?_
      rw [w64 (by omega)]; exact hr
  | succ n ih =>
    obtain ⟨c', hc', he', ec, hev⟩ := ih (j + 1) (by omega) (c.set (nn + j) (N.nm (N.tk (c.getD (nn + j) 0) - N.tk (N.nm (N.tk a * N.tk (b.getD j 0)))))) (by rw [List.length_set]; exact hc) (by rw [List.length_set]; exact hb) (he.set _ (N.nm_range _))
    refine ⟨c', by rw [hc', List.length_set], he', ?_, fun r hr => Ev.succ ?_⟩
    · rw [ec, N.lk_set _ _ _ (by omega), tlk_step b j (by omega), N.tk_nm, N.tk_nm]
      have e6 : N.tk (c.getD (nn + j) 0) - N.tk a * N.tk (b.getD j 0) - N.tk (c.getD (nn + j) 0) = -(N.tk a * N.tk (b.getD j 0)) :=
        ring_of [N.tk (c.getD (nn + j) 0), N.tk a, N.tk (b.getD j 0)] (by decide +kernel)
      rw [e6, S.C_neg, S.C_mul, S.pw_add]
      exact ring_of [N.lk c, S.C (N.tk a), S.C (N.tk (b.getD j 0)), S.pw nn, S.pw j, tlk N b (j + 1)] (by decide +kernel)
    · simp only [poly_DivMod.l1]
      have ew : wrap64 ((nn : Int) + (j : Int)) = ((nn + j : Nat) : Int) := by rw [w64 (by omega)]; omega
      rw [ew, rd_nat, rd_nat, Int.toNat_natCast]; clear ew
      refine Ev.ifp (by omega) (Ev.ifp (by omega) (Ev.ifp (by omega) (Ev.ifp (by omega) (Ev.ifp (by omega) ?_))))
      refine Ev.opt_bind (G.mul _ _) (Ev.bind (G.sub _ _) ?_)
      rw [w64 (by omega)]
      exact hev r hr
theorem divmod_l0 (G : GOps N p m md ex lg) (b : List Int) (e : Nat) (hbl : b.length = e + 1) (hbd : S.Deg (N.lk b) e) (iv : Int) (hiv : N.tk iv = Alg.inv (N.lk b e)) (n : Nat) (c quo : List Int) (hq : n ≤ quo.length) (hql : quo.length ≤ 1000000) (hc : n + e ≤ c.length) (hb : c.length ≤ 1000000) (he : El N c) (heq : El N quo)
    (hlt : S.Lt (N.lk c) (n + e)) (hz : ∀ j, j < n → quo.getD j 0 = 0) (i : Int) (hi : i = (n : Int) - 1) :
    Ev (fun k => poly_DivMod.l0 k b quo c iv i (p : Int) (m : Int) md N.q ex lg) (N.cl (N.lk quo + S.quo (N.lk c) (N.lk b)), N.cl (S.rem (N.lk c) (N.lk b)), 0, (p : Int), (m : Int), N.q) := by
  induction n generalizing c quo i with
  | zero =>
    have hs := S.rem_small hbd (hlt.mono (by omega))
    rw [hs.1, hs.2, add_zero]
    refine Ev.succ ?_
    simp only [poly_DivMod.l0]
    refine Ev.ifn (by omega) (Ev.bind (trim_ev' (by omega) heq rfl) (Ev.bind (trim_ev' hb he rfl) (Ev.now _)))
  | succ n ih =>
    obtain rfl : i = (n : Int) := by omega
    refine Ev.succ ?_
    simp only [poly_DivMod.l0]
    have ew : wrap64 (wrap64 ((n : Int) + (b.length : Int)) - 1) = ((n + e : Nat) : Int) := by rw [w64 (n := (n : Int) + (b.length : Int)) (by omega), w64 (by omega)]; omega
    rw [ew, rd_nat]; clear ew
    refine Ev.ifp (by omega) (Ev.ifp (by omega) (Ev.ifp (by omega) (Ev.opt_bind (G.mul _ _) (Ev.ifp (by omega) (Ev.ifp (by omega) ?_)))))
    dsimp only
    rw [Int.toNat_natCast]
    obtain ⟨c', hc', he', ec, hev⟩ := divmod_l1 G b (quo.set n (N.nm (N.tk (c.getD (n + e) 0) * N.tk iv))) iv (N.nm (N.tk (c.getD (n + e) 0) * N.tk iv)) n b.length 0 (Nat.zero_add _) c (by omega) hb he
    refine hev _ ?_
    rw [tlk_zero, N.tk_nm, hiv] at ec
    have hlt' : S.Lt (N.lk c') (n + e) := by
      intro j hj
      rw [ec, S.sub_at, S.C_mul_at]
      by_cases hje : j = n + e
      · subst hje
        rw [S.pw_mul_add, ← N.lk_at, mul_assoc, inv_mul hbd.2, mul_one]; exact sub_self _
      · have h1 : N.lk c j = 0 := hlt j (by omega)
        have h2 : (S.pw n * N.lk b : S K) j = 0 := by rw [S.pw_mul_at, if_neg (by omega)]; exact hbd.1 _ (by omega)
        rw [h1, h2, mul_zero]; exact sub_self _
    have h1 := ih c' (quo.set n (N.nm (N.tk (c.getD (n + e) 0) * N.tk iv))) (by rw [List.length_set]; omega) (by rw [List.length_set]; exact hql) (by omega) (by omega) he' (heq.set _ (N.nm_range _)) hlt'
      (fun j hj => by rw [rd_set _ _ _ _ (by omega), if_neg (by omega)]; exact hz j (by omega)) ((n : Int) - 1) rfl
    have hlk : N.lk (quo.set n (N.nm (N.tk (c.getD (n + e) 0) * N.tk iv))) = N.lk quo + S.C (N.tk (c.getD (n + e) 0) * Alg.inv (N.lk b e)) * S.pw n := by
      rw [N.lk_set _ _ _ (by omega), hz n (by omega), N.tk_nm, N.tk_zero, hiv, sub_eq, neg_zero, add_zero]
    obtain ⟨g1, g2, g3⟩ := S.div_spec (N.po_lk c') hbd
    have hdiv := S.div_of (a := N.lk c) hbd (((S.Po.C (N.tk (c.getD (n + e) 0) * Alg.inv (N.lk b e))).mul (S.Po.pw n)).add g1) g2 (by
      have : N.lk c = N.lk c' + S.C (N.tk (c.getD (n + e) 0) * Alg.inv (N.lk b e)) * (S.pw n * N.lk b) := by
        rw [ec]; exact ring_of [N.lk c, S.C (N.tk (c.getD (n + e) 0) * Alg.inv (N.lk b e)), S.pw n, N.lk b] (by decide +kernel)
      rw [this]
      generalize N.lk c' = cc at *
      rw [g3]
      have e9 : S.quo (S.quo cc (N.lk b) * N.lk b + S.rem cc (N.lk b)) (N.lk b) = S.quo cc (N.lk b) := by rw [← g3]
      have e10 : S.rem (S.quo cc (N.lk b) * N.lk b + S.rem cc (N.lk b)) (N.lk b) = S.rem cc (N.lk b) := by rw [← g3]
      rw [e9, e10]
      exact ring_of [S.C (N.tk (c.getD (n + e) 0) * Alg.inv (N.lk b e)), S.pw n, N.lk b, S.quo cc (N.lk b), S.rem cc (N.lk b)] (by decide +kernel))
    rw [hdiv.1, hdiv.2, ← add_assoc, ← hlk]
    exact h1
theorem divmod_ev (G : GOps N p m md ex lg) (a b : List Int) (ha : a.length ≤ 1000000) (hb : b.length ≤ 1000000) (h : N.lk b ≠ 0) :
    Ev (fun k => poly_DivMod.f k (p : Int) (m : Int) md N.q ex lg a b) (N.cl (S.quo (N.lk a) (N.lk b)), N.cl (S.rem (N.lk a) (N.lk b)), 0, (p : Int), (m : Int), N.q) := by
  obtain ⟨e, hd⟩ := S.ex_deg (N.po_lk b) h
  have hbl := N.cl_deg hd
  have hla := cl_le (N := N) a
  have hlb := cl_le (N := N) b
  unfold poly_DivMod.f
  refine Ev.bind (canon_ev G a ha) (Ev.bind (canon_ev G b hb) ?_)
  dsimp only
  have e1 : wrap64 (((N.cl (N.lk b)).length : Int) - 1) = (e : Int) := by rw [w64 (by omega)]; omega
  rw [e1, rd_nat, N.cl_at (N.po_lk b)]
  refine Ev.ifn (by omega) (Ev.ifp (by omega) (Ev.ifp (by omega) (Ev.opt_bind (G.inv _ (by rw [N.tk_nm]; exact hd.2)) ?_)))
  dsimp only
  have e2 : wrap64 (((N.cl (N.lk a)).length : Int) - ((N.cl (N.lk b)).length : Int)) = ((N.cl (N.lk a)).length : Int) - (e + 1 : Nat) := by rw [w64 (by omega)]; omega
  rw [e2]
  have e3 : mx 0 (wrap64 (((N.cl (N.lk a)).length : Int) - (e + 1 : Nat) + 1)) = (((N.cl (N.lk a)).length - e : Nat) : Int) := by
    rw [w64 (by omega)]; unfold mx; split <;> omega
  rw [e3, Int.toNat_natCast]
  refine Ev.ifp (by omega) (Ev.ifp (by omega) ?_)
  clear e1 e2 e3
  have hbd : S.Deg (N.lk (N.cl (N.lk b))) e := by rw [N.lk_cl (N.po_lk b)]; exact hd
  have hlka : S.Lt (N.lk (N.cl (N.lk a))) ((N.cl (N.lk a)).length - e + e) := (N.lk_lt _).mono (by omega)
  by_cases hc : e ≤ (N.cl (N.lk a)).length
  · have := divmod_l0 G (N.cl (N.lk b)) e hbl hbd (N.nm (Alg.inv (N.tk (N.nm (N.lk b e))))) (by rw [N.tk_nm, N.tk_nm, N.lk_cl (N.po_lk b)]) ((N.cl (N.lk a)).length - e) (N.cl (N.lk a)) (List.replicate ((N.cl (N.lk a)).length - e) 0) (by simp) (by simp; omega) (by omega) (by omega) (El.cl (N.po_lk a)) (El.zeros _) hlka (fun j hj => getD_zeros _ _) (((N.cl (N.lk a)).length : Int) - (e + 1 : Nat)) (by omega)
    rw [N.lk_zeros, zero_add, N.lk_cl (N.po_lk a), N.lk_cl (N.po_lk b)] at this
    exact this
  · have hs := S.rem_small hd (show S.Lt (N.lk a) e from by have := N.cl_lt (N.po_lk a); exact this.mono (by omega))
    rw [hs.1, hs.2]
    refine Ev.succ ?_
    simp only [poly_DivMod.l0]
    refine Ev.ifn (by omega) (Ev.bind (trim_ev' (a := 0) (by simp; omega) (El.zeros _) (N.lk_zeros _)) (Ev.bind (trim_ev' (by omega) (El.cl (N.po_lk a)) (N.lk_cl (N.po_lk a))) (Ev.now _)))
end
end Go.Proofs.Ytkdakjlopheefaa.PA
end
section
namespace Go.Proofs.Ytkdakjlopheefaa.PA
open Go.RowKit Go.Proofs.YtkdakjlopheefaaW.PrintWords Go.Proofs.YtkdakjlopheefaaW.PrintLast Go.Proofs.YtkdakjlopheefaaW.PrintMore
open Alg
set_option linter.unusedVariables false
end Go.Proofs.Ytkdakjlopheefaa.PA
end
section
namespace Go.Proofs.Ytkdakjlopheefaa.PA
open Go.RowKit Go.Proofs.YtkdakjlopheefaaW.PrintWords Go.Proofs.YtkdakjlopheefaaW.PrintLast Go.Proofs.YtkdakjlopheefaaW.PrintMore
open Alg
set_option linter.unusedVariables false
end Go.Proofs.Ytkdakjlopheefaa.PA
end
section
namespace Go.Proofs.Ytkdakjlopheefaa.PA
open Alg Go.RowKit Go.Proofs.YtkdakjlopheefaaW.PrintWords Go.Proofs.YtkdakjlopheefaaW.PrintLast Go.Proofs.YtkdakjlopheefaaW.PrintMore
set_option linter.unusedVariables false
theorem Row.take {w : World} {g : Nat} {A : Option Addr} {c : Nat} {l : List Int} (h : Row w g A c l) (n : Nat) (hn : n ≤ l.length) : Row w g A c (l.take n) := by
  have hc := h.cp
  have e : (l.take n).length = n := by rw [List.length_take]; omega
  refine ⟨?_, by omega, fun ad e1 h2 => h.n ad e1 (by omega)⟩
  exact Kd.C_take h.C hn
def lowN (l : List Int) (r : Int) : Nat := if r < 0 then 0 else if r < l.length then r.toNat else l.length
theorem lowN_le (l : List Int) (r : Int) : lowN l r ≤ l.length := by
  unfold lowN
  split
  · omega
  split <;> omega
set_option maxHeartbeats 4000000 in
set_option maxRecDepth 100000 in
theorem low_a {w : World} {g : Nat} {A : Option Addr} {c : Nat} {l : List Int} {r : Int} (X : Row w g A c l) :
    Calls Try.prog 46 #[.slice A l.length c, .int .i64 r] w fun e w' => e = .returned (.slice A (l.take (lowN l r)).length c) ∧ w' = w := by
  have HC := Aside0.mk X.cp
  have e : (l.take (lowN l r)).length = lowN l r := by rw [List.length_take]; have := lowN_le l r; omega
  rw [e]
  clear e
  rcases Int.lt_or_le r 0 with c1 | c1
  · have e : lowN l r = 0 := by unfold lowN; rw [if_pos c1]
    rw [e]
    clear e
    have g1 : ¬ ((l.length : Int) < 0) := by omega
    go_enter Try.func46, Try.ntmps46
    go_wp2
    all_goals try (exfalso; have := HC.out; omega)
    all_goals
      go_ret
      refine ⟨?_, rfl⟩
      first
        | rfl
        | (rw [show l.length = 0 from by omega]; rfl)
  · rcases Int.lt_or_le r l.length with c2 | c2
    · have e : lowN l r = r.toNat := by unfold lowN; rw [if_neg (by omega), if_pos c2]
      rw [e]
      clear e
      have g1 : 0 ≤ r ∧ r ≤ (c : Int) := ⟨c1, by have := HC.out; omega⟩
      have g2 : ¬ ((l.length : Int) < r) := by omega
      have g3 : r ≤ (c : Int) := g1.2
      go_enter Try.func46, Try.ntmps46
      go_wp2
      all_goals try (exfalso; have := HC.out; omega)
      all_goals
        go_ret
        exact ⟨rfl, rfl⟩
    · have e : lowN l r = l.length := by unfold lowN; rw [if_neg (by omega), if_neg (by omega)]
      rw [e]
      clear e
      have g1 : 0 ≤ (l.length : Int) ∧ (l.length : Int) ≤ (c : Int) := ⟨by omega, by have := HC.out; omega⟩
      have g3 : (l.length : Int) ≤ (c : Int) := g1.2
      go_enter Try.func46, Try.ntmps46
      go_wp2
      all_goals try (exfalso; have := HC.out; omega)
      all_goals
        go_ret
        refine ⟨?_, rfl⟩
        first
          | rfl
          | (rw [show r.toNat = l.length from by omega]; rfl)
theorem low_w {w : World} {g : Nat} {A : Option Addr} {c : Nat} {l st : List Int} {r : Int} (X : Row w g A c l) (h : st = l.take (lowN l r)) :
    Calls Try.prog 46 #[.slice A l.length c, .int .i64 r] w fun e w' => e = .returned (.slice A st.length c) ∧ w' = w ∧ Row w g A c st := by
  subst h
  exact (low_a X).mono fun e w' he => ⟨he.1, he.2, X.take _ (lowN_le l r)⟩
end Go.Proofs.Ytkdakjlopheefaa.PA
end
section
namespace Go.Proofs.Ytkdakjlopheefaa.PA
open Alg Go.RowKit Go.Proofs.YtkdakjlopheefaaW.PrintWords Go.Proofs.YtkdakjlopheefaaW.PrintLast Go.Proofs.YtkdakjlopheefaaW.PrintMore
set_option linter.unusedVariables false
inductive EucTo (k : Nat) (P M : Int) (md : List Int) (q : Int) (ex lg : List Int) (bd : Int) : Nat → List Int → List Int → List Int → List Int → List Int → List Int → Prop
  | nil {a b s t : List Int} {dg : Int} : poly_Degree.f k P M md q ex lg b = some (dg, P, M, q) → -1 ≤ dg → dg ≤ 1000 → 2 * dg < bd → EucTo k P M md q ex lg bd 0 a b s t b t
  | step {n : Nat} {a b s t kq r pr s2 A' S' : List Int} {dg er : Int} : poly_Degree.f k P M md q ex lg b = some (dg, P, M, q) → -1 ≤ dg → dg ≤ 1000 → bd ≤ 2 * dg → poly_DivMod.f k P M md q ex lg a b = some (kq, r, er, P, M, q) → MulTo k P M md q ex lg [kq, t] [1] pr →
      poly_Sub.f k P M md q ex lg s pr = some (s2, P, M, q) → EucTo k P M md q ex lg bd n b r t s2 A' S' → EucTo k P M md q ex lg bd (n + 1) a b s t A' S'
set_option maxHeartbeats 4000000 in
set_option maxRecDepth 100000 in
theorem euclid_c {W0 w : World} {g : Nat} {P M q : Int} {md ex lg : List Int} (k : Nat) (Ap : Option Addr) (cp : Nat) (a : List Int) (Aq : Option Addr) (cq : Nat) (b : List Int) (bd : Int) (n : Nat) (A' S' : List Int) (h3 : EucTo k P M md q ex lg bd n a b [] [1] A' S')
    (S : St W0 w g P M md q ex lg) (Xp : Row w g Ap cp a) (Xq : Row w g Aq cq b) :
    Calls Try.prog 44 #[.pointer (some ⟨g, 0, none⟩), .slice Ap a.length cp, .slice Aq b.length cq, .int .i64 bd] w fun e w' => ∃ B0 d0 B1 d1, e = .returned (.tuple #[.slice B0 A'.length d0, .slice B1 S'.length d1]) ∧ Row w' g B0 d0 A' ∧ Row w' g B1 d1 S' ∧ St W0 w' g P M md q ex lg ∧ Stp w w' g := by
  have H3 := Aside0.mk h3
  clear h3
  go_enter Try.func44, Try.ntmps44
  go_wp2
  have Y1 := Aside0.mk ((Xp.alloc (.cells #[] 3)).alloc (.cells #[.int .i64 1] 3))
  have Y2 := Aside0.mk ((Xq.alloc (.cells #[] 3)).alloc (.cells #[.int .i64 1] 3))
  have Y3 := Aside0.mk ((S.lit [] 3 (by simp)).alloc (.cells #[.int .i64 1] 3))
  have Y4 := Aside0.mk (show Row ((w.alloc (.cells #[] 3)).alloc (.cells #[.int .i64 1] 3)) g (some ⟨w.heap.size + 1, 0, none⟩) 1 [1] from by
    have h := (S.alloc (.cells #[] 3)).lit [1] 3 (by simp)
    rw [show (w.alloc (.cells #[] 3)).heap.size = w.heap.size + 1 from Array.size_push ..] at h
    exact h)
  have T := Aside0.mk ((S.alloc (.cells #[] 3)).alloc (.cells #[.int .i64 1] 3))
  have K3 := Aside0.mk ((Stp.alloc w (.cells #[] 3) g).trans (Stp.alloc (w.alloc (.cells #[] 3)) (.cells #[.int .i64 1] 3) g))
  clear Xp Xq S
  go_loopg [1, 2, 9, 10] n (fun kq v1 v2 v9 v10 W => ∃ (a1 b1 s1 t1 : List Int) (Aa Ab As At : Option Addr) (ca cb cs ct : Nat), v1 = .slice Aa a1.length ca ∧ v2 = .slice Ab b1.length cb ∧ v10 = .slice As s1.length cs ∧ v9 = .slice At t1.length ct ∧ Aside0 (EucTo k P M md q ex lg bd kq a1 b1 s1 t1 A' S') ∧
    Aside0 (Row W g Aa ca a1) ∧ Aside0 (Row W g Ab cb b1) ∧ Aside0 (Row W g As cs s1) ∧ Aside0 (Row W g At ct t1) ∧ Aside0 (St W0 W g P M md q ex lg) ∧ Aside0 (Stp w W g))
  case atStart => exact ⟨a, b, [], [1], Ap, Aq, _, _, cp, cq, 0, 1, rfl, rfl, rfl, rfl, H3, Y1, Y2, Y3, Y4, T, K3⟩
  case round =>
    clear Y1 Y2 Y3 Y4 T K3 H3
    obtain ⟨a1, b1, s1, t1, Aa, Ab, As, At, ca, cb, cs, ct, rfl, rfl, rfl, rfl, HE, Ya, Yb, Ys, Yt, T, K⟩ := hrel
    have Xa := Ya.out
    have Xb := Yb.out
    have Xs := Ys.out
    have Xt := Yt.out
    have S := T.out
    have KS := K.out
    clear Ya Yb Ys Yt T K
    cases gk with
    | zero =>
      have HM := HE.out
      clear HE
      cases HM with
      | nil hd d1 d2 d3 =>
        rename_i dg
        have G1 := Aside0.mk hd
        have e1 : IntKind.i64.wrap (2 * dg) = 2 * dg := by rw [i64_w, w64 (by omega)]
        have e2 : decide (bd ≤ 2 * dg) = false := decide_eq_false (by omega)
        have e3 : ¬ (bd ≤ 2 * dg) := by omega
        have e4 : 2 * dg < bd := d3
        clear hd d1 d2 d3
        go_wp2_with fail
        refine (poly_Degree.w k S Xb G1.out).mono ?_
        rintro e w5 ⟨rfl, S2, hK⟩
        replace Xb := Xb.step hK
        replace Xt := Xt.step hK
        replace KS := KS.trans hK
        go_wp2
        go_ret2
        exact ⟨_, _, _, _, rfl, Xb, Xt, S2, KS⟩
    | succ n' =>
      have HM := HE.out
      clear HE
      cases HM with
      | step hg d1 d2 d3 hd hp hs hr =>
        rename_i kq1 r1 pr1 s21 dg er1
        have G0 := Aside0.mk hg
        have G1 := Aside0.mk hd
        have G2 := Aside0.mk hp
        have G3 := Aside0.mk hs
        have G4 := Aside0.mk hr
        have e1 : IntKind.i64.wrap (2 * dg) = 2 * dg := by rw [i64_w, w64 (by omega)]
        have e2 : decide (bd ≤ 2 * dg) = true := decide_eq_true d3
        have e3 : bd ≤ 2 * dg := d3
        clear hg hd hp hs hr d1 d2 d3
        go_wp2_with fail
        refine (poly_Degree.w k S Xb G0.out).mono ?_
        rintro e w5 ⟨rfl, S2, hK⟩
        replace Xa := Xa.step hK
        replace Xb := Xb.step hK
        replace Xs := Xs.step hK
        replace Xt := Xt.step hK
        replace KS := KS.trans hK
        clear hK S
        have S := S2
        clear S2
        go_wp2_with fail
        refine (poly_DivMod.w k S Xa Xb G1.out).mono ?_
        rintro e w6 ⟨Bk, dk, Br, dr, rfl, Xk, Xr, S2, hK⟩
        replace Xb := Xb.step hK
        replace Xs := Xs.step hK
        replace Xt := Xt.step hK
        replace KS := KS.trans hK
        clear hK S Xa e1 e2 e3
        have S := S2
        clear S2
        go_wp2_with fail
        refine (Mul_w k S [(Bk, dk, kq1), (At, ct, t1)] _ (by simp) (fun x hx => by rcases List.mem_cons.1 hx with rfl | hx; exact Xk; rcases List.mem_cons.1 hx with rfl | hx; exact Xt; exact absurd hx List.not_mem_nil) G2.out).mono ?_
        rintro e w7 ⟨A6, c6, rfl, X6, S2, hK⟩
        replace Xb := Xb.step hK
        replace Xr := Xr.step hK
        replace Xs := Xs.step hK
        replace Xt := Xt.step hK
        replace KS := KS.trans hK
        clear hK S Xk
        have S := S2
        clear S2
        go_wp2_with fail
        refine (poly_Sub.w k S Xs X6 G3.out).mono ?_
        rintro e w8 ⟨A7, c7, rfl, X7, S2, hK⟩
        replace Xb := Xb.step hK
        replace Xr := Xr.step hK
        replace Xt := Xt.step hK
        replace KS := KS.trans hK
        clear hK S Xs
        have S := S2
        clear S2
        go_wp2
        go_roundg n'
        case measure => omega
        case rel => exact ⟨b1, r1, t1, s21, Ab, Br, At, A7, cb, dr, ct, c7, rfl, rfl, rfl, rfl, G4, ⟨Xb⟩, ⟨Xr⟩, ⟨Xt⟩, ⟨X7⟩, ⟨S⟩, ⟨KS⟩⟩
end Go.Proofs.Ytkdakjlopheefaa.PA
end
section
namespace Go.Proofs.Ytkdakjlopheefaa.PA
open Alg Go.RowKit Go.Proofs.YtkdakjlopheefaaW.PrintWords Go.Proofs.YtkdakjlopheefaaW.PrintLast Go.Proofs.YtkdakjlopheefaaW.PrintMore
set_option linter.unusedVariables false
def SvT (k : Nat) (P M : Int) (md : List Int) (q : Int) (ex lg A' S' lo ev : List Int) (e : Int) : Prop :=
  (rd S' 0 = 0 ∧ lo = [] ∧ ev = [] ∧ e = 12) ∨
  (∃ x iv iv2 : Int, rd S' 0 = x ∧ x ≠ 0 ∧ field_GF_Inv.f P M md q ex lg x = some (iv, iv2, P, M, q) ∧ poly_Scale.f k P M md q ex lg iv S' = some (lo, P, M, q) ∧ poly_Scale.f k P M md q ex lg iv A' = some (ev, P, M, q) ∧ e = 0)
theorem addr_zero (a : Addr) : a.add 0 = a := by
  unfold Addr.add
  split <;> simp_all
theorem Row.none {w : World} {g : Nat} : Row w g none 0 [] := ⟨Kd.C_nil _ _, Nat.le_refl _, fun ad e => by cases e⟩
set_option maxHeartbeats 4000000 in
set_option maxRecDepth 100000 in
theorem Solve_c {W0 w : World} {g : Nat} {P M q : Int} {md ex lg : List Int} (k : Nat) (Ap : Option Addr) (cp : Nat) (s : List Int) (r f : Int) (hr : 1 ≤ r ∧ r ≤ 256 ∧ 0 ≤ f ∧ f ≤ r) (n : Nat) (cb A' S' lo ev : List Int) (e : Int) (h1 : poly_Canon.f k P M md q ex lg (s.take (lowN s r)) = some (cb, P, M, q)) (h2 : EucTo k P M md q ex lg (r + f) n (List.replicate r.toNat 0 ++ [1]) cb [] [1] A' S')
    (hl : 1 ≤ S'.length) (h3 : SvT k P M md q ex lg A' S' lo ev e)
    (S : St W0 w g P M md q ex lg) (Xp : Row w g Ap cp s) :
    Calls Try.prog 16 #[.pointer (some ⟨g, 0, none⟩), .slice Ap s.length cp, .int .i64 r, .int .i64 f] w fun er w' => ∃ B0 d0 B1 d1, er = .returned (.tuple #[.slice B0 lo.length d0, .slice B1 ev.length d1, .int .i64 e]) ∧ Row w' g B0 d0 lo ∧ Row w' g B1 d1 ev ∧ St W0 w' g P M md q ex lg ∧ Stp w w' g := by
  obtain ⟨pw, hpw⟩ : ∃ l, l = List.replicate r.toNat (0 : Int) ++ [1] := ⟨_, rfl⟩
  rw [← hpw] at h2
  have ER := Aside0.mk hpw
  have H2 := Aside0.mk h2
  have H3 := Aside0.mk h3
  clear hpw h2 h3
  obtain ⟨st, hst⟩ : ∃ l, l = s.take (lowN s r) := ⟨_, rfl⟩
  rw [← hst] at h1
  have H1 := Aside0.mk h1
  have HST := Aside0.mk hst
  clear h1 hst
  obtain ⟨r1, r2, r3, r4⟩ := hr
  have f1 : ¬ (r < 1) := by omega
  have f2 : ¬ (256 < r) := by omega
  have f3 : ¬ (f < 0) := by omega
  have f4 : ¬ (r < f) := by omega
  have f5 : IntKind.i64.wrap (r + f) = r + f := by rw [i64_w, w64 (by omega)]
  have LY : (List.replicate r.toNat (0 : Int)).length = r.toNat := List.length_replicate ..
  go_enter Try.func16, Try.ntmps16
  go_wp2_with (first
    | (refine Kd.R_make (Kd.int .i64) w.heap.size 3 rfl rfl 22 _ _ rfl r rfl rfl Try.underlying22 (.int .i64 0) 8 info3 rfl (by decide) (by omega) 0 (ok := fun _ => True) (okp := fun _ => True) rfl (fun _ hk => hk) trivial (by omega) (by omega) (Below.refl _ w) (Nat.le_refl _) ?_; intro v1 w7 ho hb7 hg_ hnew_; clear hg_ hnew_; have HO := Aside0.mk ho; have HB7 := Aside0.mk hb7; clear ho hb7)
    | ((with_reducible refine gate_builtin (b := .append) (xs := #[.tmp 32, .tmp 33]) rfl ?_); refine Kd.R_append (Kd.int .i64) w.heap.size rfl (.tmp 32) (.tmp 33) 22 3 (.int .i64 0) 8 rfl Try.underlying22 info3 rfl (by decide) (by omega) v1 (List.replicate r.toNat 0) 1 [.int .i64 1] (fun _ => True) (fun _ => False) rfl rfl rfl (fun _ hk => hk.elim) (fun _ _ => trivial) HO.out HB7.out HB7.out.size (by rw [LY]; omega) ?_; intro v2 w8 ho hb8 hg_ hat_; clear hg_ hat_; rw [← ER.out] at ho; obtain ⟨A9, c9, rfl, X9⟩ := S.own ho; have HB8 := Aside0.mk hb8; clear ho hb8 HO HB7))
  replace Xp := Xp.step (Stp.of_below HB8.out g)
  have KS : Stp w w8 g := Stp.of_below HB8.out g
  replace S := S.below HB8.out
  clear HB8
  refine (low_w (g := g) Xp HST.out).mono ?_
  rintro e w9 ⟨rfl, rfl, Xs⟩
  go_wp2_with fail
  refine (poly_Canon.w k S Xs H1.out).mono ?_
  rintro e w10 ⟨Ac, cc, rfl, Xc, S2, hK⟩
  replace X9 := X9.step hK
  replace KS := KS.trans hK
  clear hK S Xp Xs
  have S := S2
  clear S2
  go_wp2_with fail
  refine (euclid_c k A9 c9 pw Ac cc cb (r + f) n A' S' H2.out S X9 Xc).mono ?_
  rintro e w11 ⟨Ar, cr, At, ct, rfl, Xr, Xt, S2, hK⟩
  replace KS := KS.trans hK
  clear hK S X9 Xc f5 f1 f2 f3 f4 r1 r2 r3 r4 LY H1 H2 ER HST
  have S := S2
  clear S2
  have HL := Aside0.mk hl
  have g0 : ¬ (S'.length : Int) = 0 := by omega
  have g1 : ((S'.length : Int) == 0) = false := by simp only [beq_eq_false_iff_ne, ne_eq]; exact g0
  have g4 : 0 < S'.length := by omega
  have g5 : (0 : Int) < S'.length := by omega
  clear hl
  have H4 := H3.out
  clear H3
  rcases H4 with ⟨hx, rfl, rfl, rfl⟩ | ⟨x, iv, iv2, hx, hx0, h3, h4, h5, rfl⟩
  · have HI := Aside0.mk (show 0 ≤ (0 : Int) ∧ (0 : Int) < S'.length ∧ rd S' 0 = 0 from ⟨by omega, by omega, hx⟩)
    obtain ⟨ad, rfl, hz⟩ := Xt.at 0 HI.out.1 HI.out.2.1
    clear hz hx
    have cc2 : w11.cell? ad = some (.int .i64 (rd S' 0)) := by have := Xt.cell HI; rw [show ad.add (Int.toNat 0) = ad from addr_zero ad] at this; rw [HI.out.2.2]; exact this
    rw [HI.out.2.2] at cc2
    go_wp2_with fail
    go_ret3
    exact ⟨none, 0, none, 0, rfl, Row.none, Row.none, S, KS⟩
  · have HI := Aside0.mk (show 0 ≤ (0 : Int) ∧ (0 : Int) < S'.length ∧ rd S' 0 = x from ⟨by omega, by omega, hx⟩)
    have H3 := Aside0.mk h3
    have H4 := Aside0.mk h4
    have H5 := Aside0.mk h5
    obtain ⟨ad, rfl, hz⟩ := Xt.at 0 HI.out.1 HI.out.2.1
    clear hz hx h3 h4 h5
    have cc2 : w11.cell? ad = some (.int .i64 (rd S' 0)) := by have := Xt.cell HI; rw [show ad.add (Int.toNat 0) = ad from addr_zero ad] at this; rw [HI.out.2.2]; exact this
    rw [HI.out.2.2] at cc2
    have g2 : ¬ x = 0 := hx0
    have g3 : (x == 0) = false := by simp only [beq_eq_false_iff_ne, ne_eq]; exact g2
    go_wp2_with fail
    refine (field_GF_Inv.w S H3.out).mono ?_
    rintro e w12 ⟨rfl, S2, hK⟩
    replace Xr := Xr.step hK
    replace Xt := Xt.step hK
    replace KS := KS.trans hK
    clear hK S cc2
    have S := S2
    clear S2
    go_wp2_with fail
    refine (poly_Scale.w k S Xt H4.out).mono ?_
    rintro e w13 ⟨B1, d1, rfl, Y1, S2, hK⟩
    replace Xr := Xr.step hK
    replace KS := KS.trans hK
    clear hK S
    have S := S2
    clear S2
    go_wp2_with fail
    refine (poly_Scale.w k S Xr H5.out).mono ?_
    rintro e w14 ⟨B2, d2, rfl, Y2, S2, hK⟩
    replace Y1 := Y1.step hK
    replace KS := KS.trans hK
    clear hK S
    go_wp2
    go_ret3
    exact ⟨_, _, _, _, rfl, Y1, Y2, S2, KS⟩
set_option maxHeartbeats 4000000 in
set_option maxRecDepth 100000 in
theorem Solve_r {W0 w : World} {g : Nat} {P M q : Int} {md ex lg : List Int} (Ap : Option Addr) (cp : Nat) (s : List Int) (r f : Int) (hr : r < 1 ∨ 256 < r ∨ f < 0 ∨ r < f)
    (S : St W0 w g P M md q ex lg) :
    Calls Try.prog 16 #[.pointer (some ⟨g, 0, none⟩), .slice Ap s.length cp, .int .i64 r, .int .i64 f] w fun er w' => ∃ B0 d0 B1 d1, er = .returned (.tuple #[.slice B0 ([] : List Int).length d0, .slice B1 ([] : List Int).length d1, .int .i64 6]) ∧ Row w' g B0 d0 [] ∧ Row w' g B1 d1 [] ∧ St W0 w' g P M md q ex lg ∧ Stp w w' g := by
  by_cases f1 : r < 1
  · have d1 : decide (r < 1) = true := decide_eq_true f1
    go_enter Try.func16, Try.ntmps16
    go_wp2
    go_ret3
    exact ⟨none, 0, none, 0, rfl, Row.none, Row.none, S, Stp.of_below (Below.refl _ w) g⟩
  have d1 : decide (r < 1) = false := decide_eq_false f1
  by_cases f2 : 256 < r
  · have d2 : decide (256 < r) = true := decide_eq_true f2
    go_enter Try.func16, Try.ntmps16
    go_wp2
    go_ret3
    exact ⟨none, 0, none, 0, rfl, Row.none, Row.none, S, Stp.of_below (Below.refl _ w) g⟩
  have d2 : decide (256 < r) = false := decide_eq_false f2
  by_cases f3 : f < 0
  · have d3 : decide (f < 0) = true := decide_eq_true f3
    go_enter Try.func16, Try.ntmps16
    go_wp2
    go_ret3
    exact ⟨none, 0, none, 0, rfl, Row.none, Row.none, S, Stp.of_below (Below.refl _ w) g⟩
  have d3 : decide (f < 0) = false := decide_eq_false f3
  have f4 : r < f := by omega
  have d4 : decide (r < f) = true := decide_eq_true f4
  go_enter Try.func16, Try.ntmps16
  go_wp2
  go_ret3
  exact ⟨none, 0, none, 0, rfl, Row.none, Row.none, S, Stp.of_below (Below.refl _ w) g⟩
def SvR (k : Nat) (P M : Int) (md : List Int) (q : Int) (ex lg s : List Int) (r f : Int) (lo ev : List Int) (e : Int) : Prop :=
  ((r < 1 ∨ 256 < r ∨ f < 0 ∨ r < f) ∧ lo = [] ∧ ev = [] ∧ e = 6) ∨
  ((1 ≤ r ∧ r ≤ 256 ∧ 0 ≤ f ∧ f ≤ r) ∧ ∃ (n : Nat) (cb A' S' : List Int), poly_Canon.f k P M md q ex lg (s.take (lowN s r)) = some (cb, P, M, q) ∧ EucTo k P M md q ex lg (r + f) n (List.replicate r.toNat 0 ++ [1]) cb [] [1] A' S' ∧ 1 ≤ S'.length ∧ SvT k P M md q ex lg A' S' lo ev e)
theorem keyequation_Solve.w {W0 w : World} {g : Nat} {P M q : Int} {md ex lg s lo ev : List Int} {r f e : Int} {Ap : Option Addr} {cp : Nat} (k : Nat) (S : St W0 w g P M md q ex lg) (Xp : Row w g Ap cp s) (H : SvR k P M md q ex lg s r f lo ev e) :
    Calls Try.prog 16 #[.pointer (some ⟨g, 0, none⟩), .slice Ap s.length cp, .int .i64 r, .int .i64 f] w fun er w' => ∃ B0 d0 B1 d1, er = .returned (.tuple #[.slice B0 lo.length d0, .slice B1 ev.length d1, .int .i64 e]) ∧ Row w' g B0 d0 lo ∧ Row w' g B1 d1 ev ∧ St W0 w' g P M md q ex lg ∧ Stp w w' g := by
  rcases H with ⟨hr, rfl, rfl, rfl⟩ | ⟨hr, n, cb, A', S', h1, h2, hl, h3⟩
  · exact Solve_r Ap cp s r f hr S
  · exact Solve_c k Ap cp s r f hr n cb A' S' lo ev e h1 h2 hl h3 S Xp
end Go.Proofs.Ytkdakjlopheefaa.PA
end
section
namespace Go.Proofs.Ytkdakjlopheefaa.PA
open Alg Go.RowKit Go.Proofs.YtkdakjlopheefaaW.PrintWords Go.Proofs.YtkdakjlopheefaaW.PrintLast Go.Proofs.YtkdakjlopheefaaW.PrintMore
set_option linter.unusedVariables false
theorem f5_check : codewrightref04_Check.f 40 5 1 [] = some 0 := by decide +kernel
theorem f5_shape : field_shape.f 40 5 1 [] = some true := by decide +kernel
theorem f5_order : field_order.f 40 5 1 = some 5 := by decide +kernel
theorem f5_gen : field_generator.f 40 5 1 [] 5 = some [1, 2, 4, 3] := by decide +kernel
theorem f5_syn : keyequation_Syndrome.f 40 5 1 [] 5 [1, 2, 4, 3] [0, 0, 1, 3, 2] [2] [3] 2 = some ([3, 1], 0, 5, 1, 5) := by decide +kernel
theorem f5_solve : SvR 40 5 1 [] 5 [1, 2, 4, 3] [0, 0, 1, 3, 2] [3, 1] 2 0 [1, 3] [3] 0 := by
  refine .inr ⟨by decide, 1, [3, 1], [4], [3, 4], by decide +kernel, ?_, by decide, .inr ⟨3, 2, 0, by decide, by decide, by decide +kernel, by decide +kernel, by decide +kernel, rfl⟩⟩
  refine EucTo.step (dg := 1) (kq := [2, 1]) (r := [4]) (pr := [2, 1]) (s2 := [3, 4]) (er := 0) (by decide +kernel) (by decide) (by decide) (by decide) (by decide +kernel) ?_ (by decide +kernel) ?_
  · exact .cons (r := [2, 1]) (by decide +kernel) (.cons (r := [2, 1]) (by decide +kernel) (.nil _))
  · exact EucTo.nil (dg := 0) (by decide +kernel) (by decide) (by decide) (by decide)
theorem f5_forney : keyequation_Forney.f 40 5 1 [] 5 [1, 2, 4, 3] [0, 0, 1, 3, 2] [1, 3] [3] 2 = some (3, 0, 5, 1, 5) := by decide +kernel
theorem f5_chien : keyequation_Chien.f 40 5 1 [] 5 [1, 2, 4, 3] [0, 0, 1, 3, 2] [1, 3] [1, 2] = some ([1], 5, 1, 5) := by decide +kernel
theorem f5_same1 : codewrightlaw38_same.f 40 [3, 1] [3, 1] = some true := by decide +kernel
theorem f5_same2 : codewrightlaw38_same.f 40 [1, 3] [1, 3] = some true := by decide +kernel
theorem f5_same3 : codewrightlaw38_same.f 40 [3] [3] = some true := by decide +kernel
theorem f5_same4 : codewrightlaw38_same.f 40 [1] [1] = some true := by decide +kernel
theorem St.lit1 {W0 w : World} {g : Nat} {P M q : Int} {md ex lg : List Int} (h : St W0 w g P M md q ex lg) (o : Obj) (cs : List Int) (e : Nat) (hl : cs.length ≤ 1000) : Row ((w.alloc o).alloc (.cells (cs.map (Value.int .i64)).toArray e)) g (some ⟨w.heap.size + 1, 0, none⟩) cs.length cs := by
  have := (h.alloc o).lit cs e hl
  rwa [size_alloc] at this
set_option maxHeartbeats 1000000 in
set_option maxRecDepth 100000 in
theorem alive_calls (w : World) :
    Calls Try.prog 13 #[] w fun e w' => e = .returned (.bool true) ∧ Below w.heap.size w w' := by
  go_enter Try.func13, Try.ntmps13
  go_wp2_with fail
  refine (made_yes 40 5 1 5 none 0 [] [1, 2, 4, 3] _ (Kd.C_nil _ _) (Nat.le_refl _) f5_check f5_shape f5_order f5_gen (by decide) (by decide) (by decide) (by decide) (by decide)).mono ?_
  rintro e w3 ⟨g, rfl, W0, hb1, hb2, hI⟩
  have C1 := Aside0.mk hb1
  have S : St W0 w3 g 5 1 [] 5 [1, 2, 4, 3] [0, 0, 1, 3, 2] := ⟨hI, hb2⟩
  clear hb1 hb2 hI
  have H1 := Aside0.mk f5_syn
  have H2 := Aside0.mk f5_solve
  have H3 := Aside0.mk f5_forney
  have H4 := Aside0.mk f5_same1
  have H5 := Aside0.mk f5_same2
  have H6 := Aside0.mk f5_same3
  have H7 := Aside0.mk f5_chien
  have H8 := Aside0.mk f5_same4
  go_wp2_with fail
  refine (keyequation_Syndrome.w 40 ((S.alloc _).alloc _) ((S.lit [2] _ (by simp)).alloc _) (S.lit1 _ [3] _ (by simp)) H1.out).mono ?_
  rintro e w4 ⟨As, cs, rfl, Xs, S2, hK⟩
  clear hK S
  have S := S2
  clear S2
  go_wp2_with fail
  refine (keyequation_Solve.w 40 S Xs H2.out).mono ?_
  rintro e w5 ⟨Al, cl, Av, cv, rfl, Xl, Xv, S2, hK⟩
  replace Xs := (Xs).step hK
  clear hK S
  have S := S2
  clear S2
  go_wp2_with fail
  refine (keyequation_Forney.w 40 S Xl Xv H3.out).mono ?_
  rintro e w6 ⟨rfl, S2, hK⟩
  replace Xs := (Xs).step hK
  replace Xl := (Xl).step hK
  replace Xv := (Xv).step hK
  clear hK S
  have S := S2
  clear S2
  go_wp2_with fail
  refine (codewrightlaw38_same.w 40 (S.alloc _) (Xs.alloc _) (S.lit [3, 1] _ (by simp)) H4.out).mono ?_
  rintro e w7 ⟨rfl, S2, hK⟩
  replace Xs := (Xs.alloc _).step hK
  replace Xl := (Xl.alloc _).step hK
  replace Xv := (Xv.alloc _).step hK
  clear hK S
  have S := S2
  clear S2
  go_wp2_with fail
  refine (codewrightlaw38_same.w 40 (S.alloc _) (Xl.alloc _) (S.lit [1, 3] _ (by simp)) H5.out).mono ?_
  rintro e w8 ⟨rfl, S2, hK⟩
  replace Xs := (Xs.alloc _).step hK
  replace Xl := (Xl.alloc _).step hK
  replace Xv := (Xv.alloc _).step hK
  clear hK S
  have S := S2
  clear S2
  go_wp2_with fail
  refine (codewrightlaw38_same.w 40 (S.alloc _) (Xv.alloc _) (S.lit [3] _ (by simp)) H6.out).mono ?_
  rintro e w9 ⟨rfl, S2, hK⟩
  replace Xs := (Xs.alloc _).step hK
  replace Xl := (Xl.alloc _).step hK
  replace Xv := (Xv.alloc _).step hK
  clear hK S
  have S := S2
  clear S2
  go_wp2_with fail
  refine (keyequation_Chien.w 40 (S.alloc _) (Xl.alloc _) (S.lit [1, 2] _ (by simp)) H7.out).mono ?_
  rintro e w10 ⟨Ah, ch, rfl, Xh, S2, hK⟩
  replace Xs := (Xs.alloc _).step hK
  replace Xl := (Xl.alloc _).step hK
  replace Xv := (Xv.alloc _).step hK
  clear hK S
  have S := S2
  clear S2
  go_wp2_with fail
  refine (codewrightlaw38_same.w 40 (S.alloc _) (Xh.alloc _) (S.lit [1] _ (by simp)) H8.out).mono ?_
  rintro e w11 ⟨rfl, S2, hK⟩
  replace Xs := (Xs.alloc _).step hK
  replace Xl := (Xl.alloc _).step hK
  replace Xv := (Xv.alloc _).step hK
  replace Xh := (Xh.alloc _).step hK
  clear hK S
  have S := S2
  clear S2
  go_wp2
  go_ret
  exact ⟨rfl, below_step C1.out S.B⟩
end Go.Proofs.Ytkdakjlopheefaa.PA
end
section
namespace Go.Proofs.Ytkdakjlopheefaa.PA
open Alg Go.RowKit Go.Proofs.YtkdakjlopheefaaW.PrintWords Go.Proofs.YtkdakjlopheefaaW.PrintLast Go.Proofs.YtkdakjlopheefaaW.PrintMore
set_option linter.unusedVariables false
inductive RunTo (k : Nat) (P M : Int) (md : List Int) (q : Int) (ex lg s : List Int) : Nat → Int → List Int → Int → List Int → Int → Int → List Int → Int → Prop
  | nil {j : Int} {c : List Int} {l : Int} {old : List Int} {gap since : Int} : RunTo k P M md q ex lg s 0 j c l old gap since c l
  | keep {n : Nat} {j : Int} {c : List Int} {l : Int} {old : List Int} {gap since : Int} {c' : List Int} {l' : Int} : lfsr_gap.f k P M md q ex lg c s j = some (0, P, M, q) → (0 ≤ l ∧ l ≤ 1000 ∧ 1 ≤ since ∧ since ≤ 200) → RunTo k P M md q ex lg s n (j + 1) c l old gap (since + 1) c' l' → RunTo k P M md q ex lg s (n + 1) j c l old gap since c' l'
  | far {n : Nat} {j : Int} {c : List Int} {l : Int} {old : List Int} {gap since d qv er : Int} {sc nx : List Int} {c' : List Int} {l' : Int} : lfsr_gap.f k P M md q ex lg c s j = some (d, P, M, q) → d ≠ 0 → (0 ≤ l ∧ l ≤ 1000 ∧ 1 ≤ since ∧ since ≤ 200 ∧ sc.length ≤ 1000) → field_GF_Div.f P M md q ex lg d gap = some (qv, er, P, M, q) → field_GF_Scale.f k P M md q ex lg qv old = some (sc, P, M, q) →
      poly_Sub.f k P M md q ex lg c (List.replicate since.toNat 0 ++ sc) = some (nx, P, M, q) → 2 * l ≤ j → RunTo k P M md q ex lg s n (j + 1) nx (j + 1 - l) c d 1 c' l' → RunTo k P M md q ex lg s (n + 1) j c l old gap since c' l'
  | near {n : Nat} {j : Int} {c : List Int} {l : Int} {old : List Int} {gap since d qv er : Int} {sc nx : List Int} {c' : List Int} {l' : Int} : lfsr_gap.f k P M md q ex lg c s j = some (d, P, M, q) → d ≠ 0 → (0 ≤ l ∧ l ≤ 1000 ∧ 1 ≤ since ∧ since ≤ 200 ∧ sc.length ≤ 1000) → field_GF_Div.f P M md q ex lg d gap = some (qv, er, P, M, q) → field_GF_Scale.f k P M md q ex lg qv old = some (sc, P, M, q) →
      poly_Sub.f k P M md q ex lg c (List.replicate since.toNat 0 ++ sc) = some (nx, P, M, q) → j < 2 * l → RunTo k P M md q ex lg s n (j + 1) nx l old gap (since + 1) c' l' → RunTo k P M md q ex lg s (n + 1) j c l old gap since c' l'
set_option maxHeartbeats 4000000 in
set_option maxRecDepth 100000 in
theorem run_c {W0 w : World} {g : Nat} {P M q : Int} {md ex lg s c' : List Int} {l' : Int} {As : Option Addr} {cs : Nat} (k : Nat) (hl : s.length ≤ 1000) (h : RunTo k P M md q ex lg s s.length 0 [1] 0 [1] 1 1 c' l') (S : St W0 w g P M md q ex lg) (Xs : Row w g As cs s) :
    Calls Try.prog 42 #[.pointer (some ⟨g, 0, none⟩), .slice As s.length cs, .func (.func 43) #[] #[]] w fun er w' => ∃ B0 d0, er = .returned (.tuple #[.slice B0 c'.length d0, .int .i64 l']) ∧ Row w' g B0 d0 c' ∧ St W0 w' g P M md q ex lg ∧ Stp w w' g := by
  have HL := Aside0.mk hl
  have LE := Aside0.mk (show 0 ≤ (0 : Int) ∧ (0 : Int).toNat + s.length = s.length ∧ RunTo k P M md q ex lg s s.length 0 [1] 0 [1] 1 1 c' l' from ⟨by decide, Nat.zero_add _, h⟩)
  clear hl h
  go_enter Try.func42, Try.ntmps42
  go_wp2
  have Y1 := Aside0.mk ((S.lit [1] 3 (by simp)).alloc (.cells #[.int .i64 1] 3))
  have Y2 := Aside0.mk (show Row ((w.alloc (.cells #[.int .i64 1] 3)).alloc (.cells #[.int .i64 1] 3)) g (some ⟨w.heap.size + 1, 0, none⟩) 1 [1] from by
    have h := (S.alloc (.cells #[.int .i64 1] 3)).lit [1] 3 (by simp)
    rw [show (w.alloc (.cells #[.int .i64 1] 3)).heap.size = w.heap.size + 1 from Array.size_push ..] at h
    exact h)
  have Ys := Aside0.mk ((Xs.alloc (.cells #[.int .i64 1] 3)).alloc (.cells #[.int .i64 1] 3))
  have T := Aside0.mk ((S.alloc (.cells #[.int .i64 1] 3)).alloc (.cells #[.int .i64 1] 3))
  have K3 := Aside0.mk ((Stp.alloc w (.cells #[.int .i64 1] 3) g).trans (Stp.alloc (w.alloc (.cells #[.int .i64 1] 3)) (.cells #[.int .i64 1] 3) g))
  clear Xs S
  go_loopg [6, 7, 8, 9, 10, 21] s.length (fun kq v6 v7 v8 v9 v10 v21 W => ∃ (i : Int) (c1 : List Int) (l1 : Int) (o1 : List Int) (gp sn : Int) (Ac Ao : Option Addr) (cc co : Nat), v6 = .slice Ac c1.length cc ∧ v7 = .int .i64 l1 ∧ v8 = .slice Ao o1.length co ∧ v9 = .int .i64 gp ∧ v10 = .int .i64 sn ∧ v21 = .int .i64 i ∧
    Aside0 (0 ≤ i ∧ i.toNat + kq = s.length ∧ RunTo k P M md q ex lg s kq i c1 l1 o1 gp sn c' l') ∧ Aside0 (Row W g Ac cc c1) ∧ Aside0 (Row W g Ao co o1) ∧ Aside0 (Row W g As cs s) ∧ Aside0 (St W0 W g P M md q ex lg) ∧ Aside0 (Stp w W g))
  case atStart => exact ⟨0, [1], 0, [1], 1, 1, _, _, 1, 1, rfl, rfl, rfl, rfl, rfl, rfl, LE, Y1, Y2, Ys, T, K3⟩
  case round =>
    clear LE Y1 Y2 Ys T K3
    obtain ⟨i, c1, l1, o1, gp, sn, Ac, Ao, cc, co, rfl, rfl, rfl, rfl, rfl, rfl, HE, Yc, Yo, Ys, T, K⟩ := hrel
    have Xc := Yc.out
    have Xo := Yo.out
    have Xs := Ys.out
    have S := T.out
    have KS := K.out
    clear Yc Yo Ys T K
    cases gk with
    | zero =>
      have ct : ¬ i < (s.length : Int) := by have := HE.out; omega
      have ctb : decide (i < (s.length : Int)) = false := decide_eq_false ct
      have HM := HE.out.2.2
      cases HM
      clear HE ct
      go_wp2
      go_ret2
      exact ⟨_, _, rfl, Xc, S, KS⟩
    | succ n' =>
      have ct : i < (s.length : Int) := by have := HE.out; omega
      have ctb : decide (i < (s.length : Int)) = true := decide_eq_true ct
      have HM := HE.out.2.2
      have HII := Aside0.mk (show 0 ≤ i ∧ i < s.length ∧ i.toNat + (n' + 1) = s.length from ⟨HE.out.1, ct, HE.out.2.1⟩)
      clear HE ct
      cases HM with
      | keep hg hb hr =>
        have G1 := Aside0.mk hg
        have GB := Aside0.mk hb
        have G2 := Aside0.mk hr
        clear hg hb hr
        go_wp2_with fail
        refine (lfsr_gap.w k S Xc Xs G1.out).mono ?_
        rintro e w5 ⟨rfl, S2, hK⟩
        replace Xc := Xc.step hK
        replace Xo := Xo.step hK
        replace Xs := Xs.step hK
        replace KS := KS.trans hK
        clear hK S
        have S := S2
        clear S2
        go_wp2
        go_end0
        go_wp2
        go_roundg n'
        case measure => omega
        case rel =>
          have h2 := HII.out
          have h3 := GB.out
          have h4 := HL.out
          exact ⟨i + 1, c1, l1, o1, gp, sn + 1, Ac, Ao, cc, co, rfl, rfl, rfl, rfl, (by first | rfl | rw [w64 (n := sn + 1) (by omega)]), (by first | rfl | rw [w64 (n := i + 1) (by omega)]), ⟨by omega, by omega, G2.out⟩, ⟨Xc⟩, ⟨Xo⟩, ⟨Xs⟩, ⟨S⟩, ⟨KS⟩⟩
      | far hg hd hb hv hs hx hj hr =>
        rename_i d qv er sc nx
        obtain ⟨sh, hsh⟩ : ∃ x, x = List.replicate sn.toNat (0 : Int) ++ sc := ⟨_, rfl⟩
        rw [← hsh] at hx
        have G1 := Aside0.mk hg
        have GB := Aside0.mk hb
        have G3 := Aside0.mk hv
        have G4 := Aside0.mk hs
        have G5 := Aside0.mk hx
        have G7 := Aside0.mk hr
        have GS := Aside0.mk hsh
        have q1 : (d == 0) = false := beq_false_of_ne hd
        have q2 : ¬ d = 0 := hd
        obtain ⟨b1, b2, b3, b4, b5⟩ := hb
        have f1 : IntKind.i64.wrap (2 * l1) = 2 * l1 := by rw [i64_w, w64 (by omega)]
        have e1 : decide (2 * l1 ≤ i) = true := decide_eq_true hj
        have e2 : 2 * l1 ≤ i := hj
        have f2 : IntKind.i64.wrap (i + 1) = i + 1 := by rw [i64_w, w64 (by have := HII.out; have := HL.out; omega)]
        have f3 : IntKind.i64.wrap (i + 1 - l1) = i + 1 - l1 := by rw [i64_w, w64 (by have := HII.out; have := HL.out; omega)]
        have f4 : IntKind.i64.wrap (sn + 1) = sn + 1 := by rw [i64_w, w64 (by omega)]
        have s1 : 0 ≤ sn := by omega
        have s2 : sn.toNat ≤ 256 := by omega
        have s3 : sc.length ≤ 1000 := b5
        clear hg hv hs hx hr hsh hj hd b1 b2 b3 b4 b5
        go_wp2_with fail
        refine (lfsr_gap.w k S Xc Xs G1.out).mono ?_
        rintro e w5 ⟨rfl, S2, hK⟩
        replace Xc := Xc.step hK
        replace Xo := Xo.step hK
        replace Xs := Xs.step hK
        replace KS := KS.trans hK
        clear hK S
        have S := S2
        clear S2
        go_wp2_with fail
        refine (field_GF_Div.w S G3.out).mono ?_
        rintro e w6 ⟨rfl, S2, hK⟩
        replace Xc := Xc.step hK
        replace Xo := Xo.step hK
        replace Xs := Xs.step hK
        replace KS := KS.trans hK
        clear hK S
        have S := S2
        clear S2
        go_wp2_with fail
        have S0 := Aside0.mk S
        have hmk := print_make_int (P := Try.prog) 22 3 (.int .i64 0) 8 Try.underlying22 rfl rfl (by decide) sn s1 (by omega)
        go_wp2_with fail
        go_region_held3 (fun W => True) (trivial)
          (first
            | ((with_reducible refine (field_GF_Scale.w k (S.alloc _).drew ((Xo.alloc _).step (Stp.drew _ _)) G4.out).mono ?_); rintro e w8 ⟨Asc, csc, rfl, Xsc, S2, hK⟩; have HZ := Aside0.mk (hK.k.blk (blk_drew (blk_new _ _)) (Nat.ne_of_gt S.lt) (by simp)); have KR := ((Stp.alloc _ _ _).trans (Stp.drew _ _)).trans hK; clear hK S; have S := S2; clear S2)
            | (refine Kd.R_append_rows_step (Kd.int .i64) w6.heap.size rfl (.tmp 41) (.tmp 45) 22 3 (.int .i64 0) 8 rfl Try.underlying22 info3 rfl (by decide) (by omega) _ (List.replicate sn.toNat 0) sc _ _ _ (fun _ => True) (fun _ => False) rfl rfl (made_R (Nat.le_refl _) HZ.out s2) Xsc.C (fun _ _ h => h) (fun _ h => h.elim) (fun _ _ => trivial) (Below.refl _ _) KR.k.1 (by rw [List.length_replicate]; omega) ?_; intro v2 w9 ho hb hg_ hat_; rw [← GS.out] at ho; obtain ⟨A15, c15, rfl, X15⟩ := S0.out.own ho; have S2 : St W0 w9 g P M md q ex lg := ⟨IsS93.grown S.I hg_ (IsS93.own_ne S.I (made_R (base := w6.heap.size) (Nat.le_refl _) HZ.out s2) (by decide)), below_weaken S.B S0.out.B.size hb⟩; have KR2 : Stp w6 w9 g := ⟨KeepBut.trans KR.k (KeepBut.of_grown hg_ g) (Kd.R_base2 (made_R (Nat.le_refl _) HZ.out s2))⟩; clear ho hb hg_ hat_ HZ Xsc KR S; have S := S2; have KR := KR2; clear S2 KR2)
            | ((with_reducible refine (field_GF_Scale.w k S.drew (Xo.step (Stp.drew _ _)) G4.out).mono ?_); rintro e w8 ⟨Asc, csc, rfl, Xsc, S2, hK⟩; have KR := (Stp.drew _ _).trans hK; clear hK S; have S := S2; clear S2)
            | (have z1 := made_R (base := w6.heap.size) KR.k.1 (blk_new w8 (Obj.cells (madeCells #[Value.int .i64 0] sn.toNat) 3)) s2; refine Kd.R_append_rows_step (Kd.int .i64) w6.heap.size rfl (.tmp 41) (.tmp 45) 22 3 (.int .i64 0) 8 rfl Try.underlying22 info3 rfl (by decide) (by omega) _ (List.replicate sn.toNat 0) sc _ _ _ (fun _ => True) (fun _ => False) rfl rfl z1 (Xsc.alloc _).C (fun _ _ h => h) (fun _ h => h.elim) (fun _ _ => trivial) (Below.refl _ _) (KR.trans (Stp.alloc _ _ _)).k.1 (by rw [List.length_replicate]; omega) ?_; intro v2 w9 ho hb hg_ hat_; rw [← GS.out] at ho; obtain ⟨A15, c15, rfl, X15⟩ := S0.out.own ho; have S2 : St W0 w9 g P M md q ex lg := ⟨IsS93.grown (S.alloc _).I hg_ (IsS93.own_ne (S.alloc _).I z1 (by decide)), below_weaken (S.alloc _).B S0.out.B.size hb⟩; have KR2 : Stp w6 w9 g := ⟨KeepBut.trans (KR.trans (Stp.alloc _ _ _)).k (KeepBut.of_grown hg_ g) (Kd.R_base2 z1)⟩; clear ho hb hg_ hat_ z1 Xsc KR S; have S := S2; have KR := KR2; clear S2 KR2)
            | fail)
        all_goals (
          clear hmk
          replace Xc := Xc.step KR
          replace Xo := Xo.step KR
          replace Xs := Xs.step KR
          replace KS := KS.trans KR
          clear KR S0
          go_wp2_with fail
          refine (poly_Sub.w k S Xc X15 G5.out).mono ?_
          rintro e w10 ⟨A16, c16, rfl, X16, S2, hK⟩
          replace Xc := Xc.step hK
          replace Xo := Xo.step hK
          replace Xs := Xs.step hK
          replace KS := KS.trans hK
          clear hK S X15
          have S := S2
          clear S2
          go_wp2
          go_end0
          go_wp2
          go_roundg n'
          case measure => omega
          case rel =>
            have h2 := HII.out
            have h3 := GB.out
            have h4 := HL.out
            exact ⟨i + 1, nx, i + 1 - l1, c1, d, 1, A16, Ac, c16, cc, rfl, (by first | rfl | rw [w64 (n := i + 1 - l1) (by omega)]), rfl, rfl, rfl, (by first | rfl | rw [w64 (n := i + 1) (by omega)]), ⟨by omega, by omega, G7.out⟩, ⟨X16⟩, ⟨Xc⟩, ⟨Xs⟩, ⟨S⟩, ⟨KS⟩⟩)
      | near hg hd hb hv hs hx hj hr =>
        rename_i d qv er sc nx
        obtain ⟨sh, hsh⟩ : ∃ x, x = List.replicate sn.toNat (0 : Int) ++ sc := ⟨_, rfl⟩
        rw [← hsh] at hx
        have G1 := Aside0.mk hg
        have GB := Aside0.mk hb
        have G3 := Aside0.mk hv
        have G4 := Aside0.mk hs
        have G5 := Aside0.mk hx
        have G7 := Aside0.mk hr
        have GS := Aside0.mk hsh
        have q1 : (d == 0) = false := beq_false_of_ne hd
        have q2 : ¬ d = 0 := hd
        obtain ⟨b1, b2, b3, b4, b5⟩ := hb
        have f1 : IntKind.i64.wrap (2 * l1) = 2 * l1 := by rw [i64_w, w64 (by omega)]
        have e1 : decide (2 * l1 ≤ i) = false := decide_eq_false (by omega)
        have e2 : ¬ (2 * l1 ≤ i) := by omega
        have f2 : IntKind.i64.wrap (i + 1) = i + 1 := by rw [i64_w, w64 (by have := HII.out; have := HL.out; omega)]
        have f3 : IntKind.i64.wrap (i + 1 - l1) = i + 1 - l1 := by rw [i64_w, w64 (by have := HII.out; have := HL.out; omega)]
        have f4 : IntKind.i64.wrap (sn + 1) = sn + 1 := by rw [i64_w, w64 (by omega)]
        have s1 : 0 ≤ sn := by omega
        have s2 : sn.toNat ≤ 256 := by omega
        have s3 : sc.length ≤ 1000 := b5
        clear hg hv hs hx hr hsh hj hd b1 b2 b3 b4 b5
        go_wp2_with fail
        refine (lfsr_gap.w k S Xc Xs G1.out).mono ?_
        rintro e w5 ⟨rfl, S2, hK⟩
        replace Xc := Xc.step hK
        replace Xo := Xo.step hK
        replace Xs := Xs.step hK
        replace KS := KS.trans hK
        clear hK S
        have S := S2
        clear S2
        go_wp2_with fail
        refine (field_GF_Div.w S G3.out).mono ?_
        rintro e w6 ⟨rfl, S2, hK⟩
        replace Xc := Xc.step hK
        replace Xo := Xo.step hK
        replace Xs := Xs.step hK
        replace KS := KS.trans hK
        clear hK S
        have S := S2
        clear S2
        go_wp2_with fail
        have S0 := Aside0.mk S
        have hmk := print_make_int (P := Try.prog) 22 3 (.int .i64 0) 8 Try.underlying22 rfl rfl (by decide) sn s1 (by omega)
        go_wp2_with fail
        go_region_held3 (fun W => True) (trivial)
          (first
            | ((with_reducible refine (field_GF_Scale.w k (S.alloc _).drew ((Xo.alloc _).step (Stp.drew _ _)) G4.out).mono ?_); rintro e w8 ⟨Asc, csc, rfl, Xsc, S2, hK⟩; have HZ := Aside0.mk (hK.k.blk (blk_drew (blk_new _ _)) (Nat.ne_of_gt S.lt) (by simp)); have KR := ((Stp.alloc _ _ _).trans (Stp.drew _ _)).trans hK; clear hK S; have S := S2; clear S2)
            | (refine Kd.R_append_rows_step (Kd.int .i64) w6.heap.size rfl (.tmp 41) (.tmp 45) 22 3 (.int .i64 0) 8 rfl Try.underlying22 info3 rfl (by decide) (by omega) _ (List.replicate sn.toNat 0) sc _ _ _ (fun _ => True) (fun _ => False) rfl rfl (made_R (Nat.le_refl _) HZ.out s2) Xsc.C (fun _ _ h => h) (fun _ h => h.elim) (fun _ _ => trivial) (Below.refl _ _) KR.k.1 (by rw [List.length_replicate]; omega) ?_; intro v2 w9 ho hb hg_ hat_; rw [← GS.out] at ho; obtain ⟨A15, c15, rfl, X15⟩ := S0.out.own ho; have S2 : St W0 w9 g P M md q ex lg := ⟨IsS93.grown S.I hg_ (IsS93.own_ne S.I (made_R (base := w6.heap.size) (Nat.le_refl _) HZ.out s2) (by decide)), below_weaken S.B S0.out.B.size hb⟩; have KR2 : Stp w6 w9 g := ⟨KeepBut.trans KR.k (KeepBut.of_grown hg_ g) (Kd.R_base2 (made_R (Nat.le_refl _) HZ.out s2))⟩; clear ho hb hg_ hat_ HZ Xsc KR S; have S := S2; have KR := KR2; clear S2 KR2)
            | ((with_reducible refine (field_GF_Scale.w k S.drew (Xo.step (Stp.drew _ _)) G4.out).mono ?_); rintro e w8 ⟨Asc, csc, rfl, Xsc, S2, hK⟩; have KR := (Stp.drew _ _).trans hK; clear hK S; have S := S2; clear S2)
            | (have z1 := made_R (base := w6.heap.size) KR.k.1 (blk_new w8 (Obj.cells (madeCells #[Value.int .i64 0] sn.toNat) 3)) s2; refine Kd.R_append_rows_step (Kd.int .i64) w6.heap.size rfl (.tmp 41) (.tmp 45) 22 3 (.int .i64 0) 8 rfl Try.underlying22 info3 rfl (by decide) (by omega) _ (List.replicate sn.toNat 0) sc _ _ _ (fun _ => True) (fun _ => False) rfl rfl z1 (Xsc.alloc _).C (fun _ _ h => h) (fun _ h => h.elim) (fun _ _ => trivial) (Below.refl _ _) (KR.trans (Stp.alloc _ _ _)).k.1 (by rw [List.length_replicate]; omega) ?_; intro v2 w9 ho hb hg_ hat_; rw [← GS.out] at ho; obtain ⟨A15, c15, rfl, X15⟩ := S0.out.own ho; have S2 : St W0 w9 g P M md q ex lg := ⟨IsS93.grown (S.alloc _).I hg_ (IsS93.own_ne (S.alloc _).I z1 (by decide)), below_weaken (S.alloc _).B S0.out.B.size hb⟩; have KR2 : Stp w6 w9 g := ⟨KeepBut.trans (KR.trans (Stp.alloc _ _ _)).k (KeepBut.of_grown hg_ g) (Kd.R_base2 z1)⟩; clear ho hb hg_ hat_ z1 Xsc KR S; have S := S2; have KR := KR2; clear S2 KR2)
            | fail)
        all_goals (
          clear hmk
          replace Xc := Xc.step KR
          replace Xo := Xo.step KR
          replace Xs := Xs.step KR
          replace KS := KS.trans KR
          clear KR S0
          go_wp2_with fail
          refine (poly_Sub.w k S Xc X15 G5.out).mono ?_
          rintro e w10 ⟨A16, c16, rfl, X16, S2, hK⟩
          replace Xc := Xc.step hK
          replace Xo := Xo.step hK
          replace Xs := Xs.step hK
          replace KS := KS.trans hK
          clear hK S X15
          have S := S2
          clear S2
          go_wp2
          go_end0
          go_wp2
          go_roundg n'
          case measure => omega
          case rel =>
            have h2 := HII.out
            have h3 := GB.out
            have h4 := HL.out
            exact ⟨i + 1, nx, l1, o1, gp, sn + 1, A16, Ao, c16, co, rfl, rfl, rfl, rfl, (by first | rfl | rw [w64 (n := sn + 1) (by omega)]), (by first | rfl | rw [w64 (n := i + 1) (by omega)]), ⟨by omega, by omega, G7.out⟩, ⟨X16⟩, ⟨Xo⟩, ⟨Xs⟩, ⟨S⟩, ⟨KS⟩⟩)
theorem lfsr_Shortest.w {W0 w : World} {g : Nat} {P M q : Int} {md ex lg s c' : List Int} {l' : Int} {As : Option Addr} {cs : Nat} (k : Nat) (S : St W0 w g P M md q ex lg) (Xs : Row w g As cs s) (H : RunTo k P M md q ex lg s s.length 0 [1] 0 [1] 1 1 c' l' ∧ s.length ≤ 1000) :
    Calls Try.prog 15 #[.pointer (some ⟨g, 0, none⟩), .slice As s.length cs] w fun er w' => ∃ B0 d0, er = .returned (.tuple #[.slice B0 c'.length d0, .int .i64 l']) ∧ Row w' g B0 d0 c' ∧ St W0 w' g P M md q ex lg ∧ Stp w w' g := by
  have HH := Aside0.mk H
  clear H
  go_enter Try.func15, Try.ntmps15
  go_wp2_with fail
  refine (run_c k HH.out.2 HH.out.1 S Xs).mono ?_
  rintro e w5 ⟨B0, d0, rfl, X, S2, hK⟩
  go_wp2
  go_ret2
  exact ⟨_, _, rfl, X, S2, hK⟩
end Go.Proofs.Ytkdakjlopheefaa.PA
end
section
namespace Go.Proofs.Ytkdakjlopheefaa.PA
open Go.RowKit Go.Proofs.YtkdakjlopheefaaW.PrintWords Go.Proofs.YtkdakjlopheefaaW.PrintLast Go.Proofs.YtkdakjlopheefaaW.PrintMore
open Alg
set_option linter.unusedVariables false
section
variable {K : Type} [Fld K] {N : Nums K} {p m : Nat} {md ex lg : List Int}
theorem div_ev (G : GOps N p m md ex lg) (x y : Int) (hy : N.tk y ≠ 0) : field_GF_Div.f (p : Int) (m : Int) md N.q ex lg x y = some (N.nm (N.tk x * inv (N.tk y)), 0, (p : Int), (m : Int), N.q) := by
  unfold field_GF_Div.f
  rw [G.inv y hy, Option.bind_some]
  dsimp only
  rw [if_pos rfl, G.mul, Option.bind_some, N.tk_nm]
end
end Go.Proofs.Ytkdakjlopheefaa.PA
end
section
namespace Go.Proofs.Ytkdakjlopheefaa.PA
open Alg Go.RowKit Go.Proofs.YtkdakjlopheefaaW.PrintWords Go.Proofs.YtkdakjlopheefaaW.PrintLast Go.Proofs.YtkdakjlopheefaaW.PrintMore
set_option linter.unusedVariables false
section
variable {K : Type} [Fld K] {N : Nums K} {p m : Nat} {md ex lg : List Int}
theorem mulTo2 (G : GOps N p m md ex lg) (a b : S K) (ha : S.Po a) (hb : S.Po b) (la : (N.cl a).length ≤ 400000) (lb : (N.cl b).length ≤ 400000) :
    ∃ K0, ∀ k, K0 ≤ k → MulTo k (p : Int) (m : Int) md N.q ex lg [N.cl a, N.cl b] [1] (N.cl (a * b)) := by
  obtain ⟨K1, h1⟩ := product_ev G [1] (N.cl a) (by simp) la
  rw [N.lk_one, one_mul, N.lk_cl ha] at h1
  obtain ⟨K2, h2⟩ := product_ev G (N.cl a) (N.cl b) la lb
  rw [N.lk_cl ha, N.lk_cl hb] at h2
  exact ⟨K1 + K2, fun k hk => .cons (h1 k (by omega)) (.cons (h2 k (by omega)) (.nil _))⟩
theorem euc_ex (G : GOps N p m md ex lg) (bd : Int) (hbd : 0 ≤ bd) (n0 : Nat) (hn0 : n0 ≤ 400) (a0 b0 : S K) : ∀ (d : Nat) (a b old t : S K), S.Eu n0 a0 b0 a b old t d → bd ≤ 2 * (d : Int) →
    ∃ (n : Nat) (a' b' old' t' : S K) (d' : Nat), S.Eu n0 a0 b0 a' b' old' t' d' ∧ bd ≤ 2 * (d' : Int) ∧ (∀ e : Nat, S.Deg b' e → 2 * (e : Int) < bd) ∧
      ∃ K0, ∀ k, K0 ≤ k → EucTo k (p : Int) (m : Int) md N.q ex lg bd n (N.cl a) (N.cl b) (N.cl old) (N.cl t) (N.cl b') (N.cl t') := by
  intro d
  induction d using Nat.strongRecOn with
  | ind d ih =>
    intro a b old t E hd
    have pb : S.Po b := ⟨_, E.db⟩
    have lb := N.cl_length_le E.db
    have dn := E.dn
    obtain ⟨K1, h1⟩ := deg_ev G (N.cl b) (by omega)
    rw [N.lk_cl pb] at h1
    by_cases hz : b = 0
    · refine ⟨0, a, b, old, t, d, E, hd, fun e he => absurd hz he.ne, K1, fun k hk => ?_⟩
      have e0 : (N.cl b).length = 0 := by rw [hz, N.cl_zero]; rfl
      exact EucTo.nil (h1 k hk) (by omega) (by omega) (by omega)
    · obtain ⟨e, he⟩ := S.ex_deg pb hz
      have hel := N.cl_deg he
      have hed := he.lt E.db
      by_cases hc : 2 * (e : Int) < bd
      · refine ⟨0, a, b, old, t, d, E, hd, fun e' he' => by rw [he'.unique he]; exact hc, K1, fun k hk => ?_⟩
        exact EucTo.nil (h1 k hk) (by omega) (by omega) (by omega)
      · have pa : S.Po a := S.Po.deg E.da
        have pt : S.Po t := S.Po.deg E.dt
        have po : S.Po old := ⟨_, E.dold⟩
        obtain ⟨⟨kq, g1⟩, g2, g3⟩ := S.div_spec pa he
        have E2 := E.step he g1 g2 g3
        have hqd := S.quo_deg E.da he (by omega) g1 g2 g3
        have la := N.cl_deg E.da
        have lt_ := N.cl_deg E.dt
        have lo := N.cl_length_le E.dold
        have hqt := hqd.mul E.dt
        have lq := N.cl_deg hqd
        have lqt := N.cl_deg hqt
        obtain ⟨K2, h2⟩ := divmod_ev G (N.cl a) (N.cl b) (by omega) (by omega) (by rw [N.lk_cl pb]; exact hz)
        rw [N.lk_cl pa, N.lk_cl pb] at h2
        obtain ⟨K3, h3⟩ := mulTo2 G (S.quo a b) t ⟨kq, g1⟩ pt (by omega) (by omega)
        obtain ⟨K4, h4⟩ := subp_ev G (N.cl old) (N.cl (S.quo a b * t)) (by omega) (by omega)
        rw [N.lk_cl po, N.lk_cl (S.Po.deg hqt)] at h4
        obtain ⟨n, a', b', old', t', d', i1, i2, i3, K5, i4⟩ := ih e hed b (S.rem a b) t (old - S.quo a b * t) E2 (by omega)
        refine ⟨n + 1, a', b', old', t', d', i1, i2, i3, K1 + K2 + K3 + K4 + K5, fun k hk => ?_⟩
        exact EucTo.step (h1 k (by omega)) (by omega) (by omega) (by omega) (h2 k (by omega)) (h3 k (by omega)) (h4 k (by omega)) (i4 k (by omega))
end
end Go.Proofs.Ytkdakjlopheefaa.PA
end
section
namespace Go.Proofs.Ytkdakjlopheefaa.PA
open Alg Go.RowKit Go.Proofs.YtkdakjlopheefaaW.PrintWords Go.Proofs.YtkdakjlopheefaaW.PrintLast Go.Proofs.YtkdakjlopheefaaW.PrintMore
set_option linter.unusedVariables false
section
variable {K : Type} [Fld K] {N : Nums K} {p m : Nat} {md ex lg : List Int}
def cut (r : Nat) (a : S K) : S K := fun i => if i < r then a i else 0
theorem cut_lt (r : Nat) (a : S K) : S.Lt (cut r a) r := fun i hi => if_neg (by omega)
theorem cut_at (r : Nat) (a : S K) (i : Nat) (h : i < r) : cut r a i = a i := if_pos h
end
end Go.Proofs.Ytkdakjlopheefaa.PA
end
section
namespace Go.Proofs.Ytkdakjlopheefaa.PA
open Alg Go.RowKit Go.Proofs.YtkdakjlopheefaaW.PrintWords Go.Proofs.YtkdakjlopheefaaW.PrintLast Go.Proofs.YtkdakjlopheefaaW.PrintMore
set_option linter.unusedVariables false
section
variable {K : Type} [Fld K] {N : Nums K} {p m : Nat} {md ex lg : List Int}
theorem gap_l0 (G : GOps N p m md ex lg) (c s : List Int) (hc : c.length ≤ 100000) (j : Nat) (hj : j < s.length) (hs : s.length ≤ 100000) (n i : Nat) (hi : i + n = c.length) (x : Int)
    (hx : x = N.nm (sum i fun t => if t ≤ j then N.lk c t * N.lk s (j - t) else 0)) :
    Ev (fun k => lfsr_gap.l0 k s (j : Int) x c (c.length : Int) (i : Int) (p : Int) (m : Int) md N.q ex lg) (N.nm (sum c.length fun t => if t ≤ j then N.lk c t * N.lk s (j - t) else 0), (p : Int), (m : Int), N.q) := by
  induction n generalizing i x with
  | zero =>
    obtain rfl : i = c.length := by omega
    refine Ev.succ ?_
    simp only [lfsr_gap.l0]
    exact Ev.ifn (by omega) (Ev.val (by rw [hx]))
  | succ n ih =>
    refine Ev.succ ?_
    simp only [lfsr_gap.l0]
    refine Ev.ifp (by omega) (Ev.ifp (by omega) (Ev.ifp (by omega) ?_))
    by_cases h : i ≤ j
    · have ew : wrap64 ((j : Int) - (i : Int)) = ((j - i : Nat) : Int) := by rw [w64 (by omega)]; omega
      rw [ew, rd_nat, rd_nat]
      refine Ev.ifp (by omega) (Ev.ifp (by omega) (Ev.ifp (by omega) (Ev.opt_bind (G.mul _ _) (Ev.bind (G.add _ _) ?_))))
      dsimp only
      rw [w64 (n := (i : Int) + 1) (by omega)]
      refine ih (i + 1) (by omega) _ ?_
      rw [sum_succ, if_pos h, hx, N.tk_nm, N.tk_nm]; rfl
    · refine Ev.ifn (by omega) ?_
      rw [w64 (n := (i : Int) + 1) (by omega)]
      refine ih (i + 1) (by omega) _ ?_
      rw [sum_succ, if_neg h, add_zero, hx]
theorem gap_sum (a b : S K) (n j : Nat) (ha : S.Lt a n) : (sum n fun t => if t ≤ j then a t * b (j - t) else 0) = (a * b) j := by
  rw [S.mul_at]
  rcases Nat.le_total n (j + 1) with h | h
  · rw [sum_shrink h fun i h1 h2 => by rw [ha i h1, zero_mul]]
    exact sum_congr fun i hi => if_pos (by omega)
  · rw [sum_shrink h fun i h1 h2 => if_neg (by omega)]
    exact sum_congr fun i hi => if_pos (by omega)
theorem gap_ev (G : GOps N p m md ex lg) (c s : List Int) (hc : c.length ≤ 100000) (hs : s.length ≤ 100000) (j : Nat) (hj : j < s.length) :
    Ev (fun k => lfsr_gap.f k (p : Int) (m : Int) md N.q ex lg c s (j : Int)) (N.nm ((N.lk c * N.lk s) j), (p : Int), (m : Int), N.q) := by
  unfold lfsr_gap.f
  have := gap_l0 G c s hc j hj hs c.length 0 (Nat.zero_add _) 0 (by rw [sum_zero, N.nm_zero])
  rwa [gap_sum _ _ _ _ (N.lk_lt c)] at this
end
end Go.Proofs.Ytkdakjlopheefaa.PA
end
section
namespace Go.Proofs.Ytkdakjlopheefaa.PA
open Alg Go.RowKit Go.Proofs.YtkdakjlopheefaaW.PrintWords Go.Proofs.YtkdakjlopheefaaW.PrintLast Go.Proofs.YtkdakjlopheefaaW.PrintMore
set_option linter.unusedVariables false
section
variable {K : Type} [Fld K] {N : Nums K} {p m : Nat} {md ex lg : List Int}
theorem getD_take (l : List Int) (n i : Nat) : (l.take n).getD i 0 = if i < n then l.getD i 0 else 0 := by
  rw [List.getD_eq_getElem?_getD, List.getElem?_take]
  split
  · rw [List.getD_eq_getElem?_getD]
  · rfl
theorem lk_low (N : Nums K) (s : List Int) (r : Int) : N.lk (s.take (lowN s r)) = cut r.toNat (N.lk s) := by
  ext i
  rw [N.lk_at, getD_take]
  unfold cut lowN
  split
  · rename_i h
    rw [if_neg (by omega), if_neg (by omega), N.tk_zero]
  split
  · by_cases e : i < r.toNat
    · rw [if_pos e, if_pos e]; rfl
    · rw [if_neg e, if_neg e, N.tk_zero]
  · by_cases e : i < s.length
    · rw [if_pos e, if_pos (by omega)]; rfl
    · rw [if_neg e, N.tk_zero]
      split
      · exact (N.lk_lt s i (by omega)).symm
      · rfl
theorem cl_pw (r : Nat) : N.cl (S.pw r) = List.replicate r 0 ++ [1] := by
  have := N.q2
  refine N.cl_of ⟨fun x hx => ?_, fun _ => ?_⟩ ?_
  · rcases List.mem_append.1 hx with h | h
    · have := (List.mem_replicate.1 h).2; omega
    · have := List.mem_singleton.1 h; omega
  · rw [List.length_append, List.length_replicate, List.length_singleton, Nat.add_sub_cancel, List.getD_eq_getElem?_getD, List.getElem?_append_right (by simp)]
    simp
  · rw [N.lk_append, N.lk_zeros, N.lk_one, List.length_replicate, zero_add, mul_one]
theorem solve_ex (G : GOps N p m md ex lg) (s : List Int) (hs : s.length ≤ 100000) (r f : Nat) (hr : 1 ≤ r ∧ r ≤ 256 ∧ f ≤ r) :
    ∃ (a w old t : S K) (d : Nat), S.Eu r (S.pw r) (cut r (N.lk s)) a w old t d ∧ r + f ≤ 2 * d ∧ (∀ e : Nat, S.Deg w e → 2 * e < r + f) ∧
      ((t 0 = 0 ∧ ∃ K0, ∀ k, K0 ≤ k → SvR k (p : Int) (m : Int) md N.q ex lg s (r : Int) (f : Int) [] [] 12) ∨
       (t 0 ≠ 0 ∧ ∃ K0, ∀ k, K0 ≤ k → SvR k (p : Int) (m : Int) md N.q ex lg s (r : Int) (f : Int) (N.cl (S.C (Alg.inv (t 0)) * t)) (N.cl (S.C (Alg.inv (t 0)) * w)) 0)) := by
  have E0 := S.Eu.start (S.Deg.pw (K := K) r) (cut_lt r (N.lk s))
  obtain ⟨n, a, w, old, t, d, E, hd, hw, K1, h1⟩ := euc_ex G ((r : Int) + (f : Int)) (by omega) r (by omega) _ _ r _ _ 0 1 E0 (by omega)
  rw [cl_pw, N.cl_zero, cl_one] at h1
  have dn := E.dn
  have hlt : (s.take (lowN s (r : Int))).length ≤ 100000 := by rw [List.length_take]; omega
  obtain ⟨K2, h2⟩ := canon_ev G (s.take (lowN s (r : Int))) (by omega)
  rw [lk_low, Int.toNat_natCast] at h2
  have lt_ := N.cl_deg E.dt
  have pt : S.Po t := S.Po.deg E.dt
  have pw : S.Po w := ⟨_, E.db⟩
  have lw := N.cl_length_le E.db
  have hx : rd (N.cl t) 0 = N.nm (t 0) := by
    have := rd_nat (N.cl t) 0
    rw [N.cl_at pt] at this
    exact this
  refine ⟨a, w, old, t, d, E, by omega, fun e he => by have := hw e he; omega, ?_⟩
  have hr0 : (r : Int).toNat = r := Int.toNat_natCast r
  by_cases t0 : t 0 = 0
  · refine .inl ⟨t0, K1 + K2, fun k hk => .inr ⟨⟨by omega, by omega, by omega, by omega⟩, n, _, N.cl w, N.cl t, h2 k (by omega), ?_, by omega, .inl ⟨by rw [hx, t0, N.nm_zero], rfl, rfl, rfl⟩⟩⟩
    rw [hr0]; exact h1 k (by omega)
  · have h3 := G.inv (N.nm (t 0)) (by rw [N.tk_nm]; exact t0)
    rw [N.tk_nm] at h3
    obtain ⟨K4, h4⟩ := scale_ev G (N.nm (Alg.inv (t 0))) (N.cl t) (by omega)
    rw [N.tk_nm, N.lk_cl pt] at h4
    obtain ⟨K5, h5⟩ := scale_ev G (N.nm (Alg.inv (t 0))) (N.cl w) (by omega)
    rw [N.tk_nm, N.lk_cl pw] at h5
    refine .inr ⟨t0, K1 + K2 + K4 + K5, fun k hk => .inr ⟨⟨by omega, by omega, by omega, by omega⟩, n, _, N.cl w, N.cl t, h2 k (by omega), ?_, by omega, .inr ⟨_, _, _, hx, fun e => t0 (N.nm_eq_zero.1 e), h3, h4 k (by omega), h5 k (by omega), rfl⟩⟩⟩
    rw [hr0]; exact h1 k (by omega)
theorem eu_small {r f : Nat} {w : S K} (pw : S.Po w) (h : ∀ e : Nat, S.Deg w e → 2 * e < r + f) : ∃ x, S.Lt w x ∧ 2 * x ≤ r + f + 1 := by
  by_cases hz : w = 0
  · exact ⟨0, by rw [hz]; exact S.Lt.zero _, by omega⟩
  · obtain ⟨e, he⟩ := S.ex_deg pw hz
    have := h e he
    exact ⟨e + 1, he.1, by omega⟩
theorem eu_only {r f d : Nat} {s a w old t : S K} (E : S.Eu r (S.pw r) (cut r s) a w old t d) (hd : r + f ≤ 2 * d) (hw : ∀ e : Nat, S.Deg w e → 2 * e < r + f) (lo ev : S K) (u v : Nat) (hl : S.Lt lo (u + 1)) (hu : 2 * u + f ≤ r)
    (hv : S.Lt ev v) (hv2 : 2 * v ≤ r + f + 1) (h : ∀ j, j < r → (lo * s) j = ev j) : t * ev = lo * w ∧ S.Dv t lo := by
  have dn := E.dn
  obtain ⟨x, hx, hx2⟩ := eu_small ⟨_, E.db⟩ hw
  have e0 : ∀ i, i < r → (lo * cut r s - ev : S K) i = 0 := fun i hi => by
    rw [S.sub_at, S.mul_low (fun i hi => cut_at r s i hi) i hi, h i hi, sub_self]
  have e1 := S.pw_dvd e0
  have hlc : S.Lt (lo * cut r s - ev) (u + r + v) := (S.Lt.mul hl (cut_lt r s) (by omega)).sub (hv.mono (by omega))
  obtain ⟨m, hm⟩ : ∃ m : S K, m = (show S K from fun i => (lo * cut r s - ev : S K) (r + i)) := ⟨_, rfl⟩
  rw [← hm] at e1
  have lm : S.Lt m (u + r + v) := fun i hi => by rw [hm]; exact hlc (r + i) (by omega)
  have e2 : lo * cut r s = ev + m * S.pw r := by
    have : lo * cut r s = ev + (lo * cut r s - ev) := ring_of [lo * cut r s, ev] (by decide +kernel)
    rw [this, e1, Alg.mul_comm m]
  exact E.only (S.Deg.pw r) (k := u + r + v + 1) (hl.mono (by omega)) (lm.mono (by omega)) e2 (S.Lt.mul E.dt.1 hv (by omega)) (S.Lt.mul hl hx (by omega))
theorem sol_one {r d : Nat} {s a w old t : S K} (E : S.Eu r (S.pw r) (cut r s) a w old t d) (t0 : t 0 ≠ 0) : (S.C (Alg.inv (t 0)) * t : S K) 0 = 1 := by
  rw [S.C_mul_at, inv_mul t0]
end
end Go.Proofs.Ytkdakjlopheefaa.PA
end
section
namespace Go.Proofs.Ytkdakjlopheefaa.PA
open Alg Go.RowKit Go.Proofs.YtkdakjlopheefaaW.PrintWords Go.Proofs.YtkdakjlopheefaaW.PrintLast Go.Proofs.YtkdakjlopheefaaW.PrintMore
set_option linter.unusedVariables false
section
variable {K : Type} [Fld K] {N : Nums K} {p m : Nat} {md ex lg : List Int}
theorem bm_bd {s c old : S K} {g : K} {j l since : Nat} (h : S.Bm s c old g j l since) : S.Lt old (j + 2) ∧ g ≠ 0 ∧ 1 ≤ since ∧ since ≤ j + 1 ∧ l ≤ j := by
  obtain ⟨c0, dc, ⟨rfl, rfl, rfl, rfl, rfl, h6⟩ | ⟨k, lo, w, wo, h1, h2, h3, h4, h5, h6, h7, h8, h9, h10, h11⟩⟩ := h
  · exact ⟨S.Lt.one.mono (by omega), one_ne, by omega, by omega, by omega⟩
  · exact ⟨h5.mono (by omega), h11, by omega, by omega, by omega⟩
theorem run_ex (G : GOps N p m md ex lg) (s : List Int) (hs : s.length ≤ 100) : ∀ (n j : Nat) (c old : S K) (g : K) (l since : Nat), j + n = s.length → S.Bm (N.lk s) c old g j l since →
    ∃ (c' old' : S K) (g' : K) (l' since' : Nat), S.Bm (N.lk s) c' old' g' s.length l' since' ∧ ∃ K0, ∀ k, K0 ≤ k → RunTo k (p : Int) (m : Int) md N.q ex lg s n (j : Int) (N.cl c) (l : Int) (N.cl old) (N.nm g) (since : Int) (N.cl c') (l' : Int) := by
  intro n
  induction n with
  | zero =>
    intro j c old g l since hj B
    obtain rfl : j = s.length := by omega
    exact ⟨c, old, g, l, since, B, 0, fun k _ => .nil⟩
  | succ n ih =>
    intro j c old g l since hj B
    obtain ⟨b1, b2, b3, b4, b5⟩ := bm_bd B
    have pc : S.Po c := ⟨_, B.dc⟩
    have po : S.Po old := ⟨_, b1⟩
    have lc := N.cl_length_le B.dc
    have lo := N.cl_length_le b1
    obtain ⟨K1, h1⟩ := gap_ev G (N.cl c) s (by omega) (by omega) j (by omega)
    rw [N.lk_cl pc] at h1
    by_cases hd : (c * N.lk s) j = 0
    · obtain ⟨c', old', g', l', since', B', K2, h2⟩ := ih (j + 1) c old g l (since + 1) (by omega) (B.keep hd)
      rw [hd, N.nm_zero] at h1
      exact ⟨c', old', g', l', since', B', K1 + K2, fun k hk => .keep (h1 k (by omega)) ⟨by omega, by omega, by omega, by omega⟩ (h2 k (by omega))⟩
    · have h3 := div_ev G (N.nm ((c * N.lk s) j)) (N.nm g) (by rw [N.tk_nm]; exact b2)
      rw [N.tk_nm, N.tk_nm] at h3
      have hq : (c * N.lk s) j * Alg.inv g * g = (c * N.lk s) j := by rw [Alg.mul_assoc, inv_mul b2, mul_one]
      have B2 := B.next rfl hd hq
      obtain ⟨sc, ⟨K4, h4⟩, lsc, esc⟩ : ∃ sc : List Int, Ev (fun k => field_GF_Scale.f k (p : Int) (m : Int) md N.q ex lg (N.nm ((c * N.lk s) j * Alg.inv g)) (N.cl old)) (sc, (p : Int), (m : Int), N.q) ∧ sc.length = (N.cl old).length ∧ N.lk sc = S.C ((c * N.lk s) j * Alg.inv g) * old := by
        obtain ⟨r, r1, r2, _, r4⟩ := gscale_ev G (N.nm ((c * N.lk s) j * Alg.inv g)) (N.cl old) (by omega)
        rw [N.tk_nm, N.lk_cl po] at r4
        exact ⟨r, r1, r2, r4⟩
      obtain ⟨K5, h5⟩ := subp_ev G (N.cl c) (List.replicate since 0 ++ sc) (by omega) (by rw [List.length_append, List.length_replicate]; omega)
      rw [N.lk_cl pc, N.lk_append, N.lk_zeros, List.length_replicate, zero_add, esc, show S.pw since * (S.C ((c * N.lk s) j * Alg.inv g) * old) = S.C ((c * N.lk s) j * Alg.inv g) * (S.pw since * old) from ring_of [S.pw since, S.C ((c * N.lk s) j * Alg.inv g), old] (by decide +kernel)] at h5
      have hd0 : N.nm ((c * N.lk s) j) ≠ 0 := fun e => hd (N.nm_eq_zero.1 e)
      by_cases hl : 2 * l ≤ j
      · obtain ⟨c', old', g', l', since', B', K2, h2⟩ := ih (j + 1) _ c _ (j + 1 - l) 1 (by omega) (B2.1 hl)
        rw [show ((j + 1 - l : Nat) : Int) = (j : Int) + 1 - (l : Int) from by omega] at h2
        exact ⟨c', old', g', l', since', B', K1 + K2 + K4 + K5, fun k hk => .far (h1 k (by omega)) hd0 ⟨by omega, by omega, by omega, by omega, by omega⟩ h3 (h4 k (by omega)) (by rw [Int.toNat_natCast]; exact h5 k (by omega)) (by omega) (h2 k (by omega))⟩
      · obtain ⟨c', old', g', l', since', B', K2, h2⟩ := ih (j + 1) _ old g l (since + 1) (by omega) (B2.2 hl)
        exact ⟨c', old', g', l', since', B', K1 + K2 + K4 + K5, fun k hk => .near (h1 k (by omega)) hd0 ⟨by omega, by omega, by omega, by omega, by omega⟩ h3 (h4 k (by omega)) (by rw [Int.toNat_natCast]; exact h5 k (by omega)) (by omega) (h2 k (by omega))⟩
end
theorem kreg_pure {p m : Nat} [Two p] {md ex lg : List Int} (h : GOk p m md ex lg) (s : List Int) (h1 : 1 ≤ s.length) (h2 : s.length ≤ 20) :
    ∃ (k : Nat) (c : List Int) (l : Int), RunTo k (p : Int) (m : Int) md ((p : Int) ^ m) ex lg s s.length 0 [1] 0 [1] 1 1 c l ∧ 0 ≤ l ∧ l ≤ 20 ∧
      (2 * l ≤ s.length → ∃ V : List Int, SvR k (p : Int) (m : Int) md ((p : Int) ^ m) ex lg s (s.length : Int) 0 c V 0 ∧ codewrightlaw38_same.f k c c = some true) := by
  letI := fldOf h
  have R := rops h
  have G := gops h
  obtain ⟨c, old, g, l, since, B, K1, g1⟩ := run_ex G s (by omega) s.length 0 1 1 1 0 1 (Nat.zero_add _) (S.Bm.start _)
  rw [cl_one, (numsOf h).nm_one] at g1
  obtain ⟨b1, b2, b3, b4, b5⟩ := bm_bd B
  by_cases hl : 2 * l ≤ s.length
  · obtain ⟨a, w, old2, t, d, E, hd, hw, ho⟩ := solve_ex G s (by omega) s.length 0 (by omega)
    obtain ⟨v, v1, v2, v3⟩ := B.done
    have dn := E.dn
    have pw : S.Po w := ⟨_, E.db⟩
    have pt : S.Po t := S.Po.deg E.dt
    obtain ⟨o1, o2⟩ := eu_only E hd hw c v l l B.dc (by omega) v1 (by omega) v2
    have t0 : t 0 ≠ 0 := by
      obtain ⟨x, nx, hx, e⟩ := o2
      intro e0
      have := congrFun e 0
      rw [B.c0, S.mul_zero_at, e0, zero_mul] at this
      exact one_ne this
    obtain ⟨e0, _⟩ | ⟨_, K2, g2⟩ := ho
    · exact absurd e0 t0
    have dct : S.Dv c t := v3 t w (s.length + 1) (E.dt.1.mono (by omega)) (E.db.mono (by omega)) (by rw [o1]; exact Alg.mul_comm _ _)
    have tl : S.Lt (S.C (Alg.inv (t 0)) * t) (s.length + 1) := (S.Lt.C _).mul E.dt.1 (by omega)
    have d1 : S.Dv (S.C (Alg.inv (t 0)) * t) c := by
      obtain ⟨x, nx, hx, e⟩ := o2
      refine ⟨S.C (t 0) * x, nx, (S.Lt.C _).mul hx (by omega), ?_⟩
      rw [e]
      calc t * x = (S.C 1 : S _) * (t * x) := by rw [S.C_1, one_mul]
        _ = S.C (t 0 * Alg.inv (t 0)) * (t * x) := by rw [mul_inv t0]
        _ = _ := by rw [S.C_mul]; exact ring_of [S.C (t 0), S.C (Alg.inv (t 0)), t, x] (by decide +kernel)
    have d2 : S.Dv c (S.C (Alg.inv (t 0)) * t) := dct.mul' (S.Lt.C _)
    have eL := S.Dv.antisymm0 (sol_one E t0) B.c0 tl B.dc d1 d2
    rw [eL] at g2
    have lc := (numsOf h).cl_length_le B.dc
    obtain ⟨K3, g3⟩ := same_yes ((numsOf h).cl c) (by omega)
    exact ⟨K1 + K2 + K3, _, _, g1 _ (by omega), by omega, by omega, fun _ => ⟨_, g2 _ (by omega), g3 _ (by omega)⟩⟩
  · exact ⟨K1, _, _, g1 _ (by omega), by omega, by omega, fun e => absurd e (by omega)⟩
end Go.Proofs.Ytkdakjlopheefaa.PA
end
section
namespace Go.Proofs.Ytkdakjlopheefaa.PA
open Alg Go.RowKit Go.Proofs.YtkdakjlopheefaaW.PrintWords Go.Proofs.YtkdakjlopheefaaW.PrintLast Go.Proofs.YtkdakjlopheefaaW.PrintMore
set_option linter.unusedVariables false
set_option maxHeartbeats 4000000 in
set_option maxRecDepth 100000 in
theorem KeyequationRegisters_calls (P M : Int) (A : Option Addr) (c : Nat) (md : List Int) (Az : Option Addr) (cz : Nat) (lz : List Int) (w : World) (hr : Kd.C (Kd.int .i64) w A md.length md) (hc : md.length ≤ c) (hrz : Kd.C (Kd.int .i64) w Az lz.length lz) (hcz : lz.length ≤ cz) :
    Calls Try.prog 3 #[.agg #[.int .i64 P, .int .i64 M, .slice A md.length c], .slice Az lz.length cz] w fun e w' => e = .returned (.bool true) ∧ Below w.heap.size w w' := by
  have HR := Aside0.mk hr
  have HC := Aside0.mk hc
  have HRz := Aside0.mk hrz
  have HCz := Aside0.mk hcz
  clear hr hc  hrz hcz
  go_enter Try.func3, Try.ntmps3
  go_wp2_with fail
  refine (alive_calls _).mono ?_
  rintro e w2 ⟨rfl, hb⟩
  have HB := Aside0.mk (below_step (below_alloc (Below.refl _ w) _) hb)
  have BK := Aside0.mk (blk_below (blk_new w _) hb)
  clear hb
  have b0 := (blk_cell BK.out 0).trans rfl
  have b1 := (blk_cell BK.out 1).trans rfl
  have b2 := (blk_cell BK.out 2).trans rfl
  go_wp2_with fail
  refine (made_calls P M A c md _ (Kd.C_below HR.out HB.out) HC.out).mono ?_
  rintro e w3 ⟨v, rfl, h⟩
  rcases h with ⟨rfl, hb⟩ | ⟨g, rfl, W0, hb, hb2, p, m, ex, lg, rfl, rfl, ⟨ht, hG⟩, hI⟩
  · have HB2 := Aside0.mk (below_step HB.out hb)
    clear hb
    go_wp2
    go_ret
    exact ⟨rfl, HB2.out⟩
  · have C1 := Aside0.mk (below_step HB.out hb)
    have BK0 := Aside0.mk (blk_below BK.out hb)
    have S : St W0 w3 g p m md _ ex lg := ⟨hI, hb2⟩
    have HGO := Aside0.mk hG
    have XF := S.arg (Kd.C_below HR.out C1.out) HC.out
    have Xz := S.arg (Kd.C_below HRz.out C1.out) HCz.out
    clear hb hb2 hI hG b0 b1 b2 HB BK  HR HC HRz HCz
    by_cases hcA : (lz.length : Int) < 1
    · skip
      have d0 : decide ((lz.length : Int) < 1) = true := decide_eq_true (by omega)
      have e1 : lz = [] := List.length_eq_zero_iff.1 (by omega)
      subst e1
      go_wp2
      go_ret
      exact ⟨rfl, below_step C1.out S.B⟩
    by_cases hcA : 20 < (lz.length : Int)
    · skip
      have d0 : decide ((lz.length : Int) < 1) = false := decide_eq_false (by omega)
      have d1 : decide (20 < (lz.length : Int)) = true := decide_eq_true (by omega)
      have e1 : ¬ lz = [] := by rintro rfl; simp at hcA
      go_wp2
      go_ret
      exact ⟨rfl, below_step C1.out S.B⟩
    have d0 : decide ((lz.length : Int) < 1) = false := decide_eq_false (by omega)
    have d1 : decide (20 < (lz.length : Int)) = false := decide_eq_false (by omega)
    have e1 : ¬ lz = [] := by rintro rfl; simp at *
    have e2 : 0 < lz.length := List.length_pos_iff.2 e1
    obtain ⟨k, c2, n, h1, b1, b2, hz⟩ := kreg_pure HGO.out lz (by omega) (by omega)
    have H1 := Aside0.mk (show RunTo k p m md ((p : Int) ^ m) ex lg lz lz.length 0 [1] 0 [1] 1 1 c2 n ∧ lz.length ≤ 1000 from ⟨h1, by omega⟩)
    have HZ := Aside0.mk hz
    obtain ⟨n2, hn2⟩ : ∃ x : Int, x = 2 * n := ⟨_, rfl⟩
    have f0 : IntKind.i64.wrap (2 * n) = n2 := by rw [hn2, i64_w, w64 (by omega)]
    clear h1 hz HGO
    by_cases hcA : (lz.length : Int) < n2
    · skip
      have d0 : decide ((lz.length : Int) < 1) = false := decide_eq_false (by omega)
      have d1 : decide (20 < (lz.length : Int)) = false := decide_eq_false (by omega)
      have d2 : decide ((lz.length : Int) < n2) = true := decide_eq_true (by omega)
      clear hn2
      go_wp2_with fail
      refine (lfsr_Shortest.w k S Xz H1.out).mono ?_
      rintro e w5 ⟨Ac, cc, rfl, Xc, S2, hK⟩
      replace XF := (XF).step hK
      replace Xz := (Xz).step hK
      clear hK S
      have S := S2
      clear S2
      go_wp2
      go_ret
      exact ⟨rfl, below_step C1.out S.B⟩
    obtain ⟨V, h2, h3⟩ := HZ.out (by omega)
    have H2 := Aside0.mk h2
    have H3 := Aside0.mk h3
    have d0 : decide ((lz.length : Int) < 1) = false := decide_eq_false (by omega)
    have d1 : decide (20 < (lz.length : Int)) = false := decide_eq_false (by omega)
    have d2 : decide ((lz.length : Int) < n2) = false := decide_eq_false (by omega)
    clear h2 h3 HZ hn2
    go_wp2_with fail
    refine (lfsr_Shortest.w k S Xz H1.out).mono ?_
    rintro e w5 ⟨Ac, cc, rfl, Xc, S2, hK⟩
    replace XF := (XF).step hK
    replace Xz := (Xz).step hK
    clear hK S
    have S := S2
    clear S2
    go_wp2_with fail
    refine (keyequation_Solve.w k S Xz H2.out).mono ?_
    rintro e w6 ⟨AL, cL, AV, cV, rfl, XL, XV, S2, hK⟩
    replace XF := (XF).step hK
    replace Xz := (Xz).step hK
    replace Xc := (Xc).step hK
    clear hK S
    have S := S2
    clear S2
    go_wp2_with fail
    refine (codewrightlaw38_same.w k S XL Xc H3.out).mono ?_
    rintro e w7 ⟨rfl, S2, hK⟩
    replace XF := (XF).step hK
    replace Xz := (Xz).step hK
    replace Xc := (Xc).step hK
    replace XL := (XL).step hK
    replace XV := (XV).step hK
    clear hK S
    have S := S2
    clear S2
    go_wp2
    go_ret
    exact ⟨rfl, below_step C1.out S.B⟩
end Go.Proofs.Ytkdakjlopheefaa.PA
end
section
namespace Go.Proofs.Ytkdakjlopheefaa.PA
open Go.Joins Go.ChangeShapes Go.WideShapes Go.ChangeAt Go.RowKit Go.Proofs.YtkdakjlopheefaaW.PrintWords Go.Proofs.YtkdakjlopheefaaW.PrintLast Go.Proofs.YtkdakjlopheefaaW.PrintMore
set_option linter.unusedVariables false
set_option maxRecDepth 100000
theorem own : ownKnob Try.prog.godebug = none := by kernel_rfl
theorem laidOut : laidOutB Try.prog = true := by kernel_rfl
theorem reads_trod {H : Type} {enc : TypeId × Value → H} {P : Program} {w : World} {t e fuel : Nat} {v : Value} {x : DataW H × List MemPlace} (ht : P.underlying t = some (.slice e)) (he : P.underlying e = some (.int .i64)) (hc : P.cellsOf e = 1)
    (h : DataW.trod enc P w 0 (fun _ => true) true fuel t [v] = some x) : ∃ a l c, v = .slice a l.length c ∧ l.length ≤ c ∧ Kd.C (Kd.int .i64) w a l.length l := by
  rcases open_ints ht he hc h with ⟨hcs, _⟩ | ⟨a, len, cap, zs, hcs, _, hl, hm, hz, _, hcell, hwz⟩
  · injection hcs with hcs _
    subst hcs
    exact ⟨none, [], 0, rfl, Nat.le_refl _, Kd.C_nil _ _⟩
  · injection hcs with hcs _
    subst hcs
    have hz' : zs.length = cap := by simpa using hz
    obtain ⟨l, hl', hr, _, _, hcc⟩ := ReadsInt.ofRowC (k := .i64) (w := w) (a := some a) (len := len) (cap := cap) (zs := zs) (.inr ⟨a, rfl, hl, hm, hz', hcell, hwz⟩)
    subst hl'
    exact ⟨some a, l, cap, rfl, hcc, Kd.C_of_reads (d := (0 : Int)) (h1 := fun _ => rfl) hr⟩
theorem reads_field {H : Type} {enc : TypeId × Value → H} {w : World} {v : Value} {d : DataW H} {p : List MemPlace} (hv : Value.okWide Try.prog w .any 0 24 v) (h : DataW.Trod enc Try.prog w 0 (fun _ => true) true 24 v d p) :
    ∃ P M a l c, v = .agg #[.int .i64 P, .int .i64 M, .slice a l.length c] ∧ l.length ≤ c ∧ Kd.C (Kd.int .i64) w a l.length l := by
  obtain ⟨v0, v1, v2, y0, y1, y2, n, rfl, _, _, h0, h1, h2⟩ := open_agg3 Try.underlying24 (by kernel_rfl) (by kernel_rfl) hv h
  obtain ⟨n0, e0, _⟩ := DataW.trod_int Try.underlying3 h0
  obtain ⟨n1, e1, _⟩ := DataW.trod_int Try.underlying3 h1
  obtain ⟨a, l, c, rfl, hc, hC⟩ := reads_trod Try.underlying22 Try.underlying3 (by kernel_rfl) h2
  injection e0 with e0
  injection e1 with e1
  subst e0
  subst e1
  exact ⟨_, _, a, l, c, rfl, hc, hC⟩
end Go.Proofs.Ytkdakjlopheefaa.PA
end
section
namespace Go.Proofs.Ytkdakjlopheefaa.keyequationRegisters
open Go.Joins Go.ChangeShapes Go.WideShapes Go.ChangeAt Go.RowKit Go.Proofs.YtkdakjlopheefaaW.PrintWords Go.Proofs.YtkdakjlopheefaaW.PrintLast Go.Proofs.YtkdakjlopheefaaW.PrintMore Go.Proofs.Ytkdakjlopheefaa.PA
set_option linter.unusedVariables false
set_option maxRecDepth 100000 in
theorem lifted (os : Os) (started : os.Started) (H : Type) (enc : TypeId × Value → H) :
    ReturnsInHanded {} Try.checked os 3 .any (Rows.keyequationRegistersSpec.pre6 enc Try.prog Try.f3 Rows.keyequationRegistersRow.domain false) (Rows.keyequationRegistersSpec.post enc Try.prog Try.f3 false true false false) := by
  refine returnsInHanded_of_change_sized (C := Try.checked) own started (by kernel_rfl) Try.func3
    (ChangeSpec.witness6 (enc := enc) (C := Try.checked) false ⟨#[], #[.agg #[.int .i64 0, .int .i64 0, .slice none 0 0], .slice none 0 0], []⟩ 8 (by kernel_rfl) (by kernel_rfl) (by kernel_rfl) (by kernel_rfl)) ?_
  intro W base args ds gs before hval0 hW hcnd hsz0 _
  have hval : ∀ (j : Nat) t v, Try.f3.params[j]? = some t → args[j]? = some v → Value.okWide Try.prog W .any base t v := hval0
  have hW' := hW
  obtain ⟨p, q, hA0, hV, rfl, hfz, hnd⟩ := hW
  have hA : DataW.TrodAll enc Try.prog W 0 (fun _ => true) true Try.f3.params.toList args.toList ds p := hA0
  rw [Try.params3] at hA hval
  obtain ⟨v0, vs0, d0, ds0, p0, q0, hargs, rfl, rfl, h0, r0⟩ := trodAll_cons hA
  obtain ⟨v1, vs1, d1, ds1, p1, q1, rfl, rfl, rfl, h1, r1⟩ := trodAll_cons r0
  obtain ⟨rfl, rfl, rfl⟩ := trodAll_nil r1
  obtain rfl : args = #[v0, v1] := by cases args; simp_all
  obtain ⟨rfl, rfl⟩ := trodVars_none hV
  have k0 := h0
  have lt0 : ∀ x ∈ p0, x.block < W.heap.size := by obtain ⟨m, hm⟩ := k0; exact DataW.trod_lt m _ _ _ hm
  obtain ⟨P0, M0, A0, l0, c0, rfl, hc0, hC0⟩ := reads_field (hval 0 24 v0 rfl rfl) h0
  have k1 := h1
  have lt1 : ∀ x ∈ p1, x.block < W.heap.size := by obtain ⟨m, hm⟩ := k1; exact DataW.trod_lt m _ _ _ hm
  obtain ⟨A1, l1, c1, rfl, hc1, hC1⟩ : ∃ a l c, v1 = .slice a l.length c ∧ l.length ≤ c ∧ Kd.C (Kd.int .i64) W a l.length l := by
    obtain ⟨a, n, c, rfl⟩ := okWide_slice Try.underlying22 (hval 1 22 v1 rfl rfl)
    obtain ⟨fuel, hf⟩ := h1
    exact reads_trod Try.underlying22 Try.underlying3 (by kernel_rfl) hf
  clear hA0 hval0 hsz0
  refine (KeyequationRegisters_calls P0 M0 A0 c0 l0 A1 c1 l1 W hC0 hc0 hC1 hc1).mono fun e W' ⟨he, bel⟩ => ?_
  subst he
  exact ⟨_, rfl, _, _, _, [], _, [], hW', trodAll_mk1 (shut_bool Try.underlying4 _), (trodAll_cons_mk (Below.trod laidOut (by kernel_rfl) (of_decide_eq_true (by kernel_rfl)) k0 bel lt0) (trodAll_cons_mk (Below.trod laidOut (by kernel_rfl) (of_decide_eq_true (by kernel_rfl)) k1 bel lt1) trodAll_mk0)), rfl, bel.frame _, fun h => by cases h⟩
theorem over : Rows.keyequationRegistersRow.holds Try.pinned (OpenSpec.ofChange Rows.keyequationRegistersSpec) :=
  OpenClaim.holds_of_wide 3 Try.f3 rfl rfl rfl rfl rfl rfl rfl ⟨rfl, rfl, rfl, rfl, rfl⟩ rfl rfl rfl rfl rfl (by kernel_rfl) Try.func3 (by kernel_rfl)
    (of_decide_eq_true (by kernel_rfl)) (by unfold Func.isWrapper; first | (rw [if_pos (by decide +kernel)]; kernel_rfl) | (rw [if_neg (by decide +kernel)]; exact ⟨rfl, rfl⟩))
    (fun os started H enc _ => lifted os started H enc)
end Go.Proofs.Ytkdakjlopheefaa.keyequationRegisters
namespace Go.Proofs.Ytkdakjlopheefaa
theorem keyequationRegisters_holds : Rows.KeyequationRegistersSaid := keyequationRegisters.over
end Go.Proofs.Ytkdakjlopheefaa
end
