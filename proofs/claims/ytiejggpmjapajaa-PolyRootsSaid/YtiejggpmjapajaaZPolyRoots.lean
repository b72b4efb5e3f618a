/- Proved: for every input the law PolyRoots returns true and leaves its arguments as they were; no conditions. Part 6 of 6 of the proof. -/
import Derived.Test.YtiejggpmjapajaaZPolyRoots4
import Derived.IntWalk
import Derived.WalkSpells
import Derived.Deep.RegionLaw
import Derived.Deep.RegionHeldLaw
import Derived.Deep.DeepFit
import Derived.Deep.RegionHeld3
import Derived.RangeFuncNested
import Derived.RangeFuncBound
import Derived.RangeFuncCalls
import Derived.RangeFuncLeaves
import Derived.RangeFuncBox
import Derived.Shelf.Abstract
import Derived.WalkKit
import Derived.OwnWalkIn
import Derived.TacticsInMore
import Derived.LoopNIn
import Derived.LoopIn
import Derived.Maps.AppendAt
import Derived.Test.YtiejggpmjapajaaRows
import Derived.ProofKit
import Derived.OpenShut
import Derived.ShutString
import Derived.ChangeOld
import Derived.Below
import Derived.SizedLaws
import Derived.Lib.SmallJoins
import Derived.Deep.Matrix
set_option linter.unusedSectionVars false
set_option linter.unusedSimpArgs false
set_option linter.unusedVariables false
section
namespace Go.Proofs.Ytiejggpmjapajaa.PA
open Go.RowKit Go.Proofs.YtiejggpmjapajaaW.PrintWords Go.Proofs.YtiejggpmjapajaaW.PrintLast Go.Proofs.YtiejggpmjapajaaW.PrintMore
open Alg
structure FOk (p m : Nat) (md : List Int) : Prop where
  p2 : 2 ≤ p
  p256 : p ≤ 256
  m1 : 1 ≤ m
  m8 : m ≤ 8
  q256 : (p : Int) ^ m ≤ 256
  mdl : m = 1 ∧ md = [] ∨ 1 < m ∧ md.length = m
  mdin : InP p md
section
variable {p m : Nat} {md : List Int}
theorem FOk.pow_le (h : FOk p m md) {i : Nat} (hi : i ≤ m) : 1 ≤ (p : Int) ^ i ∧ (p : Int) ^ i ≤ 256 := by
  have h2 := h.p2
  have h1 := pow_pos (p := p) (by omega) i
  refine ⟨by omega, ?_⟩
  have : (p : Int) ^ i ≤ (p : Int) ^ m := by
    obtain ⟨k, rfl⟩ := Nat.exists_eq_add_of_le hi
    rw [Int.pow_add]
    have h3 := pow_pos (p := p) (by omega) k
    have h4 : (p : Int) ^ i * 1 ≤ (p : Int) ^ i * (p : Int) ^ k := Int.mul_le_mul_of_nonneg_left (by omega) (by omega)
    omega
  have := h.q256
  omega
theorem order_l0 (h : FOk p m md) (n i : Nat) (hi : i + n = m) : Ev (fun k => codewrightref04_Order.l0 k ((p : Int) ^ i) (i : Int) (p : Int) (m : Int) md) ((p : Int) ^ m) := by
  have h2 := h.p2
  induction n generalizing i with
  | zero =>
    refine Ev.succ ?_
    simp only [codewrightref04_Order.l0]
    refine Ev.ifn (by omega) (Ev.val ?_)
    rw [show i = m from by omega]
  | succ n ih =>
    refine Ev.succ ?_
    simp only [codewrightref04_Order.l0]
    have h8 := h.m8
    have hp := h.pow_le (i := i + 1) (by omega)
    have hp0 := h.pow_le (i := i) (by omega)
    rw [Int.pow_succ] at hp
    refine Ev.ifp (by omega) (Ev.ifn (by omega) (Ev.ifn ?_ ?_))
    · have h256 := h.p256
      have hd : 0 ≤ (256 : Int) / p ∧ (256 : Int) / p ≤ 256 := ⟨Int.ediv_nonneg (by omega) (by omega), Int.ediv_le_self _ (by omega)⟩
      rw [tdiv_pos (by omega), w64 (by omega)]
      have : (p : Int) ^ i ≤ 256 / p := Int.le_ediv_of_mul_le (by omega) hp.2
      omega
    · rw [w64 (by omega), w64 (by omega), ← Int.pow_succ]
      exact ih (i + 1) (by omega)
theorem order_ev (h : FOk p m md) : Ev (fun k => codewrightref04_Order.f k (p : Int) (m : Int) md) ((p : Int) ^ m) := by
  have h2 := h.p2; have h1 := h.m1; have h8 := h.m8
  unfold codewrightref04_Order.f
  refine Ev.ifn (by omega) (Ev.ifn (by omega) (Ev.succ ?_))
  simp only [codewrightref04_Order.j0]
  refine Ev.ifn (by simp; omega) ?_
  have := order_l0 h m 0 (by omega)
  rw [Int.pow_zero] at this; exact this
theorem is_ev (h : FOk p m md) (x : Int) : Ev (fun k => codewrightref04_Is.f k (p : Int) (m : Int) md x) (decide (0 ≤ x ∧ x < (p : Int) ^ m)) := by
  unfold codewrightref04_Is.f
  by_cases h0 : x ≥ 0
  · refine Ev.ifp h0 (Ev.bind (order_ev h) (Ev.val ?_))
    simp; omega
  · refine Ev.ifn h0 (Ev.val ?_)
    simp; omega
theorem in_ev (h : FOk p m md) (x : Int) : Ev (fun k => codewrightref04_In.f k (p : Int) (m : Int) md x) (inq ((p : Int) ^ m) x) := by
  unfold codewrightref04_In.f inq
  refine Ev.bind (is_ev h x) ?_
  by_cases hx : 0 ≤ x ∧ x < (p : Int) ^ m
  · refine Ev.ifp (by simpa using hx) (Ev.val (if_pos hx).symm)
  · refine Ev.ifn (by simpa using hx) (Ev.val (if_neg hx).symm)
theorem digits_l0 (hp : 2 ≤ p) (n i : Nat) (hi : i + n = m) (hm : m ≤ 1000) (x : Int) (h0 : 0 ≤ x) (hx : x ≤ 1000000) (out : List Int) (hl : out.length = m) :
    ∃ r : List Int, Ev (fun k => codewrightref04_digits.l0 k x (p : Int) (m : Int) out (i : Int)) r ∧ r.length = m ∧ ∀ j, j < m → r.getD j 0 = if j < i then out.getD j 0 else x / (p : Int) ^ (j - i) % p := by
  induction n generalizing i x out with
  | zero =>
    refine ⟨out, Ev.succ ?_, hl, fun j hj => by rw [if_pos (by omega)]⟩
    simp only [codewrightref04_digits.l0]
    exact Ev.ifn (by omega) (Ev.now _)
  | succ n ih =>
    have hd : 0 ≤ x / p ∧ x / p ≤ x := ⟨Int.ediv_nonneg h0 (by omega), Int.ediv_le_self _ h0⟩
    obtain ⟨r, hr, hrl, hrj⟩ := ih (i + 1) (by omega) (x / p) hd.1 (by omega) (out.set i (x % p)) (by rw [List.length_set, hl])
    refine ⟨r, Ev.succ ?_, hrl, fun j hj => ?_⟩
    · simp only [codewrightref04_digits.l0]
      refine Ev.ifp (by omega) (Ev.ifn (by omega) (Ev.ifp (by omega) (Ev.ifp (by omega) ?_)))
      rw [tdiv_pos h0, tmod_pos h0, w64 (by omega), w64 (by omega), Int.toNat_natCast]
      exact hr
    · rw [hrj j hj]
      by_cases h1 : j < i
      · rw [if_pos (by omega), if_pos h1, rd_set _ _ _ _ (by omega), if_neg (by omega)]
      · by_cases h2 : j = i
        · subst h2
          rw [if_pos (by omega), if_neg (by omega), rd_set _ _ _ _ (by omega), if_pos rfl, Nat.sub_self, Int.pow_zero, Int.ediv_one]
        · rw [if_neg (by omega), if_neg (by omega), show j - i = (j - (i + 1)) + 1 from by omega, div_succ]
theorem digits_ev (hp : 2 ≤ p) (hm : m ≤ 1000) (x : Int) (h0 : 0 ≤ x) (hx : x ≤ 1000000) :
    Ev (fun k => codewrightref04_digits.f k x (p : Int) (m : Int)) (digs p m x) := by
  obtain ⟨r, hr, hrl, hrj⟩ := digits_l0 hp m 0 (by omega) hm x h0 hx (List.replicate m 0) (by simp)
  have e : r = digs p m x := eq_digs hrl fun j hj => by rw [hrj j hj, if_neg (by omega), Nat.sub_zero]
  rw [← e]
  unfold codewrightref04_digits.f
  refine Ev.ifp (by omega) (Ev.ifp (by rw [Int.toNat_natCast]; omega) ?_)
  rw [Int.toNat_natCast]
  exact hr
theorem Digits_ev (h : FOk p m md) (x : Int) : Ev (fun k => codewrightref04_Digits.f k (p : Int) (m : Int) md x) (digs p m (inq ((p : Int) ^ m) x)) := by
  have h1 := h.pow_le (Nat.le_refl m)
  have h2 := inq_range (q := (p : Int) ^ m) (by omega) x
  have h8 := h.m8
  unfold codewrightref04_Digits.f
  exact Ev.bind (in_ev h x) (Ev.bind (digits_ev h.p2 (by omega) _ h2.1 (by omega)) (Ev.now _))
theorem value_l0 (hp : 2 ≤ p) (l : List Int) (hin : InP p l) (hq : (p : Int) ^ l.length ≤ 1000000) (hl : l.length ≤ 1000) (M : Int) (n : Nat) (hn : n ≤ l.length) :
    Ev (fun k => codewrightref04_Value.l0 k l (vl p (l.drop n)) ((n : Int) - 1) (p : Int) M md) (vl p l) := by
  induction n with
  | zero =>
    refine Ev.succ ?_
    simp only [codewrightref04_Value.l0]
    exact Ev.ifn (by omega) (Ev.val (by rw [List.drop_zero]))
  | succ n ih =>
    have hd : l.drop n = l.getD n 0 :: l.drop (n + 1) := by
      rw [List.drop_eq_getElem_cons (by omega), List.getD_eq_getElem?_getD, List.getElem?_eq_getElem (by omega)]; rfl
    have hin' : InP p (l.drop n) := fun x hx => hin x (List.mem_of_mem_drop hx)
    have hr := vl_range (p := p) (by omega) _ hin'
    have hpw : (p : Int) ^ (l.drop n).length ≤ 1000000 := by
      have h4 := pow_pos (p := p) (by omega) n
      have h5 := pow_pos (p := p) (by omega) (l.length - n)
      have e : (p : Int) ^ l.length = (p : Int) ^ (l.length - n) * (p : Int) ^ n := by rw [← Int.pow_add]; congr 1; omega
      have h6 : (p : Int) ^ (l.length - n) * 1 ≤ (p : Int) ^ (l.length - n) * (p : Int) ^ n := Int.mul_le_mul_of_nonneg_left (by omega) (by omega)
      rw [List.length_drop]; omega
    rw [hd] at hr hin'
    have hd0 := hin'.cons.1
    have hv := vl_range (p := p) (by omega) _ hin'.cons.2
    have hv0 : 0 ≤ (p : Int) * vl p (l.drop (n + 1)) := Int.mul_nonneg (by omega) hv.1
    have ev : vl p (l.getD n 0 :: l.drop (n + 1)) = l.getD n 0 + p * vl p (l.drop (n + 1)) := rfl
    rw [ev] at hr
    rw [List.length_cons] at hr
    have e1 : (p : Int) ^ ((l.drop (n + 1)).length + 1) = (p : Int) ^ (l.drop n).length := by congr 1; simp; omega
    rw [e1] at hr
    refine Ev.succ ?_
    simp only [codewrightref04_Value.l0]
    have e2 : (((n + 1 : Nat) : Int) - 1) = (n : Int) := by omega
    rw [e2]
    refine Ev.ifp (by omega) (Ev.ifp (by omega) (Ev.ifp (by omega) ?_))
    rw [rd_nat, w64 (n := (n : Int) - 1) (by omega), w64 (n := vl p (l.drop (n + 1)) * p) (by rw [Int.mul_comm]; omega)]
    rw [w64 (by rw [Int.mul_comm]; omega)]
    have e3 : vl p (l.drop (n + 1)) * (p : Int) + l.getD n 0 = vl p (l.drop n) := by rw [hd, ev, Int.mul_comm]; omega
    rw [e3]
    exact ih (by omega)
theorem value_ev (hp : 2 ≤ p) (l : List Int) (hin : InP p l) (hq : (p : Int) ^ l.length ≤ 1000000) (hl : l.length ≤ 1000) (M : Int) :
    Ev (fun k => codewrightref04_Value.f k (p : Int) M md l) (vl p l) := by
  unfold codewrightref04_Value.f
  have := value_l0 (md := md) hp l hin hq hl M l.length (Nat.le_refl _)
  rw [List.drop_length] at this
  rw [w64 (by omega)]
  exact this
end
end Go.Proofs.Ytiejggpmjapajaa.PA
end
section
namespace Go.Proofs.Ytiejggpmjapajaa.PA
open Go.RowKit Go.Proofs.YtiejggpmjapajaaW.PrintWords Go.Proofs.YtiejggpmjapajaaW.PrintLast Go.Proofs.YtiejggpmjapajaaW.PrintMore
open Alg
section
variable {p m : Nat} {md : List Int} [hp : Two p]
noncomputable def tkk (p : Nat) [Two p] (m : Nat) (md : List Int) (x : Int) : Rs (mdPoly (p := p) md m) := ofNum md m (inq ((p : Int) ^ m) x)
theorem inq_q (h : FOk p m md) (x : Int) : 0 ≤ inq ((p : Int) ^ m) x ∧ inq ((p : Int) ^ m) x < (p : Int) ^ m := by
  have h1 := h.pow_le (Nat.le_refl m); exact inq_range (by omega) x
theorem tkk_val (x : Int) : (tkk p m md x).1 = cz (digs p m (inq ((p : Int) ^ m) x)) := rfl
theorem vl_res (h : FOk p m md) {c : List Int} (hl : c.length = m) (hin : InP p c) {a : Rs (mdPoly (p := p) md m)} (e : cz c = a.1) :
    (0 ≤ vl p c ∧ vl p c < (p : Int) ^ m) ∧ tkk p m md (vl p c) = a := by
  have hp2 := h.p2
  have h1 := vl_range (p := p) (by omega) c hin
  rw [hl] at h1
  refine ⟨h1, Subtype.ext ?_⟩
  unfold tkk
  rw [inq_of h1]
  exact (ofNum_vl hl hin).trans e
theorem value_m (h : FOk p m md) {c : List Int} (hl : c.length = m) (hin : InP p c) : Ev (fun k => codewrightref04_Value.f k (p : Int) (m : Int) md c) (vl p c) := by
  have h8 := h.m8
  exact value_ev h.p2 c hin (by rw [hl]; have := h.q256; omega) (by omega) _
theorem emod_in (x : Int) : 0 ≤ x % (p : Int) ∧ x % (p : Int) < p := by
  have := hp.le
  exact ⟨Int.emod_nonneg _ (by omega), Int.emod_lt_of_pos _ (by omega)⟩
theorem inP_set {l : List Int} (h : InP p l) (i : Nat) {v : Int} (hv : 0 ≤ v ∧ v < p) : InP p (l.set i v) := by
  intro x hx
  rcases List.mem_or_eq_of_mem_set hx with h1 | h1
  · exact h x h1
  · rw [h1]; exact hv
theorem add_l0 (h : FOk p m md) (b : List Int) (hb : b.length = m) (hbi : InP p b) (n i : Nat) (hi : i + n = m) (a : List Int) (ha : a.length = m) (hai : InP p a) :
    ∃ c : List Int, c.length = m ∧ InP p c ∧ (∀ j, j < m → c.getD j 0 = if j < i then a.getD j 0 else (a.getD j 0 + b.getD j 0) % p) ∧ Ev (fun k => codewrightref04_Add.l0 k a b (i : Int) (p : Int) (m : Int) md) (vl p c) := by
  have h2 := h.p2; have h256 := h.p256; have h8 := h.m8
  induction n generalizing i a with
  | zero =>
    refine ⟨a, ha, hai, fun j hj => by rw [if_pos (by omega)], Ev.succ ?_⟩
    simp only [codewrightref04_Add.l0]
    exact Ev.ifn (by omega) (Ev.bind (value_m h ha hai) (Ev.now _))
  | succ n ih =>
    have e1 := inP_getD hai i
    have e2 := inP_getD hbi i
    have e3 := emod_in (p := p) (a.getD i 0 + b.getD i 0)
    obtain ⟨c, hc, hci, hcj, he⟩ := ih (i + 1) (by omega) (a.set i ((a.getD i 0 + b.getD i 0) % p)) (by rw [List.length_set, ha]) (inP_set hai i e3)
    clear e3
    refine ⟨c, hc, hci, fun j hj => ?_, Ev.succ ?_⟩
    · rw [hcj j hj]
      by_cases h1 : j = i
      · subst h1; rw [if_pos (by omega), if_neg (by omega), rd_set _ _ _ _ (by omega), if_pos rfl]
      · by_cases h3 : j < i
        · rw [if_pos (by omega), if_pos h3, rd_set _ _ _ _ (by omega), if_neg (by omega)]
        · rw [if_neg (by omega), if_neg h3, rd_set _ _ _ _ (by omega), if_neg (by omega)]
    · simp only [codewrightref04_Add.l0]
      refine Ev.ifp (by omega) ?_
      refine Ev.ifp (by omega) ?_
      refine Ev.ifp (by omega) ?_
      refine Ev.ifn (by omega) ?_
      rw [rd_nat, rd_nat, w64 (n := a.getD i 0 + b.getD i 0) (by omega), tmod_pos (by omega), w64 (by omega), Int.toNat_natCast]
      exact he
theorem radd (h : FOk p m md) (x y : Int) : ∃ r, Ev (fun k => codewrightref04_Add.f k (p : Int) (m : Int) md x y) r ∧ (0 ≤ r ∧ r < (p : Int) ^ m) ∧ tkk p m md r = tkk p m md x + tkk p m md y := by
  have h2 := h.p2
  obtain ⟨c, hc, hci, hcj, he⟩ := add_l0 h (digs p m (inq ((p : Int) ^ m) y)) (digs_length ..) (digs_in pos_of_two m _) m 0 (by omega) (digs p m (inq ((p : Int) ^ m) x)) (digs_length ..) (digs_in pos_of_two m _)
  refine ⟨vl p c, ?_, vl_res h hc hci ?_⟩
  · unfold codewrightref04_Add.f
    exact Ev.bind (Digits_ev h x) (Ev.bind (Digits_ev h y) he)
  · rw [Rs.add_val, tkk_val, tkk_val]
    ext j
    rw [S.add_at, cz_at, cz_at, cz_at]
    by_cases hj : j < m
    · rw [hcj j hj, if_neg (by omega), Zp.mk_emod, Zp.mk_add]
    · rw [getD_nat_lt _ _ (by omega), getD_nat_lt _ _ (by rw [digs_length]; omega), getD_nat_lt _ _ (by rw [digs_length]; omega), Zp.mk_zero, add_zero]
theorem neg_l0 (h : FOk p m md) (n i : Nat) (hi : i + n = m) (a : List Int) (ha : a.length = m) (hai : InP p a) :
    ∃ c : List Int, c.length = m ∧ InP p c ∧ (∀ j, j < m → c.getD j 0 = if j < i then a.getD j 0 else (p - a.getD j 0) % p) ∧ Ev (fun k => codewrightref04_Neg.l0 k a (i : Int) (p : Int) (m : Int) md) (vl p c) := by
  have h2 := h.p2; have h256 := h.p256; have h8 := h.m8
  induction n generalizing i a with
  | zero =>
    refine ⟨a, ha, hai, fun j hj => by rw [if_pos (by omega)], Ev.succ ?_⟩
    simp only [codewrightref04_Neg.l0]
    exact Ev.ifn (by omega) (Ev.bind (value_m h ha hai) (Ev.now _))
  | succ n ih =>
    have e1 := inP_getD hai i
    have e3 := emod_in (p := p) (p - a.getD i 0)
    obtain ⟨c, hc, hci, hcj, he⟩ := ih (i + 1) (by omega) (a.set i ((p - a.getD i 0) % p)) (by rw [List.length_set, ha]) (inP_set hai i e3)
    clear e3
    refine ⟨c, hc, hci, fun j hj => ?_, Ev.succ ?_⟩
    · rw [hcj j hj]
      by_cases h1 : j = i
      · subst h1; rw [if_pos (by omega), if_neg (by omega), rd_set _ _ _ _ (by omega), if_pos rfl]
      · by_cases h3 : j < i
        · rw [if_pos (by omega), if_pos h3, rd_set _ _ _ _ (by omega), if_neg (by omega)]
        · rw [if_neg (by omega), if_neg h3, rd_set _ _ _ _ (by omega), if_neg (by omega)]
    · simp only [codewrightref04_Neg.l0]
      refine Ev.ifp (by omega) ?_
      refine Ev.ifp (by omega) ?_
      refine Ev.ifn (by omega) ?_
      rw [rd_nat, w64 (n := (p : Int) - a.getD i 0) (by omega), tmod_pos (by omega), w64 (by omega), Int.toNat_natCast]
      exact he
theorem mk_neg_p (a : Int) : (Zp.mk ((p - a) % p) : Zp p) = -Zp.mk a := by
  rw [Zp.mk_emod, Zp.mk_sub, Zp.mk_p, sub_eq, zero_add]
theorem rneg (h : FOk p m md) (x : Int) : ∃ r, Ev (fun k => codewrightref04_Neg.f k (p : Int) (m : Int) md x) r ∧ (0 ≤ r ∧ r < (p : Int) ^ m) ∧ tkk p m md r = -tkk p m md x := by
  have h2 := h.p2
  obtain ⟨c, hc, hci, hcj, he⟩ := neg_l0 h m 0 (by omega) (digs p m (inq ((p : Int) ^ m) x)) (digs_length ..) (digs_in pos_of_two m _)
  refine ⟨vl p c, ?_, vl_res h hc hci ?_⟩
  · unfold codewrightref04_Neg.f
    exact Ev.bind (Digits_ev h x) he
  · rw [Rs.neg_val, tkk_val]
    ext j
    rw [S.neg_at, cz_at, cz_at]
    by_cases hj : j < m
    · rw [hcj j hj, if_neg (by omega), mk_neg_p]
    · rw [getD_nat_lt _ _ (by omega), getD_nat_lt _ _ (by rw [digs_length]; omega), Zp.mk_zero, neg_zero]
theorem cz_set (l : List Int) (n : Nat) (v : Int) (h : n < l.length) : (cz (l.set n v) : S (Zp p)) = cz l + S.C (Zp.mk v - Zp.mk (l.getD n 0)) * S.pw n := by
  ext i
  rw [cz_at, rd_set l n i v h, S.add_at, S.C_mul_at, S.pw_at]
  by_cases e : n = i
  · subst e; rw [if_pos rfl, if_pos rfl, mul_one, cz_at]; exact ring_of [(Zp.mk v : Zp p), Zp.mk (l.getD n 0)] (by decide +kernel)
  · rw [if_neg e, if_neg (fun h => e h.symm), mul_zero, add_zero]; rfl
theorem cz_cons (c : Int) (l : List Int) : (cz (c :: l) : S (Zp p)) = S.C (Zp.mk c) + S.X * cz l := by
  ext i; rw [S.add_at]; cases i with
  | zero => rw [S.C_zero, S.X_mul_zero, add_zero]; rfl
  | succ i => rw [S.C_succ, S.X_mul_succ, zero_add]; rfl
theorem cz_nil : (cz [] : S (Zp p)) = 0 := S.lt_zero (cz_lt [])
theorem drop_getD (l : List Int) (j : Nat) (h : j < l.length) : l.drop j = l.getD j 0 :: l.drop (j + 1) := by
  rw [List.drop_eq_getElem_cons h, List.getD_eq_getElem?_getD, List.getElem?_eq_getElem h]; rfl
def tz (l : List Int) (j : Nat) : S (Zp p) := S.pw j * cz (l.drop j)
theorem tz_step (l : List Int) (j : Nat) (h : j < l.length) : (tz l j : S (Zp p)) = S.C (Zp.mk (l.getD j 0)) * S.pw j + tz l (j + 1) := by
  unfold tz
  rw [drop_getD l j h, cz_cons, S.pw_succ]
  exact ring_of [(S.pw j : S (Zp p)), S.C (Zp.mk (l.getD j 0)), S.X, cz (l.drop (j + 1))] (by decide +kernel)
theorem tz_end (l : List Int) : (tz l l.length : S (Zp p)) = 0 := by unfold tz; rw [List.drop_length, cz_nil, mul_zero]
theorem tz_zero (l : List Int) : (tz l 0 : S (Zp p)) = cz l := by unfold tz; rw [List.drop_zero, S.pw_zero, one_mul]
theorem mul_l1 (h : FOk p m md) (a b : List Int) (ha : a.length = m) (hai : InP p a) (hb : b.length = m) (hbi : InP p b) (i : Nat) (hi : i < m) (n j : Nat) (hj : j + n = m) (c : List Int) (hc : c.length = 2 * m - 1) (hci : InP p c) :
    ∃ c' : List Int, c'.length = 2 * m - 1 ∧ InP p c' ∧ (cz c' : S (Zp p)) = cz c + S.C (Zp.mk (a.getD i 0)) * (S.pw i * tz b j) ∧
      ∀ r, Ev (fun k => codewrightref04_Mul.l0 k a b c' ((i + 1 : Nat) : Int) (p : Int) (m : Int) md) r → Ev (fun k => codewrightref04_Mul.l1 k a b c (i : Int) (j : Int) (p : Int) (m : Int) md) r := by
  have h2 := h.p2; have h256 := h.p256; have h8 := h.m8
  induction n generalizing j c with
  | zero =>
    refine ⟨c, hc, hci, ?_, fun r hr => Ev.succ ?_⟩
    · rw [show j = b.length from by omega, tz_end, mul_zero, mul_zero, add_zero]
    · simp only [codewrightref04_Mul.l1]
      refine Ev.ifn (by omega) ?_
      rw [w64 (by omega)]; exact hr
  | succ n ih =>
    have e1 := inP_getD hai i
    have e2 := inP_getD hbi j
    have e3 := inP_getD hci (i + j)
    have e4 := emod_in (p := p) (c.getD (i + j) 0 + a.getD i 0 * b.getD j 0)
    have e5 : 0 ≤ a.getD i 0 * b.getD j 0 ∧ a.getD i 0 * b.getD j 0 ≤ 256 * 256 := ⟨Int.mul_nonneg e1.1 e2.1, Int.mul_le_mul (by omega) (by omega) e2.1 (by omega)⟩
    obtain ⟨c', hc', hci', ec, he⟩ := ih (j + 1) (by omega) (c.set (i + j) ((c.getD (i + j) 0 + a.getD i 0 * b.getD j 0) % p)) (by rw [List.length_set, hc]) (inP_set hci _ e4)
    clear e4
    refine ⟨c', hc', hci', ?_, fun r hr => Ev.succ ?_⟩
    · rw [ec, cz_set _ _ _ (by omega), tz_step b j (by omega), Zp.mk_emod, Zp.mk_add, Zp.mk_mul]
      have e6 : (Zp.mk (c.getD (i + j) 0) + Zp.mk (a.getD i 0) * Zp.mk (b.getD j 0) - Zp.mk (c.getD (i + j) 0) : Zp p) = Zp.mk (a.getD i 0) * Zp.mk (b.getD j 0) :=
        ring_of [(Zp.mk (c.getD (i + j) 0) : Zp p), Zp.mk (a.getD i 0), Zp.mk (b.getD j 0)] (by decide +kernel)
      rw [e6, S.C_mul, S.pw_add]
      exact ring_of [(cz c : S (Zp p)), S.C (Zp.mk (a.getD i 0)), S.C (Zp.mk (b.getD j 0)), S.pw i, S.pw j, tz b (j + 1)] (by decide +kernel)
    · simp only [codewrightref04_Mul.l1]
      have ew : wrap64 ((i : Int) + (j : Int)) = ((i + j : Nat) : Int) := by rw [w64 (by omega)]; omega
      rw [ew]; clear ew
      refine Ev.ifp (by omega) ?_
      refine Ev.ifp (by omega) ?_
      refine Ev.ifp (by omega) ?_
      refine Ev.ifp (by omega) ?_
      refine Ev.ifp (by omega) ?_
      refine Ev.ifp (by omega) ?_
      refine Ev.ifp (by omega) ?_
      refine Ev.ifn (by omega) ?_
      rw [rd_nat, rd_nat, rd_nat, w64 (n := a.getD i 0 * b.getD j 0) (by omega), w64 (n := c.getD (i + j) 0 + a.getD i 0 * b.getD j 0) (by omega), tmod_pos (by omega), w64 (by omega), Int.toNat_natCast]
      exact he r hr
theorem mul_l0 (h : FOk p m md) (a b : List Int) (ha : a.length = m) (hai : InP p a) (hb : b.length = m) (hbi : InP p b) (n i : Nat) (hi : i + n = m) (c : List Int) (hc : c.length = 2 * m - 1) (hci : InP p c) :
    ∃ c' : List Int, c'.length = 2 * m - 1 ∧ InP p c' ∧ (cz c' : S (Zp p)) = cz c + tz a i * cz b ∧
      ∀ r, Ev (fun k => codewrightref04_Mul.l2 k c' (2 * (m : Int) - 2) (p : Int) (m : Int) md) r → Ev (fun k => codewrightref04_Mul.l0 k a b c (i : Int) (p : Int) (m : Int) md) r := by
  have h8 := h.m8; have h1 := h.m1
  induction n generalizing i c with
  | zero =>
    refine ⟨c, hc, hci, ?_, fun r hr => Ev.succ ?_⟩
    · rw [show i = a.length from by omega, tz_end, zero_mul, add_zero]
    · simp only [codewrightref04_Mul.l0]
      refine Ev.ifn (by omega) ?_
      rw [w64 (n := 2 * (m : Int)) (by omega), w64 (by omega)]; exact hr
  | succ n ih =>
    obtain ⟨c1, hc1, hci1, ec1, he1⟩ := mul_l1 h a b ha hai hb hbi i (by omega) m 0 (by omega) c hc hci
    obtain ⟨c2, hc2, hci2, ec2, he2⟩ := ih (i + 1) (by omega) c1 hc1 hci1
    refine ⟨c2, hc2, hci2, ?_, fun r hr => Ev.succ ?_⟩
    · rw [ec2, ec1, tz_zero, tz_step a i (by omega)]
      exact ring_of [(cz c : S (Zp p)), S.C (Zp.mk (a.getD i 0)), S.pw i, cz b, tz a (i + 1)] (by decide +kernel)
    · simp only [codewrightref04_Mul.l0]
      refine Ev.ifp (by omega) ?_
      exact he1 r (he2 r hr)
def tr (n : Nat) (a : S (Zp p)) : S (Zp p) := fun i => if i < n then a i else 0
theorem tr_add (n : Nat) (a b : S (Zp p)) : tr n (a + b) = tr n a + tr n b := by
  ext i; show (if i < n then a i + b i else 0) = (if i < n then a i else 0) + (if i < n then b i else 0)
  split
  · rfl
  · rw [add_zero]
theorem tr_of_lt {n : Nat} {a : S (Zp p)} (h : S.Lt a n) : tr n a = a := by
  ext i; show (if i < n then a i else 0) = a i
  split
  · rfl
  · rw [h i (by omega)]
theorem tr_succ (n : Nat) (a : S (Zp p)) : tr (n + 1) a = tr n a + S.C (a n) * S.pw n := by
  ext i
  rw [S.add_at, S.C_mul_at, S.pw_at]
  show (if i < n + 1 then a i else 0) = (if i < n then a i else 0) + _
  by_cases h1 : i = n
  · subst h1; rw [if_pos (by omega), if_neg (by omega), if_pos rfl, mul_one, zero_add]
  · rw [if_neg h1, mul_zero, add_zero]
    by_cases h2 : i < n
    · rw [if_pos (by omega), if_pos h2]
    · rw [if_neg (by omega), if_neg h2]
theorem mul_l3 (h : FOk p m md) (hm : md.length = m) (i : Nat) (hi : m ≤ i) (hi2 : i ≤ 2 * m - 2) (n j : Nat) (hj : j + n = m) (c : List Int) (hc : c.length = 2 * m - 1) (hci : InP p c) :
    ∃ c' : List Int, c'.length = 2 * m - 1 ∧ InP p c' ∧ (cz c' : S (Zp p)) = cz c - S.C (Zp.mk (c.getD i 0)) * (S.pw (i - m) * tz md j) ∧
      ∀ r, Ev (fun k => codewrightref04_Mul.l2 k c' ((i : Int) - 1) (p : Int) (m : Int) md) r → Ev (fun k => codewrightref04_Mul.l3 k c (i : Int) (j : Int) (p : Int) (m : Int) md) r := by
  have h2 := h.p2; have h256 := h.p256; have h8 := h.m8
  induction n generalizing j c with
  | zero =>
    refine ⟨c, hc, hci, ?_, fun r hr => Ev.succ ?_⟩
    · rw [show j = md.length from by omega, tz_end, mul_zero, mul_zero, sub_eq, neg_zero, add_zero]
    · simp only [codewrightref04_Mul.l3]
      refine Ev.ifn (by omega) ?_
      rw [w64 (by omega)]; exact hr
  | succ n ih =>
    have e1 := inP_getD hci i
    have e2 := inP_getD h.mdin j
    have e3 := inP_getD hci (i - m + j)
    have e5 : 0 ≤ ((p : Int) - c.getD i 0) * md.getD j 0 ∧ ((p : Int) - c.getD i 0) * md.getD j 0 ≤ 256 * 256 := ⟨Int.mul_nonneg (by omega) e2.1, Int.mul_le_mul (by omega) (by omega) e2.1 (by omega)⟩
    have e4 := emod_in (p := p) (c.getD (i - m + j) 0 + ((p : Int) - c.getD i 0) * md.getD j 0)
    obtain ⟨c', hc', hci', ec, he⟩ := ih (j + 1) (by omega) (c.set (i - m + j) ((c.getD (i - m + j) 0 + ((p : Int) - c.getD i 0) * md.getD j 0) % p)) (by rw [List.length_set, hc]) (inP_set hci _ e4)
    clear e4
    refine ⟨c', hc', hci', ?_, fun r hr => Ev.succ ?_⟩
    · rw [ec, rd_set _ _ _ _ (by omega), if_neg (by omega), cz_set _ _ _ (by omega), tz_step md j (by omega), Zp.mk_emod, Zp.mk_add, Zp.mk_mul, Zp.mk_sub, Zp.mk_p]
      have e6 : (Zp.mk (c.getD (i - m + j) 0) + (0 - Zp.mk (c.getD i 0)) * Zp.mk (md.getD j 0) - Zp.mk (c.getD (i - m + j) 0) : Zp p) = -(Zp.mk (c.getD i 0) * Zp.mk (md.getD j 0)) :=
        ring_of [(Zp.mk (c.getD (i - m + j) 0) : Zp p), Zp.mk (c.getD i 0), Zp.mk (md.getD j 0)] (by decide +kernel)
      rw [e6, S.C_neg, S.C_mul, S.pw_add]
      exact ring_of [(cz c : S (Zp p)), S.C (Zp.mk (c.getD i 0)), S.C (Zp.mk (md.getD j 0)), S.pw (i - m), S.pw j, tz md (j + 1)] (by decide +kernel)
    · simp only [codewrightref04_Mul.l3]
      have ew : wrap64 (wrap64 ((i : Int) - (m : Int)) + (j : Int)) = ((i - m + j : Nat) : Int) := by rw [w64 (n := (i : Int) - m) (by omega), w64 (by omega)]; omega
      rw [ew]; clear ew
      refine Ev.ifp (by omega) ?_
      refine Ev.ifp (by omega) ?_
      refine Ev.ifp (by omega) ?_
      refine Ev.ifp (by omega) ?_
      refine Ev.ifp (by omega) ?_
      refine Ev.ifp (by omega) ?_
      refine Ev.ifp (by omega) ?_
      refine Ev.ifn (by omega) ?_
      rw [rd_nat, rd_nat, rd_nat, w64 (n := (p : Int) - c.getD i 0) (by omega), w64 (n := ((p : Int) - c.getD i 0) * md.getD j 0) (by omega),
        w64 (n := c.getD (i - m + j) 0 + ((p : Int) - c.getD i 0) * md.getD j 0) (by omega), tmod_pos (by omega), w64 (by omega), Int.toNat_natCast]
      exact he r hr
theorem mul_l2 (h : FOk p m md) (hm : m = 1 ∨ md.length = m) (n i : Nat) (hn : i = m + n) (hi2 : i ≤ 2 * m - 1) (c : List Int) (hc : c.length = 2 * m - 1) (hci : InP p c) :
    ∃ d : List Int, d.length = m ∧ InP p d ∧ S.Cg (mdPoly (p := p) md m).q (tr i (cz c)) (cz d) ∧ Ev (fun k => codewrightref04_Mul.l2 k c ((i : Int) - 1) (p : Int) (m : Int) md) (vl p d) := by
  have h8 := h.m8; have h1 := h.m1
  induction n generalizing i c with
  | zero =>
    obtain rfl : i = m := by omega
    refine ⟨c.take i, by rw [List.length_take]; omega, fun x hx => hci x (List.mem_of_mem_take hx), ?_, Ev.succ ?_⟩
    · have e : tr i (cz c : S (Zp p)) = cz (c.take i) := by
        ext j
        show (if j < i then _ else 0) = Zp.mk ((c.take i).getD j 0)
        rw [List.getD_eq_getElem?_getD, List.getElem?_take]
        split
        · rw [← List.getD_eq_getElem?_getD]; rfl
        · rfl
      rw [e]; exact S.Cg.refl _ _
    · simp only [codewrightref04_Mul.l2]
      refine Ev.ifn (by omega) ?_
      refine Ev.ifp (by omega) ?_
      refine Ev.ifp (by omega) ?_
      rw [Int.toNat_natCast]
      exact Ev.bind (value_m h (by rw [List.length_take]; omega) (fun x hx => hci x (List.mem_of_mem_take hx))) (Ev.now _)
  | succ n ih =>
    have hm' : md.length = m := by rcases hm with h | h <;> omega
    obtain ⟨c1, hc1, hci1, ec1, he1⟩ := mul_l3 h hm' (i - 1) (by omega) (by omega) m 0 (by omega) c hc hci
    obtain ⟨d, hd, hdi, hcg, he⟩ := ih (i - 1) (by omega) (by omega) c1 hc1 hci1
    refine ⟨d, hd, hdi, S.Cg.trans ?_ hcg, Ev.succ ?_⟩
    ·
      obtain ⟨t, rfl⟩ : ∃ t, i = t + 1 := ⟨i - 1, by omega⟩
      rw [Nat.add_sub_cancel] at ec1 ⊢
      rw [tz_zero] at ec1
      refine ⟨S.C (Zp.mk (c.getD t 0)) * S.pw (t - m), t + 1, (S.Lt.C _).mul (S.Lt.pw (t - m)) (by omega), ?_⟩
      have hlt : S.Lt (S.C (Zp.mk (c.getD t 0)) * (S.pw (t - m) * cz md) : S (Zp p)) t :=
        (S.Lt.C _).mul ((S.Lt.pw (t - m)).mul (cz_lt md) (show t - m + md.length ≤ t by omega)) (by omega)
      have e1 : tr t (cz c1 : S (Zp p)) = tr t (cz c) - S.C (Zp.mk (c.getD t 0)) * (S.pw (t - m) * cz md) := by
        rw [ec1, sub_eq, tr_add, tr_of_lt hlt.neg]; rfl
      have e2 : (S.pw t : S (Zp p)) = S.pw (t - m) * S.pw m := by rw [← S.pw_add]; congr 1; omega
      rw [e1, tr_succ, cz_at, e2]
      show _ = _ + (cz (md.take m) + S.pw m) * _
      rw [List.take_of_length_le (by omega)]
      exact ring_of [tr t (cz c : S (Zp p)), S.C (Zp.mk (c.getD t 0)), S.pw (t - m), S.pw m, cz md] (by decide +kernel)
    · simp only [codewrightref04_Mul.l2]
      refine Ev.ifp (by omega) ?_
      have e3 : ((i : Int) - 1) = ((i - 1 : Nat) : Int) := by omega
      rw [e3]
      exact he1 _ he
theorem rmul (h : FOk p m md) (x y : Int) : ∃ r, Ev (fun k => codewrightref04_Mul.f k (p : Int) (m : Int) md x y) r ∧ (0 ≤ r ∧ r < (p : Int) ^ m) ∧ tkk p m md r = tkk p m md x * tkk p m md y := by
  have h2 := h.p2; have h8 := h.m8; have h1 := h.m1
  have hm : m = 1 ∨ md.length = m := by rcases h.mdl with h | h <;> omega
  obtain ⟨c, hc, hci, ec, he⟩ := mul_l0 h (digs p m (inq ((p : Int) ^ m) x)) (digs p m (inq ((p : Int) ^ m) y)) (digs_length ..) (digs_in pos_of_two m _) (digs_length ..) (digs_in pos_of_two m _) m 0 (by omega)
    (List.replicate (2 * m - 1) 0) (by simp) (fun z hz => by rw [List.eq_of_mem_replicate hz]; omega)
  rw [cz_zeros, zero_add, tz_zero] at ec
  obtain ⟨d, hd, hdi, hcg, hev⟩ := mul_l2 h hm (m - 1) (2 * m - 1) (by omega) (by omega) c hc hci
  have hlt := cz_lt (p := p) c
  rw [hc] at hlt
  rw [tr_of_lt hlt, ec] at hcg
  have hres : tkk p m md x * tkk p m md y = ⟨cz d, by have := cz_lt (p := p) d; rwa [hd] at this⟩ := Rs.mul_is hcg
  refine ⟨vl p d, ?_, vl_res h hd hdi (by rw [hres])⟩
  unfold codewrightref04_Mul.f
  refine Ev.bind (Digits_ev h x) (Ev.bind (Digits_ev h y) ?_)
  rw [w64 (n := 2 * (m : Int)) (by omega), w64 (by omega)]
  refine Ev.ifp (by omega) ?_
  refine Ev.ifp (by omega) ?_
  rw [show (2 * (m : Int) - 1).toNat = 2 * m - 1 from by omega]
  refine he _ ?_
  rw [show (2 * (m : Int) - 2) = ((2 * m - 1 : Nat) : Int) - 1 from by omega]
  exact hev
end
end Go.Proofs.Ytiejggpmjapajaa.PA
end
section
namespace Go.Proofs.Ytiejggpmjapajaa.PA
open Go.RowKit Go.Proofs.YtiejggpmjapajaaW.PrintWords Go.Proofs.YtiejggpmjapajaaW.PrintLast Go.Proofs.YtiejggpmjapajaaW.PrintMore
open Alg
section
variable {p m : Nat} {md : List Int}
theorem digitsOf_l0 (hp : 2 ≤ p) (n i : Nat) (hi : i + n = m) (hm : m ≤ 1000) (x : Int) (h0 : 0 ≤ x) (hx : x ≤ 1000000) (out : List Int) (hl : out.length = m) :
    ∃ r : List Int, Ev (fun k => field_digitsOf.l0 k x (p : Int) out (m : Int) (i : Int)) r ∧ r.length = m ∧ ∀ j, j < m → r.getD j 0 = if j < i then out.getD j 0 else x / (p : Int) ^ (j - i) % p := by
  induction n generalizing i x out with
  | zero =>
    refine ⟨out, Ev.succ ?_, hl, fun j hj => by rw [if_pos (by omega)]⟩
    simp only [field_digitsOf.l0]
    exact Ev.ifn (by omega) (Ev.now _)
  | succ n ih =>
    have hd : 0 ≤ x / p ∧ x / p ≤ x := ⟨Int.ediv_nonneg h0 (by omega), Int.ediv_le_self _ h0⟩
    obtain ⟨r, hr, hrl, hrj⟩ := ih (i + 1) (by omega) (x / p) hd.1 (by omega) (out.set i (x % p)) (by rw [List.length_set, hl])
    refine ⟨r, Ev.succ ?_, hrl, fun j hj => ?_⟩
    · simp only [field_digitsOf.l0]
      refine Ev.ifp (by omega) ?_
      refine Ev.ifn (by omega) ?_
      refine Ev.ifp (by omega) ?_
      refine Ev.ifp (by omega) ?_
      rw [tdiv_pos h0, tmod_pos h0, w64 (by omega), w64 (by omega), Int.toNat_natCast]
      exact hr
    · rw [hrj j hj]
      by_cases h1 : j < i
      · rw [if_pos (by omega), if_pos h1, rd_set _ _ _ _ (by omega), if_neg (by omega)]
      · by_cases h2 : j = i
        · subst h2
          rw [if_pos (by omega), if_neg (by omega), rd_set _ _ _ _ (by omega), if_pos rfl, Nat.sub_self, Int.pow_zero, Int.ediv_one]
        · rw [if_neg (by omega), if_neg (by omega), show j - i = (j - (i + 1)) + 1 from by omega, div_succ]
theorem digitsOf_ev (hp : 2 ≤ p) (hm : m ≤ 1000) (x : Int) (h0 : 0 ≤ x) (hx : x ≤ 1000000) :
    Ev (fun k => field_digitsOf.f k x (p : Int) (m : Int)) (digs p m x) := by
  obtain ⟨r, hr, hrl, hrj⟩ := digitsOf_l0 hp m 0 (by omega) hm x h0 hx (List.replicate m 0) (by simp)
  have e : r = digs p m x := eq_digs hrl fun j hj => by rw [hrj j hj, if_neg (by omega), Nat.sub_zero]
  rw [← e]
  unfold field_digitsOf.f
  refine Ev.ifp (by omega) (Ev.ifp (by rw [Int.toNat_natCast]; omega) (Ev.some_bind ?_))
  rw [Int.toNat_natCast, List.length_replicate]
  exact hr
theorem valueOf_l0 (hp : 2 ≤ p) (l : List Int) (hin : InP p l) (hq : (p : Int) ^ l.length ≤ 1000000) (hl : l.length ≤ 1000) (n : Nat) (hn : n ≤ l.length) :
    Ev (fun k => field_valueOf.l0 k l (p : Int) (vl p (l.drop n)) ((n : Int) - 1)) (vl p l) := by
  induction n with
  | zero =>
    refine Ev.succ ?_
    simp only [field_valueOf.l0]
    exact Ev.ifn (by omega) (Ev.val (by rw [List.drop_zero]))
  | succ n ih =>
    have hd := drop_getD l n (by omega)
    have hin' : InP p (l.drop n) := fun x hx => hin x (List.mem_of_mem_drop hx)
    have hr := vl_range (p := p) (by omega) _ hin'
    have hpw : (p : Int) ^ (l.drop n).length ≤ 1000000 := by
      have h4 := pow_pos (p := p) (by omega) n
      have h5 := pow_pos (p := p) (by omega) (l.length - n)
      have e : (p : Int) ^ l.length = (p : Int) ^ (l.length - n) * (p : Int) ^ n := by rw [← Int.pow_add]; congr 1; omega
      have h6 : (p : Int) ^ (l.length - n) * 1 ≤ (p : Int) ^ (l.length - n) * (p : Int) ^ n := Int.mul_le_mul_of_nonneg_left (by omega) (by omega)
      rw [List.length_drop]; omega
    rw [hd] at hr hin'
    have hd0 := hin'.cons.1
    have hv := vl_range (p := p) (by omega) _ hin'.cons.2
    have hv0 : 0 ≤ (p : Int) * vl p (l.drop (n + 1)) := Int.mul_nonneg (by omega) hv.1
    have ev : vl p (l.getD n 0 :: l.drop (n + 1)) = l.getD n 0 + p * vl p (l.drop (n + 1)) := rfl
    rw [ev] at hr
    rw [List.length_cons] at hr
    have e1 : (p : Int) ^ ((l.drop (n + 1)).length + 1) = (p : Int) ^ (l.drop n).length := by congr 1; simp; omega
    rw [e1] at hr
    refine Ev.succ ?_
    simp only [field_valueOf.l0]
    have e2 : (((n + 1 : Nat) : Int) - 1) = (n : Int) := by omega
    rw [e2]
    refine Ev.ifp (by omega) ?_
    refine Ev.ifp (by omega) ?_
    refine Ev.ifp (by omega) ?_
    rw [rd_nat, w64 (n := (n : Int) - 1) (by omega), w64 (n := vl p (l.drop (n + 1)) * p) (by rw [Int.mul_comm]; omega)]
    rw [w64 (by rw [Int.mul_comm]; omega)]
    have e3 : vl p (l.drop (n + 1)) * (p : Int) + l.getD n 0 = vl p (l.drop n) := by rw [hd, ev, Int.mul_comm]; omega
    rw [e3]
    exact ih (by omega)
theorem valueOf_ev (hp : 2 ≤ p) (l : List Int) (hin : InP p l) (hq : (p : Int) ^ l.length ≤ 1000000) (hl : l.length ≤ 1000) :
    Ev (fun k => field_valueOf.f k l (p : Int)) (vl p l) := by
  unfold field_valueOf.f
  have := valueOf_l0 hp l hin hq hl l.length (Nat.le_refl _)
  rw [List.drop_length] at this
  rw [w64 (by omega)]
  exact this
variable [hp : Two p]
def field_multiply.row (P M top bi : Int) (a Mod : List Int) : List Int → Nat → List Int
  | [], _ => []
  | o :: os, j => (o + (P - top) * (if M > 1 then rd Mod (j : Int) else 0) + bi * rd a (j : Int)) % P :: field_multiply.row P M top bi a Mod os (j + 1)
def field_multiply.go (P M : Int) (a b Mod : List Int) : Nat → List Int → List Int
  | 0, out => out
  | n + 1, out => field_multiply.go P M a b Mod n (field_multiply.row P M (rd out (M - 1)) (rd b (n : Int)) a Mod (0 :: out.take (out.length - 1)) 0)
theorem row_length (P M top bi : Int) (a Mod os : List Int) (j : Nat) : (field_multiply.row P M top bi a Mod os j).length = os.length := by
  induction os generalizing j with
  | nil => rfl
  | cons o os ih => simp [field_multiply.row, ih]
theorem row_at (P M top bi : Int) (a Mod os : List Int) (j i : Nat) (h : i < os.length) :
    (field_multiply.row P M top bi a Mod os j).getD i 0 = (os.getD i 0 + (P - top) * (if M > 1 then Mod.getD (j + i) 0 else 0) + bi * a.getD (j + i) 0) % P := by
  induction os generalizing j i with
  | nil => simp at h
  | cons o os ih =>
    cases i with
    | zero => simp only [field_multiply.row, List.getD_cons_zero, rd_nat, Nat.add_zero]
    | succ i =>
      simp only [field_multiply.row, List.getD_cons_succ]
      rw [ih (j + 1) i (by simpa using h), show j + 1 + i = j + (i + 1) from by omega]
theorem row_in (M top bi : Int) (a Mod os : List Int) (j : Nat) : InP p (field_multiply.row (p : Int) M top bi a Mod os j) := by
  induction os generalizing j with
  | nil => intro x hx; cases hx
  | cons o os ih =>
    intro x hx
    rcases List.mem_cons.1 hx with rfl | hx
    · exact emod_in _
    · exact ih (j + 1) x hx
theorem row_cz (h : FOk p m md) (top bi : Int) (a os : List Int) (ha : a.length = m) (hos : os.length = m) :
    (cz (field_multiply.row (p : Int) (m : Int) top bi a md os 0) : S (Zp p)) = cz os - S.C (Zp.mk top) * cz (md.take m) + S.C (Zp.mk bi) * cz a := by
  have h1 := h.m1
  ext j
  rw [S.add_at, S.sub_at, S.C_mul_at, S.C_mul_at, cz_at, cz_at, cz_at, cz_at]
  by_cases hj : j < m
  · rw [row_at _ _ _ _ _ _ _ _ _ (by omega), Zp.mk_emod, Zp.mk_add, Zp.mk_add, Zp.mk_mul, Zp.mk_mul, Zp.mk_sub, Zp.mk_p, Nat.zero_add]
    have e : (if (m : Int) > 1 then md.getD j 0 else 0) = (md.take m).getD j 0 := by
      rcases h.mdl with ⟨h2, h3⟩ | ⟨h2, h3⟩
      · rw [if_neg (by omega), h3]; simp
      · rw [if_pos (by omega), List.take_of_length_le (by omega)]
    rw [e]
    exact ring_of [(Zp.mk (os.getD j 0) : Zp p), Zp.mk top, Zp.mk ((md.take m).getD j 0), Zp.mk bi, Zp.mk (a.getD j 0)] (by decide +kernel)
  · rw [getD_nat_lt _ _ (by rw [row_length]; omega), getD_nat_lt os j (by omega), getD_nat_lt _ j (by rw [List.length_take]; omega), getD_nat_lt a j (by omega), Zp.mk_zero]
    exact ring_of [(Zp.mk top : Zp p), Zp.mk bi] (by decide +kernel)
theorem take_snoc_cz (l : List Int) (n : Nat) (h : n < l.length) : (cz (l.take (n + 1)) : S (Zp p)) = cz (l.take n) + S.C (Zp.mk (l.getD n 0)) * S.pw n := by
  ext j
  rw [S.add_at, S.C_mul_at, S.pw_at, cz_at, cz_at, List.getD_eq_getElem?_getD, List.getD_eq_getElem?_getD, List.getElem?_take, List.getElem?_take]
  by_cases e : j = n
  · subst e; rw [if_pos (by omega), if_neg (by omega), if_pos rfl, mul_one, ← List.getD_eq_getElem?_getD]
    show _ = Zp.mk 0 + _
    rw [Zp.mk_zero, zero_add]
  · rw [if_neg e, mul_zero, add_zero]
    by_cases h1 : j < n
    · rw [if_pos (by omega), if_pos h1]
    · rw [if_neg (by omega), if_neg h1]
theorem go_cg (h : FOk p m md) (a b : List Int) (ha : a.length = m) (hb : b.length = m) (n : Nat) (hn : n ≤ m) (out : List Int) (ho : out.length = m) (hoi : InP p out) :
    ∃ d : List Int, field_multiply.go (p : Int) (m : Int) a b md n out = d ∧ d.length = m ∧ InP p d ∧ S.Cg (mdPoly (p := p) md m).q (S.pw n * cz out + cz (b.take n) * cz a) (cz d) := by
  have h1 := h.m1
  induction n generalizing out with
  | zero =>
    refine ⟨out, rfl, ho, hoi, ?_⟩
    rw [List.take_zero, cz_nil, zero_mul, add_zero, S.pw_zero, one_mul]; exact S.Cg.refl _ _
  | succ n ih =>
    have hl : (0 :: out.take (out.length - 1)).length = m := by simp; omega
    obtain ⟨d, e, hd, hdi, hcg⟩ := ih (by omega) (field_multiply.row (p : Int) (m : Int) (rd out ((m : Int) - 1)) (rd b (n : Int)) a md (0 :: out.take (out.length - 1)) 0)
      (by rw [row_length]; exact hl) (row_in _ _ _ _ _ _ _)
    refine ⟨d, e, hd, hdi, S.Cg.trans ?_ hcg⟩
    rw [row_cz h _ _ _ _ ha hl, rd_nat, show ((m : Int) - 1) = ((m - 1 : Nat) : Int) from by omega, rd_nat, take_snoc_cz b n (by omega), cz_cons, Zp.mk_zero, S.C_0, zero_add, S.pw_succ]
    have e1 := take_snoc_cz (p := p) out (m - 1) (by omega)
    rw [show m - 1 + 1 = out.length from by omega, List.take_length] at e1
    have e2 : (S.X * S.pw (m - 1) : S (Zp p)) = S.pw m := by rw [← S.pw_succ]; congr 1; omega
    rw [ho]
    refine ⟨S.pw n * S.C (Zp.mk (out.getD (m - 1) 0)), n + 1, (S.Lt.pw n).mul (S.Lt.C _) (by omega), ?_⟩
    show _ = _ + (cz (md.take m) + S.pw m) * _
    rw [← e2, e1]
    exact ring_of [(S.X : S (Zp p)), S.pw n, cz (out.take (m - 1)), S.C (Zp.mk (out.getD (m - 1) 0)), S.pw (m - 1), cz (b.take n), S.C (Zp.mk (b.getD n 0)), cz a, cz (md.take m)] (by decide +kernel)
theorem mult_l1 (h : FOk p m md) (a b : List Int) (ha : a.length = m) (hai : InP p a) (hb : b.length = m) (hbi : InP p b) (i : Nat) (hi : i < m) (top : Int) (ht : 0 ≤ top ∧ top < p) (n j : Nat) (hj : j + n = m) (out : List Int) (ho : out.length = m) (hoi : InP p out) :
    ∃ out' : List Int, out'.length = m ∧ InP p out' ∧ (∀ t, t < m → out'.getD t 0 = if t < j then out.getD t 0 else (out.getD t 0 + (p - top) * (if (m : Int) > 1 then md.getD t 0 else 0) + b.getD i 0 * a.getD t 0) % p) ∧
      ∀ r, Ev (fun k => field_multiply.l0 k a b out' ((i : Int) - 1) (p : Int) (m : Int) md) r → Ev (fun k => field_multiply.l1 k a b out (i : Int) top (m : Int) (j : Int) (p : Int) (m : Int) md) r := by
  have h2 := h.p2; have h256 := h.p256; have h8 := h.m8
  induction n generalizing j out with
  | zero =>
    refine ⟨out, ho, hoi, fun t htm => by rw [if_pos (by omega)], fun r hr => Ev.succ ?_⟩
    simp only [field_multiply.l1]
    refine Ev.ifn (by omega) ?_
    rw [w64 (by omega)]; exact hr
  | succ n ih =>
    have e1 := inP_getD hbi i
    have e2 := inP_getD hai j
    have e3 := inP_getD hoi j
    have e7 := inP_getD h.mdin j
    have e5 : 0 ≤ b.getD i 0 * a.getD j 0 ∧ b.getD i 0 * a.getD j 0 ≤ 256 * 256 := ⟨Int.mul_nonneg e1.1 e2.1, Int.mul_le_mul (by omega) (by omega) e2.1 (by omega)⟩
    have e6 : 0 ≤ ((p : Int) - top) * md.getD j 0 ∧ ((p : Int) - top) * md.getD j 0 ≤ 256 * 256 := ⟨Int.mul_nonneg (by omega) e7.1, Int.mul_le_mul (by omega) (by omega) e7.1 (by omega)⟩
    obtain ⟨v, hv⟩ : ∃ v, v = (out.getD j 0 + ((p : Int) - top) * (if (m : Int) > 1 then md.getD j 0 else 0) + b.getD i 0 * a.getD j 0) % p := ⟨_, rfl⟩
    have hvr : 0 ≤ v ∧ v < p := by rw [hv]; exact emod_in _
    obtain ⟨out', hl', hi', hp', he⟩ := ih (j + 1) (by omega) (out.set j v) (by rw [List.length_set, ho]) (inP_set hoi j hvr)
    refine ⟨out', hl', hi', fun t htm => ?_, fun r hr => Ev.succ ?_⟩
    · rw [hp' t htm]
      by_cases h1 : t = j
      · subst h1; rw [if_pos (by omega), if_neg (by omega), rd_set _ _ _ _ (by omega), if_pos rfl, hv]
      · by_cases h3 : t < j
        · rw [if_pos (by omega), if_pos h3, rd_set _ _ _ _ (by omega), if_neg (by omega)]
        · rw [if_neg (by omega), if_neg h3, rd_set _ _ _ _ (by omega), if_neg (by omega)]
    · have h9 := he r hr
      simp only [field_multiply.l1]
      refine Ev.ifp (by omega) ?_
      by_cases hm1 : (m : Int) > 1
      · rw [if_pos hm1] at hv
        have hmd : md.length = m := by rcases h.mdl with h | h <;> omega
        refine Ev.ifp hm1 ?_
        refine Ev.ifp (by omega) ?_
        refine Ev.ifp (by omega) ?_
        refine Ev.ifp (by omega) ?_
        refine Ev.ifp (by omega) ?_
        refine Ev.ifp (by omega) ?_
        refine Ev.ifp (by omega) ?_
        refine Ev.ifn (by omega) ?_
        have ev : Int.tmod (wrap64 ((wrap64 ((rd out (j : Int)) + (wrap64 ((wrap64 ((p : Int) - top)) * (rd md (j : Int)))))) + (wrap64 ((rd b (i : Int)) * (rd a (j : Int)))))) (p : Int) = v := by
          clear h9 he hp'
          rw [rd_nat, rd_nat, rd_nat, rd_nat, w64 (n := (p : Int) - top) (by omega), w64 (n := ((p : Int) - top) * md.getD j 0) (by omega), w64 (n := b.getD i 0 * a.getD j 0) (by omega),
            w64 (n := out.getD j 0 + ((p : Int) - top) * md.getD j 0) (by omega), w64 (by omega), tmod_pos (by omega), hv]
        rw [ev, Int.toNat_natCast, w64 (by omega)]
        exact h9
      · rw [if_neg hm1, Int.mul_zero, Int.add_zero] at hv
        refine Ev.ifn hm1 ?_
        refine Ev.ifp (by omega) ?_
        refine Ev.ifp (by omega) ?_
        refine Ev.ifp (by omega) ?_
        refine Ev.ifp (by omega) ?_
        refine Ev.ifp (by omega) ?_
        refine Ev.ifn (by omega) ?_
        have ev : Int.tmod (wrap64 ((wrap64 ((rd out (j : Int)) + (wrap64 0))) + (wrap64 ((rd b (i : Int)) * (rd a (j : Int)))))) (p : Int) = v := by
          clear h9 he hp'
          rw [rd_nat, rd_nat, rd_nat, w64 (n := 0) (by omega), Int.add_zero, w64 (n := b.getD i 0 * a.getD j 0) (by omega), w64 (n := out.getD j 0) (by omega), w64 (by omega), tmod_pos (by omega), hv]
        rw [ev, Int.toNat_natCast, w64 (by omega)]
        exact h9
theorem shifted (out : List Int) (m : Nat) (hm : 1 ≤ m) (ho : out.length = m) : (splice out 1 (out.take (m - 1))).set 0 0 = 0 :: out.take (out.length - 1) := by
  have hl : (out.take (m - 1)).length = m - 1 := by rw [List.length_take]; omega
  apply List.ext_getElem?
  intro k
  rw [List.getElem?_set, splice_get _ _ _ (by omega), hl]
  cases k with
  | zero => rw [if_pos rfl, if_pos (by rw [length_splice _ _ _ (by omega)]; omega)]; rfl
  | succ k =>
    rw [if_neg (by omega), if_neg (by omega), List.getElem?_cons_succ, ho]
    by_cases h1 : k < m - 1
    · rw [if_pos (by omega), Nat.add_sub_cancel]
    · rw [if_neg (by omega), List.getElem?_eq_none (by omega), List.getElem?_eq_none (by omega)]
theorem mult_l0 (h : FOk p m md) (a b : List Int) (ha : a.length = m) (hai : InP p a) (hb : b.length = m) (hbi : InP p b) (n : Nat) (hn : n ≤ m) (out : List Int) (ho : out.length = m) (hoi : InP p out) :
    Ev (fun k => field_multiply.l0 k a b out ((n : Int) - 1) (p : Int) (m : Int) md) (vl p (field_multiply.go (p : Int) (m : Int) a b md n out)) := by
  have h2 := h.p2; have h8 := h.m8; have h1 := h.m1; have hq := h.q256
  induction n generalizing out with
  | zero =>
    refine Ev.succ ?_
    simp only [field_multiply.l0]
    exact Ev.ifn (by omega) (Ev.bind (valueOf_ev h2 out hoi (by rw [ho]; omega) (by omega)) (Ev.now _))
  | succ n ih =>
    have hs := shifted out m h1 ho
    have hsl : (0 :: out.take (out.length - 1)).length = m := by simp; omega
    have hsi : InP p (0 :: out.take (out.length - 1)) := by
      intro x hx
      rcases List.mem_cons.1 hx with rfl | hx
      · omega
      · exact hoi x (List.mem_of_mem_take hx)
    obtain ⟨out', hl', hi', hp', he⟩ := mult_l1 h a b ha hai hb hbi n (by omega) (out.getD (m - 1) 0) (inP_getD hoi _) m 0 (by omega) _ hsl hsi
    have er : out' = field_multiply.row (p : Int) (m : Int) (rd out ((m : Int) - 1)) (rd b (n : Int)) a md (0 :: out.take (out.length - 1)) 0 := by
      refine ext_getD (by rw [hl', row_length, hsl]) fun t ht => ?_
      rw [hp' t (by omega), if_neg (by omega), row_at _ _ _ _ _ _ _ _ _ (by omega), Nat.zero_add, show ((m : Int) - 1) = ((m - 1 : Nat) : Int) from by omega, rd_nat, rd_nat]
    have h3 := ih (by omega) out' hl' hi'
    rw [er] at h3
    have h4 := he _ (by rw [er]; exact h3)
    refine Ev.succ ?_
    simp only [field_multiply.l0]
    rw [show ((n + 1 : Nat) : Int) - 1 = (n : Int) from by omega, w64 (n := (m : Int) - 1) (by omega), show ((m : Int) - 1) = ((m - 1 : Nat) : Int) from by omega, rd_nat, Int.toNat_natCast, ho]
    refine Ev.ifp (by omega) ?_
    refine Ev.ifp (by omega) ?_
    refine Ev.ifp (by omega) ?_
    refine Ev.ifp (by omega) ?_
    rw [show (0 : Int).toNat = 0 from rfl, hs]
    exact h4
theorem pmul (h : FOk p m md) (x y : Int) (hx : 0 ≤ x ∧ x < (p : Int) ^ m) (hy : 0 ≤ y ∧ y < (p : Int) ^ m) :
    ∃ r, Ev (fun k => field_multiply.f k (p : Int) (m : Int) md x y) r ∧ (0 ≤ r ∧ r < (p : Int) ^ m) ∧ tkk p m md r = tkk p m md x * tkk p m md y := by
  have h2 := h.p2; have h8 := h.m8; have h1 := h.m1; have h256 := h.p256; have hq := h.q256
  obtain ⟨d, e, hd, hdi, hcg⟩ := go_cg h (digs p m x) (digs p m y) (digs_length ..) (digs_length ..) m (Nat.le_refl m) (List.replicate m 0) (by simp) (fun z hz => by rw [List.eq_of_mem_replicate hz]; omega)
  rw [cz_zeros, mul_zero, zero_add, List.take_of_length_le (by rw [digs_length]; exact Nat.le_refl m), mul_comm] at hcg
  have hres : tkk p m md x * tkk p m md y = ⟨cz d, by have := cz_lt (p := p) d; rwa [hd] at this⟩ := Rs.mul_is (by rw [tkk_val, tkk_val, inq_of hx, inq_of hy]; exact hcg)
  refine ⟨vl p d, ?_, vl_res h hd hdi (by rw [hres])⟩
  unfold field_multiply.f
  refine Ev.bind (digitsOf_ev h2 (by omega) x hx.1 (by omega)) (Ev.bind (digitsOf_ev h2 (by omega) y hy.1 (by omega)) ?_)
  refine Ev.ifp (by omega) (Ev.ifp (by omega) ?_)
  rw [Int.toNat_natCast, w64 (by omega)]
  have := mult_l0 h (digs p m x) (digs p m y) (digs_length ..) (digs_in pos_of_two m _) (digs_length ..) (digs_in pos_of_two m _) m (Nat.le_refl m) (List.replicate m 0) (by simp) (fun z hz => by rw [List.eq_of_mem_replicate hz]; omega)
  rw [e] at this
  exact this
def addl (p : Nat) : Nat → Int → Int → List Int
  | 0, _, _ => []
  | n + 1, x, y => (x % p + y % p) % p :: addl p n (x / p) (y / p)
theorem addl_length (n : Nat) (x y : Int) : (addl p n x y).length = n := by
  induction n generalizing x y with
  | zero => rfl
  | succ n ih => simp [addl, ih]
theorem addl_in (n : Nat) (x y : Int) : InP p (addl p n x y) := by
  induction n generalizing x y with
  | zero => intro z hz; cases hz
  | succ n ih =>
    intro z hz
    rcases List.mem_cons.1 hz with rfl | hz
    · exact emod_in _
    · exact ih _ _ z hz
theorem addl_cz (n : Nat) (x y : Int) : (cz (addl p n x y) : S (Zp p)) = cz (digs p n x) + cz (digs p n y) := by
  induction n generalizing x y with
  | zero => show cz [] = cz [] + cz []; rw [cz_nil, add_zero]
  | succ n ih =>
    show cz (_ :: addl p n (x / p) (y / p)) = cz (_ :: digs p n (x / p)) + cz (_ :: digs p n (y / p))
    rw [cz_cons, cz_cons, cz_cons, ih, Zp.mk_emod, Zp.mk_add, S.C_add]
    exact ring_of [(S.C (Zp.mk (x % p)) : S (Zp p)), S.C (Zp.mk (y % p)), S.X, cz (digs p n (x / p)), cz (digs p n (y / p))] (by decide +kernel)
theorem addl_zero (n : Nat) : vl p (addl p n 0 0) = 0 := by
  induction n with
  | zero => rfl
  | succ n ih => show ((0 : Int) % p + 0 % p) % p + p * vl p (addl p n (0 / p) (0 / p)) = 0; simp [ih]
theorem gin (q : Int) (ex lg : List Int) (x : Int) : field_GF_in.f (p : Int) (m : Int) md q ex lg x = some (inq q x, (p : Int), (m : Int), q) := by
  unfold field_GF_in.f field_GF_Is.f inq
  by_cases h : x ≥ 0
  · rw [if_pos h]; simp only [Option.bind_some, decide_eq_true_eq]
    by_cases h2 : x < q
    · rw [if_pos h2, if_pos ⟨h, h2⟩]
    · rw [if_neg h2, if_neg (fun hh => h2 hh.2)]
  · rw [if_neg h]; simp only [Option.bind_some]
    rw [if_neg (by simp), if_neg (fun hh => h hh.1)]
theorem gadd_l0 (h : FOk p m md) (q : Int) (ex lg : List Int) (n i : Nat) (hi : i + n = m) (x y s : Int) (hx : 0 ≤ x ∧ x < (p : Int) ^ n) (hy : 0 ≤ y ∧ y < (p : Int) ^ n) (hs : 0 ≤ s ∧ s < (p : Int) ^ i) :
    Ev (fun k => field_GF_Add.l0 k x y s ((p : Int) ^ i) (p : Int) (m : Int) md q ex lg) (s + (p : Int) ^ i * vl p (addl p n x y), (p : Int), (m : Int), q) := by
  have h2 := h.p2; have h256 := h.p256
  induction n generalizing i x y s with
  | zero =>
    rw [Int.pow_zero] at hx hy
    refine Ev.succ ?_
    simp only [field_GF_Add.l0]
    refine Ev.ifn (by omega) (Ev.ifn (by omega) (Ev.val ?_))
    show (s, _) = (s + _ * 0, _)
    rw [Int.mul_zero, Int.add_zero]
  | succ n ih =>
    by_cases hz : x = 0 ∧ y = 0
    · obtain ⟨rfl, rfl⟩ := hz
      refine Ev.succ ?_
      simp only [field_GF_Add.l0]
      refine Ev.ifn (by omega) (Ev.ifn (by omega) (Ev.val ?_))
      rw [addl_zero, Int.mul_zero, Int.add_zero]
    · have hpi := h.pow_le (i := i) (by omega)
      have hpi1 := h.pow_le (i := i + 1) (by omega)
      have hd1 := emod_in (p := p) x
      have hd2 := emod_in (p := p) y
      have hd3 := emod_in (p := p) (x % p + y % p)
      have hx1 : 0 ≤ x / p ∧ x / p < (p : Int) ^ n ∧ x / p ≤ x := ⟨Int.ediv_nonneg hx.1 (by omega), Int.ediv_lt_of_lt_mul (by omega) (by rw [← Int.pow_succ]; exact hx.2), Int.ediv_le_self _ hx.1⟩
      have hy1 : 0 ≤ y / p ∧ y / p < (p : Int) ^ n ∧ y / p ≤ y := ⟨Int.ediv_nonneg hy.1 (by omega), Int.ediv_lt_of_lt_mul (by omega) (by rw [← Int.pow_succ]; exact hy.2), Int.ediv_le_self _ hy.1⟩
      have hxq := h.pow_le (i := n + 1) (by omega)
      have em : Int.tmod (wrap64 (Int.tmod x p + Int.tmod y p)) (p : Int) = (x % p + y % p) % p := by
        rw [tmod_pos hx.1, tmod_pos hy.1]
        generalize x % (p : Int) = u at *
        generalize y % (p : Int) = v at *
        clear hd3
        rw [w64 (by omega), tmod_pos (by omega)]
      generalize hu : (x % p + y % p) % (p : Int) = u at em hd3
      have hu' : s + u * (p : Int) ^ i < (p : Int) ^ (i + 1) ∧ 0 ≤ u * (p : Int) ^ i := by
        have h3 : u * (p : Int) ^ i ≤ (p - 1) * (p : Int) ^ i := Int.mul_le_mul_of_nonneg_right (by omega) (by omega)
        have h4 : ((p : Int) - 1) * (p : Int) ^ i = (p : Int) ^ (i + 1) - (p : Int) ^ i := by rw [Int.pow_succ, Int.sub_mul, Int.one_mul, Int.mul_comm]
        have h5 := Int.mul_nonneg hd3.1 (show (0 : Int) ≤ (p : Int) ^ i by omega)
        omega
      have goal := ih (i + 1) (by omega) (x / p) (y / p) (s + u * (p : Int) ^ i) ⟨hx1.1, hx1.2.1⟩ ⟨hy1.1, hy1.2.1⟩ ⟨by omega, hu'.1⟩
      have ev : s + u * (p : Int) ^ i + (p : Int) ^ (i + 1) * vl p (addl p n (x / p) (y / p)) = s + (p : Int) ^ i * vl p (addl p (n + 1) x y) := by
        show _ = s + (p : Int) ^ i * ((x % p + y % p) % p + p * vl p (addl p n (x / p) (y / p)))
        rw [hu, Int.mul_add, Int.pow_succ, Int.mul_comm u, Int.mul_assoc, Int.add_assoc]
      rw [ev] at goal
      have body : Ev (fun k => field_GF_Add.l0 k (wrap64 (Int.tdiv x p)) (wrap64 (Int.tdiv y p)) (wrap64 (s + wrap64 (Int.tmod (wrap64 (Int.tmod x p + Int.tmod y p)) (p : Int) * (p : Int) ^ i))) (wrap64 ((p : Int) ^ i * p)) (p : Int) (m : Int) md q ex lg) (s + (p : Int) ^ i * vl p (addl p (n + 1) x y), (p : Int), (m : Int), q) := by
        rw [em, tdiv_pos hx.1, tdiv_pos hy.1, w64 (n := x / p) (by omega), w64 (n := y / p) (by omega), w64 (n := u * (p : Int) ^ i) (by omega), w64 (n := s + u * (p : Int) ^ i) (by omega), ← Int.pow_succ, w64 (n := (p : Int) ^ (i + 1)) (by omega)]
        exact goal
      clear goal ev em hu
      refine Ev.succ ?_
      simp only [field_GF_Add.l0]
      by_cases hx0 : x > 0
      · refine Ev.ifp hx0 (Ev.ifn (by omega) ?_); exact body
      · refine Ev.ifn hx0 (Ev.ifp (by omega) (Ev.ifn (by omega) ?_)); exact body
theorem xor_addl (n : Nat) (a b : Nat) (ha : a < 2 ^ n) (hb : b < 2 ^ n) : (((a ^^^ b : Nat) : Nat) : Int) = vl 2 (addl 2 n (a : Int) (b : Int)) := by
  induction n generalizing a b with
  | zero => simp at ha hb; subst ha; subst hb; rfl
  | succ n ih =>
    have h1 := ih (a / 2) (b / 2) (by rw [Nat.pow_succ] at ha; omega) (by rw [Nat.pow_succ] at hb; omega)
    show _ = ((a : Int) % (2 : Nat) + (b : Int) % (2 : Nat)) % (2 : Nat) + (2 : Nat) * vl 2 (addl 2 n ((a : Int) / (2 : Nat)) ((b : Int) / (2 : Nat)))
    have e1 : ((a : Int) / (2 : Nat)) = ((a / 2 : Nat) : Int) := by omega
    have e2 : ((b : Int) / (2 : Nat)) = ((b / 2 : Nat) : Int) := by omega
    rw [e1, e2, ← h1]
    have e3 : (a ^^^ b) % 2 = (a % 2 + b % 2) % 2 := by have := @Nat.xor_mod_two_eq_one a b; omega
    have e4 : (a ^^^ b) / 2 = a / 2 ^^^ b / 2 := Nat.xor_div_two
    omega
theorem bits_i64 (a b : Nat) (ha : a < 1000000) (hb : b < 1000000) : Go.bits .xor .i64 (a : Int) (b : Int) = ((a ^^^ b : Nat) : Int) := by
  have hx : a ^^^ b < 2 ^ 20 := Nat.xor_lt_two_pow (by omega) (by omega)
  show IntKind.i64.wrap ((BitVec.ofInt 64 (a : Int) ^^^ BitVec.ofInt 64 (b : Int)).toNat : Int) = _
  have e1 : (BitVec.ofInt 64 (a : Int)).toNat = a := by simp; omega
  have e2 : (BitVec.ofInt 64 (b : Int)).toNat = b := by simp; omega
  rw [BitVec.toNat_xor, e1, e2]
  exact IntWalk.i64_in _ (by omega)
theorem gadd' (h : FOk p m md) (ex lg : List Int) (x y : Int) : ∃ r, Ev (fun k => field_GF_Add.f k (p : Int) (m : Int) md ((p : Int) ^ m) ex lg x y) (r, (p : Int), (m : Int), (p : Int) ^ m) ∧ (0 ≤ r ∧ r < (p : Int) ^ m) ∧ tkk p m md r = tkk p m md x + tkk p m md y := by
  have h2 := h.p2; have hq := h.q256
  have hx := inq_q h x
  have hy := inq_q h y
  refine ⟨vl p (addl p m (inq ((p : Int) ^ m) x) (inq ((p : Int) ^ m) y)), ?_, vl_res h (addl_length ..) (addl_in m _ _) (by rw [Rs.add_val, tkk_val, tkk_val]; exact addl_cz _ _ _)⟩
  unfold field_GF_Add.f
  refine Ev.opt_bind (gin _ _ _ _) (Ev.opt_bind (gin _ _ _ _) ?_)
  by_cases hp2 : (p : Int) = 2
  · refine Ev.ifp hp2 (Ev.val ?_)
    obtain rfl : p = 2 := by omega
    obtain ⟨A, hA⟩ := Int.eq_ofNat_of_zero_le hx.1
    obtain ⟨B, hB⟩ := Int.eq_ofNat_of_zero_le hy.1
    show (Go.bits .xor .i64 (inq _ x) (inq _ y), _) = _
    have hA2 : A < 2 ^ m := by have := hx.2; rw [hA] at this; exact_mod_cast this
    have hB2 : B < 2 ^ m := by have := hy.2; rw [hB] at this; exact_mod_cast this
    rw [hA, hB, bits_i64 A B (by omega) (by omega), xor_addl m A B hA2 hB2]
  · refine Ev.ifn hp2 ?_
    have := gadd_l0 h ((p : Int) ^ m) ex lg m 0 (by omega) _ _ 0 hx hy ⟨Int.le_refl 0, by rw [Int.pow_zero]; omega⟩
    rw [Int.pow_zero, Int.one_mul, Int.zero_add] at this
    exact this
end
end Go.Proofs.Ytiejggpmjapajaa.PA
end
section
namespace Go.Proofs.Ytiejggpmjapajaa.PA
open Go.RowKit Go.Proofs.YtiejggpmjapajaaW.PrintWords Go.Proofs.YtiejggpmjapajaaW.PrintLast Go.Proofs.YtiejggpmjapajaaW.PrintMore
open Alg
open Alg.S (npow)
section
variable {p m : Nat} {md : List Int} [hp : Two p]
def negl (p : Nat) : Nat → Int → List Int
  | 0, _ => []
  | n + 1, x => (p - x % p) % p :: negl p n (x / p)
theorem negl_length (n : Nat) (x : Int) : (negl p n x).length = n := by
  induction n generalizing x with
  | zero => rfl
  | succ n ih => simp [negl, ih]
theorem negl_in (n : Nat) (x : Int) : InP p (negl p n x) := by
  induction n generalizing x with
  | zero => intro z hz; cases hz
  | succ n ih =>
    intro z hz
    rcases List.mem_cons.1 hz with rfl | hz
    · exact emod_in _
    · exact ih _ z hz
theorem negl_cz (n : Nat) (x : Int) : (cz (negl p n x) : S (Zp p)) = -cz (digs p n x) := by
  induction n generalizing x with
  | zero => show cz [] = -cz []; rw [cz_nil, neg_zero]
  | succ n ih =>
    show cz (_ :: negl p n (x / p)) = -cz (_ :: digs p n (x / p))
    rw [cz_cons, cz_cons, ih, mk_neg_p, S.C_neg]
    exact ring_of [(S.C (Zp.mk (x % p)) : S (Zp p)), S.X, cz (digs p n (x / p))] (by decide +kernel)
theorem negl_zero (n : Nat) : vl p (negl p n 0) = 0 := by
  induction n with
  | zero => rfl
  | succ n ih => show ((p : Int) - 0 % p) % p + p * vl p (negl p n (0 / p)) = 0; simp [ih]
theorem gneg_l0 (h : FOk p m md) (q : Int) (ex lg : List Int) (n i : Nat) (hi : i + n = m) (x s : Int) (hx : 0 ≤ x ∧ x < (p : Int) ^ n) (hs : 0 ≤ s ∧ s < (p : Int) ^ i) :
    Ev (fun k => field_GF_Neg.l0 k x s ((p : Int) ^ i) (p : Int) (m : Int) md q ex lg) (s + (p : Int) ^ i * vl p (negl p n x), (p : Int), (m : Int), q) := by
  have h2 := h.p2; have h256 := h.p256
  induction n generalizing i x s with
  | zero =>
    rw [Int.pow_zero] at hx
    refine Ev.succ ?_
    simp only [field_GF_Neg.l0]
    refine Ev.ifn (by omega) (Ev.val ?_)
    show (s, _) = (s + _ * 0, _)
    rw [Int.mul_zero, Int.add_zero]
  | succ n ih =>
    by_cases hz : x = 0
    · obtain rfl := hz
      refine Ev.succ ?_
      simp only [field_GF_Neg.l0]
      refine Ev.ifn (by omega) (Ev.val ?_)
      rw [negl_zero, Int.mul_zero, Int.add_zero]
    · have hpi := h.pow_le (i := i) (by omega)
      have hpi1 := h.pow_le (i := i + 1) (by omega)
      have hd1 := emod_in (p := p) x
      have hd3 := emod_in (p := p) (p - x % p)
      have hx1 : 0 ≤ x / p ∧ x / p < (p : Int) ^ n ∧ x / p ≤ x := ⟨Int.ediv_nonneg hx.1 (by omega), Int.ediv_lt_of_lt_mul (by omega) (by rw [← Int.pow_succ]; exact hx.2), Int.ediv_le_self _ hx.1⟩
      have hxq := h.pow_le (i := n + 1) (by omega)
      have em : Int.tmod (wrap64 ((p : Int) - Int.tmod x p)) (p : Int) = (p - x % p) % p := by
        rw [tmod_pos hx.1]
        generalize x % (p : Int) = u at *
        clear hd3
        rw [w64 (by omega), tmod_pos (by omega)]
      generalize hu : ((p : Int) - x % p) % (p : Int) = u at em hd3
      have hu' : s + u * (p : Int) ^ i < (p : Int) ^ (i + 1) ∧ 0 ≤ u * (p : Int) ^ i := by
        have h3 : u * (p : Int) ^ i ≤ (p - 1) * (p : Int) ^ i := Int.mul_le_mul_of_nonneg_right (by omega) (by omega)
        have h4 : ((p : Int) - 1) * (p : Int) ^ i = (p : Int) ^ (i + 1) - (p : Int) ^ i := by rw [Int.pow_succ, Int.sub_mul, Int.one_mul, Int.mul_comm]
        have h5 := Int.mul_nonneg hd3.1 (show (0 : Int) ≤ (p : Int) ^ i by omega)
        omega
      have goal := ih (i + 1) (by omega) (x / p) (s + u * (p : Int) ^ i) ⟨hx1.1, hx1.2.1⟩ ⟨by omega, hu'.1⟩
      have ev : s + u * (p : Int) ^ i + (p : Int) ^ (i + 1) * vl p (negl p n (x / p)) = s + (p : Int) ^ i * vl p (negl p (n + 1) x) := by
        show _ = s + (p : Int) ^ i * ((p - x % p) % p + p * vl p (negl p n (x / p)))
        rw [hu, Int.mul_add, Int.pow_succ, Int.mul_comm u, Int.mul_assoc, Int.add_assoc]
      rw [ev] at goal
      have body : Ev (fun k => field_GF_Neg.l0 k (wrap64 (Int.tdiv x p)) (wrap64 (s + wrap64 (Int.tmod (wrap64 ((p : Int) - Int.tmod x p)) (p : Int) * (p : Int) ^ i))) (wrap64 ((p : Int) ^ i * p)) (p : Int) (m : Int) md q ex lg) (s + (p : Int) ^ i * vl p (negl p (n + 1) x), (p : Int), (m : Int), q) := by
        rw [em, tdiv_pos hx.1, w64 (n := x / p) (by omega), w64 (n := u * (p : Int) ^ i) (by omega), w64 (n := s + u * (p : Int) ^ i) (by omega), ← Int.pow_succ, w64 (n := (p : Int) ^ (i + 1)) (by omega)]
        exact goal
      clear goal ev em hu
      refine Ev.succ ?_
      simp only [field_GF_Neg.l0]
      refine Ev.ifp (by omega) (Ev.ifn (by omega) ?_); exact body
theorem gneg' (h : FOk p m md) (ex lg : List Int) (x : Int) : ∃ r, Ev (fun k => field_GF_Neg.f k (p : Int) (m : Int) md ((p : Int) ^ m) ex lg x) (r, (p : Int), (m : Int), (p : Int) ^ m) ∧ (0 ≤ r ∧ r < (p : Int) ^ m) ∧ tkk p m md r = -tkk p m md x := by
  have h2 := h.p2
  have hx := inq_q h x
  refine ⟨vl p (negl p m (inq ((p : Int) ^ m) x)), ?_, vl_res h (negl_length ..) (negl_in m _) (by rw [Rs.neg_val, tkk_val]; exact negl_cz _ _)⟩
  unfold field_GF_Neg.f
  refine Ev.opt_bind (gin _ _ _ _) ?_
  have := gneg_l0 h ((p : Int) ^ m) ex lg m 0 (by omega) _ 0 hx ⟨Int.le_refl 0, by rw [Int.pow_zero]; omega⟩
  rw [Int.pow_zero, Int.one_mul, Int.zero_add] at this
  exact this
theorem nodup_le (n : Nat) (l : List Int) (hd : l.Nodup) (hr : ∀ x, x ∈ l → 1 ≤ x ∧ x < (n : Int) + 1) : l.length ≤ n := by
  induction n generalizing l with
  | zero =>
    cases l with
    | nil => exact Nat.le_refl _
    | cons a l => have := hr a (by simp); omega
  | succ n ih =>
    by_cases hm : ((n : Int) + 1) ∈ l
    · have h1 := ih (l.erase ((n : Int) + 1)) (hd.erase _) fun x hx => by
        have h2 := hr x (List.mem_of_mem_erase hx)
        have h3 : x ≠ (n : Int) + 1 := fun e => by subst e; exact (hd.not_mem_erase) hx
        omega
      rw [List.length_erase_of_mem hm] at h1; omega
    · have h1 := ih l hd fun x hx => by
        have h2 := hr x hx
        have h3 : x ≠ (n : Int) + 1 := fun e => hm (e ▸ hx)
        omega
      omega
theorem nodup_all (n : Nat) (l : List Int) (hd : l.Nodup) (hr : ∀ x, x ∈ l → 1 ≤ x ∧ x < (n : Int) + 1) (hl : l.length = n) (z : Int) (hz : 1 ≤ z ∧ z < (n : Int) + 1) : z ∈ l := by
  by_cases h : z ∈ l
  · exact h
  · have := nodup_le n (z :: l) (List.nodup_cons.2 ⟨h, hd⟩) fun x hx => by
      rcases List.mem_cons.1 hx with rfl | hx
      · exact hz
      · exact hr x hx
    simp at this; omega
theorem npow_add {R : Type} [CR R] (x : R) (a b : Nat) : npow x (a + b) = npow x a * npow x b := by
  induction b with
  | zero => exact (mul_one _).symm
  | succ b ih => rw [Nat.add_succ, npow, ih, npow, mul_assoc]
structure Pws (p m : Nat) [Two p] (md : List Int) (a : Rs (mdPoly (p := p) md m)) (l : List Int) : Prop where
  nd : l.Nodup
  rg : ∀ x, x ∈ l → 1 ≤ x ∧ x < (p : Int) ^ m
  at_ : ∀ i, i < l.length → tkk p m md (l.getD i 0) = npow a i
theorem Pws.len (h : FOk p m md) {a : Rs (mdPoly (p := p) md m)} {l : List Int} (H : Pws p m md a l) : (l.length : Int) ≤ (p : Int) ^ m - 1 := by
  have h1 := h.pow_le (Nat.le_refl m)
  have := nodup_le (((p : Int) ^ m - 1).toNat) l H.nd fun x hx => by have := H.rg x hx; omega
  omega
theorem powers_l0 (h : FOk p m md) (x : Int) (hx : 0 ≤ x ∧ x < (p : Int) ^ m) (n : Nat) (out : List Int) (seen : List Bool) (y : Int) (hn : (out.length : Int) + n = (p : Int) ^ m)
    (hs : (seen.length : Int) = (p : Int) ^ m) (hs' : ∀ z : Int, 0 ≤ z → z < (p : Int) ^ m → (rdOf false seen z = true ↔ z ∈ out)) (hy : 0 ≤ y ∧ y < (p : Int) ^ m)
    (H : Pws p m md (tkk p m md x) out) (hyv : tkk p m md y = npow (tkk p m md x) out.length) :
    ∃ r, Ev (fun k => field_powers.l0 k x out seen y (p : Int) (m : Int) md) r ∧ Pws p m md (tkk p m md x) r ∧ 1 ≤ r.length ∨ out.length = 0 := by
  have h1 := h.pow_le (Nat.le_refl m)
  by_cases h0 : out.length = 0
  · exact ⟨[], .inr h0⟩
  have hlen := H.len h
  induction n generalizing out seen y with
  | zero => omega
  | succ n ih =>
    by_cases hy0 : y = 0
    · refine ⟨out, .inl ⟨Ev.succ ?_, H, by omega⟩⟩
      simp only [field_powers.l0]
      exact Ev.ifp hy0 (Ev.now _)
    · by_cases hse : rdOf false seen y = true
      · refine ⟨out, .inl ⟨Ev.succ ?_, H, by omega⟩⟩
        simp only [field_powers.l0]
        refine Ev.ifn hy0 ?_
        refine Ev.ifp hy.1 ?_
        refine Ev.ifp (by omega) ?_
        exact Ev.ifp hse (Ev.now _)
      · have hyn : y ∉ out := fun hh => hse ((hs' y hy.1 hy.2).2 hh)
        have H' : Pws p m md (tkk p m md x) (out ++ [y]) := by
          refine ⟨?_, ?_, ?_⟩
          · rw [List.nodup_append]
            refine ⟨H.nd, by simp, ?_⟩
            intro a ha b hb e
            rw [List.mem_singleton] at hb
            exact hyn (hb ▸ e ▸ ha)
          · intro z hz
            rcases List.mem_append.1 hz with hz | hz
            · exact H.rg z hz
            · rw [List.mem_singleton.1 hz]; omega
          · intro i hi
            rw [List.length_append, List.length_singleton] at hi
            rw [List.getD_eq_getElem?_getD]
            by_cases e : i < out.length
            · rw [List.getElem?_append_left e, ← List.getD_eq_getElem?_getD]; exact H.at_ i e
            · have : i = out.length := by omega
              subst this
              rw [List.getElem?_append_right (Nat.le_refl _), Nat.sub_self]; exact hyv
        obtain ⟨z, hz, hzr, hzv⟩ := pmul h y x hy hx
        have hl2 := H'.len h
        rw [List.length_append, List.length_singleton] at hl2
        have hyv' : tkk p m md z = npow (tkk p m md x) (out ++ [y]).length := by
          rw [hzv, hyv, List.length_append, List.length_singleton, npow]
        obtain ⟨r, hr | hr⟩ := ih (out ++ [y]) (seen.set y.toNat true) z (by rw [List.length_append, List.length_singleton]; omega) (by rw [List.length_set]; exact hs) (fun w hw0 hw => by
            have hwn : w.toNat < seen.length := by omega
            show ((seen.set y.toNat true).getD w.toNat false = true) ↔ _
            rw [List.getD_eq_getElem?_getD, List.getElem?_set]
            by_cases e : y = w
            · subst e; rw [if_pos rfl, if_pos hwn]; simp
            · rw [if_neg (by omega), ← List.getD_eq_getElem?_getD]
              have := hs' w hw0 hw
              unfold rdOf at this
              rw [this, List.mem_append, List.mem_singleton]
              exact ⟨.inl, fun hh => hh.elim id fun e2 => absurd e2.symm e⟩) hzr H' hyv' (by simp) (by rw [List.length_append, List.length_singleton]; omega)
        · refine ⟨r, .inl ⟨Ev.succ ?_, hr.2⟩⟩
          simp only [field_powers.l0]
          refine Ev.ifn hy0 ?_
          refine Ev.ifp hy.1 ?_
          refine Ev.ifp (by omega) ?_
          refine Ev.ifn hse ?_
          refine Ev.ifp (by omega) ?_
          exact Ev.bind hz hr.1
        · simp at hr
theorem powers_ev (h : FOk p m md) (x : Int) (hx : 0 ≤ x ∧ x < (p : Int) ^ m) :
    ∃ r, Ev (fun k => field_powers.f k (p : Int) (m : Int) md ((p : Int) ^ m) x) r ∧ Pws p m md (tkk p m md x) r ∧ 1 ≤ r.length := by
  have h1 := h.pow_le (Nat.le_refl m)
  have hq2 : 2 ≤ (p : Int) ^ m := by
    have h2 := h.p2; have h3 := h.m1
    obtain ⟨k, rfl⟩ : ∃ k, m = k + 1 := ⟨m - 1, by omega⟩
    have h4 := h.pow_le (i := k) (by omega)
    rw [Int.pow_succ]
    have : 1 * 2 ≤ (p : Int) ^ k * p := Int.mul_le_mul h4.1 (by omega) (by omega) (by omega)
    omega
  have H0 : Pws p m md (tkk p m md x) [1] := by
    refine ⟨by simp, fun z hz => by rw [List.mem_singleton.1 hz]; omega, fun i hi => ?_⟩
    have : i = 0 := by simpa using hi
    subst this
    show tkk p m md 1 = 1
    unfold tkk
    rw [inq_of (by omega)]; exact ofNum_one h.m1
  obtain ⟨r, hr | hr⟩ := powers_l0 h x hx ((p : Int) ^ m - 1).toNat [1] ((List.replicate ((p : Int) ^ m).toNat false).set 1 true) x (by simp; omega) (by simp; omega) (fun z h0 hz => by
      show (((List.replicate ((p : Int) ^ m).toNat false).set 1 true).getD z.toNat false = true) ↔ _
      rw [List.getD_eq_getElem?_getD, List.getElem?_set]
      by_cases e : 1 = z.toNat
      · rw [if_pos e, if_pos (by simp; omega)]; simp; omega
      · rw [if_neg e, List.getElem?_replicate, if_pos (by omega)]; simp; omega) hx H0 (by
      show _ = npow _ (0 + 1); rw [npow, npow, one_mul])
  · refine ⟨r, ?_, hr.2⟩
    unfold field_powers.f
    refine Ev.ifp (by omega) ?_
    refine Ev.ifp (by omega) (Ev.some_bind ?_)
    refine Ev.ifp (by simp; omega) ?_
    exact hr.1
  · simp at hr
def Gen (p m : Nat) [Two p] (md : List Int) (r : List Int) : Prop :=
  ∃ a : Rs (mdPoly (p := p) md m), Pws p m md a r ∧ (r.length : Int) = (p : Int) ^ m - 1 ∧ npow a r.length = 1
theorem generator_l0 (h : FOk p m md) (n : Nat) (x : Int) (hx : 1 ≤ x) (hn : x + n = (p : Int) ^ m) :
    ∃ r, Ev (fun k => field_generator.l0 k ((p : Int) ^ m) x (p : Int) (m : Int) md) r ∧ (r = [] ∨ Gen p m md r) := by
  have h1 := h.pow_le (Nat.le_refl m)
  induction n generalizing x with
  | zero =>
    refine ⟨[], Ev.succ ?_, .inl rfl⟩
    simp only [field_generator.l0]
    exact Ev.ifn (by omega) (Ev.now _)
  | succ n ih =>
    obtain ⟨t, ht, hP, hl⟩ := powers_ev h x (by omega)
    obtain ⟨r, hr, hr'⟩ := ih (x + 1) (by omega) (by omega)
    by_cases hlen : (t.length : Int) = (p : Int) ^ m - 1
    · have e1 : ((p : Int) ^ m - 2) = ((t.length - 1 : Nat) : Int) := by omega
      have hel : t.getD (t.length - 1) 0 ∈ t := by
        rw [List.getD_eq_getElem?_getD, List.getElem?_eq_getElem (by omega)]; exact List.getElem_mem _
      have hrg := hP.rg _ hel
      obtain ⟨z, hz, hzr, hzv⟩ := pmul h (t.getD (t.length - 1) 0) x (by omega) (by omega)
      by_cases hz1 : z = 1
      · refine ⟨t, Ev.succ ?_, .inr ⟨_, hP, hlen, ?_⟩⟩
        · simp only [field_generator.l0]
          refine Ev.ifp (by omega) (Ev.bind ht ?_)
          rw [w64 (n := (p : Int) ^ m - 1) (by omega), w64 (n := (p : Int) ^ m - 2) (by omega), e1, rd_nat]
          refine Ev.ifp hlen ?_
          refine Ev.ifp (by omega) ?_
          refine Ev.ifp (by omega) (Ev.bind hz ?_)
          exact Ev.ifp hz1 (Ev.now _)
        · have e2 : t.length = (t.length - 1) + 1 := by omega
          rw [e2, npow, ← hP.at_ _ (by omega), ← hzv, hz1]
          unfold tkk
          rw [inq_of (by omega)]; exact ofNum_one h.m1
      · refine ⟨r, Ev.succ ?_, hr'⟩
        simp only [field_generator.l0]
        refine Ev.ifp (by omega) (Ev.bind ht ?_)
        rw [w64 (n := (p : Int) ^ m - 1) (by omega), w64 (n := (p : Int) ^ m - 2) (by omega), e1, rd_nat]
        refine Ev.ifp hlen ?_
        refine Ev.ifp (by omega) ?_
        refine Ev.ifp (by omega) (Ev.bind hz ?_)
        refine Ev.ifn hz1 ?_
        rw [w64 (by omega)]; exact hr
    · refine ⟨r, Ev.succ ?_, hr'⟩
      simp only [field_generator.l0]
      refine Ev.ifp (by omega) (Ev.bind ht ?_)
      rw [w64 (n := (p : Int) ^ m - 1) (by omega)]
      refine Ev.ifn hlen ?_
      rw [w64 (by omega)]; exact hr
theorem generator_ev (h : FOk p m md) : ∃ r, Ev (fun k => field_generator.f k (p : Int) (m : Int) md ((p : Int) ^ m)) r ∧ (r = [] ∨ Gen p m md r) := by
  have h1 := h.pow_le (Nat.le_refl m)
  unfold field_generator.f
  exact generator_l0 h ((p : Int) ^ m - 1).toNat 1 (by omega) (by omega)
def newlog : Nat → List Int → List Int → List Int
  | _, [], lg => lg
  | n, x :: xs, lg => newlog (n + 1) xs (lg.set x.toNat (n : Int))
theorem newlog_length (n : Nat) (xs lg : List Int) : (newlog n xs lg).length = lg.length := by
  induction xs generalizing n lg with
  | nil => rfl
  | cons x xs ih => rw [newlog, ih, List.length_set]
theorem newlog_other (n : Nat) (xs lg : List Int) (z : Int) (hz : 0 ≤ z) (h : z ∉ xs) (hx : ∀ x, x ∈ xs → 0 ≤ x ∧ x < (lg.length : Int)) : (newlog n xs lg).getD z.toNat 0 = lg.getD z.toNat 0 := by
  induction xs generalizing n lg with
  | nil => rfl
  | cons x xs ih =>
    have h1 := hx x (by simp)
    rw [newlog, ih (n + 1) _ (fun hh => h (by simp [hh])) (fun y hy => by rw [List.length_set]; exact hx y (by simp [hy])), rd_set _ _ _ _ (by omega), if_neg]
    intro e
    have : x = z := by omega
    exact h (by simp [this])
theorem newlog_at (n : Nat) (xs lg : List Int) (hd : xs.Nodup) (hx : ∀ x, x ∈ xs → 0 ≤ x ∧ x < (lg.length : Int)) (i : Nat) (hi : i < xs.length) : (newlog n xs lg).getD (xs.getD i 0).toNat 0 = ((n + i : Nat) : Int) := by
  induction xs generalizing n lg i with
  | nil => simp at hi
  | cons x xs ih =>
    rw [List.nodup_cons] at hd
    have h1 := hx x (by simp)
    cases i with
    | zero =>
      rw [newlog, List.getD_cons_zero, newlog_other _ _ _ _ h1.1 hd.1 (fun y hy => by rw [List.length_set]; exact hx y (by simp [hy])), rd_set _ _ _ _ (by omega), if_pos rfl]; rfl
    | succ i =>
      rw [newlog, List.getD_cons_succ, ih (n + 1) _ hd.2 (fun y hy => by rw [List.length_set]; exact hx y (by simp [hy])) i (by simpa using hi)]
      congr 1; omega
structure GOk (p m : Nat) [Two p] (md ex lg : List Int) : Prop where
  f : FOk p m md
  g : Gen p m md ex
  lg_ : lg = newlog 0 ex (List.replicate ((p : Int) ^ m).toNat 0)
section
variable {ex lg : List Int}
theorem GOk.lgl (h : GOk p m md ex lg) : (lg.length : Int) = (p : Int) ^ m := by
  have h1 := h.f.pow_le (Nat.le_refl m)
  rw [h.lg_, newlog_length, List.length_replicate]; omega
theorem GOk.log (h : GOk p m md ex lg) (x : Int) (hx : 1 ≤ x ∧ x < (p : Int) ^ m) : ∃ i : Nat, i < ex.length ∧ ex.getD i 0 = x ∧ lg.getD x.toNat 0 = (i : Int) := by
  obtain ⟨a, hP, hl, _⟩ := h.g
  have h1 := h.f.pow_le (Nat.le_refl m)
  have hm := nodup_all ex.length ex hP.nd (fun z hz => by have := hP.rg z hz; omega) rfl x (by omega)
  obtain ⟨i, hi, e⟩ := List.getElem_of_mem hm
  have e' : ex.getD i 0 = x := by rw [List.getD_eq_getElem?_getD, List.getElem?_eq_getElem hi]; exact e
  refine ⟨i, hi, e', ?_⟩
  have := newlog_at 0 ex (List.replicate ((p : Int) ^ m).toNat 0) hP.nd (fun z hz => by have := hP.rg z hz; rw [List.length_replicate]; omega) i hi
  rw [e', ← h.lg_, Nat.zero_add] at this; exact this
theorem GOk.power (h : GOk p m md ex lg) : ∃ a : Rs (mdPoly (p := p) md m), (∀ i, i < ex.length → (1 ≤ ex.getD i 0 ∧ ex.getD i 0 < (p : Int) ^ m) ∧ tkk p m md (ex.getD i 0) = npow a i) ∧ npow a ex.length = 1 ∧ (ex.length : Int) = (p : Int) ^ m - 1 := by
  obtain ⟨a, hP, hl, h1⟩ := h.g
  refine ⟨a, fun i hi => ⟨hP.rg _ ?_, hP.at_ i hi⟩, h1, hl⟩
  rw [List.getD_eq_getElem?_getD, List.getElem?_eq_getElem hi]; exact List.getElem_mem _
theorem npow_mod {R : Type} [CR R] (a : R) (n : Nat) (hn : npow a n = 1) (i : Nat) : npow a i = npow a (i % n) := by
  have h1 : ∀ k, npow a (n * k) = 1 := by
    intro k
    induction k with
    | zero => rfl
    | succ k ih => rw [Nat.mul_succ, npow_add, ih, hn, one_mul]
  have e := Nat.div_add_mod i n
  calc npow a i = npow a (n * (i / n) + i % n) := by rw [e]
    _ = npow a (i % n) := by rw [npow_add, h1, one_mul]
theorem tkk_surj (h : FOk p m md) (a : Rs (mdPoly (p := p) md m)) : ∃ x : Int, (0 ≤ x ∧ x < (p : Int) ^ m) ∧ tkk p m md x = a := by
  obtain ⟨x, hx, e⟩ := ofNum_surj a
  exact ⟨x, hx, by unfold tkk; rw [inq_of hx]; exact e⟩
theorem tkk_inj (h : FOk p m md) {x y : Int} (hx : 0 ≤ x ∧ x < (p : Int) ^ m) (hy : 0 ≤ y ∧ y < (p : Int) ^ m) (e : tkk p m md x = tkk p m md y) : x = y := by
  unfold tkk at e
  rw [inq_of hx, inq_of hy] at e
  exact ofNum_inj hx hy e
theorem tkk_zero (h : FOk p m md) : tkk p m md 0 = 0 := by
  unfold tkk; rw [inq_zero]; exact ofNum_zero
theorem GOk.inv (h : GOk p m md ex lg) (a : Rs (mdPoly (p := p) md m)) (ha : a ≠ 0) : ∃ b, a * b = 1 := by
  obtain ⟨x, hx, rfl⟩ := tkk_surj h.f a
  have hx1 : 1 ≤ x := by
    by_cases e : x = 0
    · subst e; exact absurd (tkk_zero h.f) ha
    · omega
  obtain ⟨i, hi, e, _⟩ := h.log x ⟨hx1, hx.2⟩
  obtain ⟨g, hg, h1, _⟩ := h.power
  refine ⟨npow g (ex.length - i), ?_⟩
  rw [← e, (hg i hi).2, ← npow_add, Nat.add_sub_cancel' (by omega), h1]
open Classical in
@[reducible] noncomputable def fldOf (h : GOk p m md ex lg) : Fld (Rs (mdPoly (p := p) md m)) where
  inv a := if ha : a ≠ 0 then Classical.choose (h.inv a ha) else 0
  mul_inv a ha := by rw [dif_pos ha]; exact Classical.choose_spec (h.inv a ha)
  one_ne := by
    intro e
    have h1 := h.f.pow_le (Nat.le_refl m)
    have h2 : (tkk p m md 1 : Rs (mdPoly (p := p) md m)) = 1 := by
      unfold tkk
      have h3 := h.f.p2; have h4 := h.f.m1
      have : 2 ≤ (p : Int) ^ m := by
        obtain ⟨k, rfl⟩ : ∃ k, m = k + 1 := ⟨m - 1, by omega⟩
        have h5 := h.f.pow_le (i := k) (by omega)
        rw [Int.pow_succ]
        have : 1 * 2 ≤ (p : Int) ^ k * p := Int.mul_le_mul h5.1 (by omega) (by omega) (by omega)
        omega
      rw [inq_of (by omega)]; exact ofNum_one h.f.m1
    have h3 := h.f.p2; have h4 := h.f.m1
    have : 2 ≤ (p : Int) ^ m := by
      obtain ⟨k, rfl⟩ : ∃ k, m = k + 1 := ⟨m - 1, by omega⟩
      have h5 := h.f.pow_le (i := k) (by omega)
      rw [Int.pow_succ]
      have : 1 * 2 ≤ (p : Int) ^ k * p := Int.mul_le_mul h5.1 (by omega) (by omega) (by omega)
      omega
    have := tkk_inj h.f (x := 1) (y := 0) (by omega) (by omega) (by rw [h2, e, tkk_zero h.f])
    omega
  dec := fun a b => Classical.propDecidable (a = b)
end
end
end Go.Proofs.Ytiejggpmjapajaa.PA
end
section
namespace Go.Proofs.Ytiejggpmjapajaa.PA
open Go.RowKit Go.Proofs.YtiejggpmjapajaaW.PrintWords Go.Proofs.YtiejggpmjapajaaW.PrintLast Go.Proofs.YtiejggpmjapajaaW.PrintMore
open Alg
open Alg.S (npow)
structure ROps {K : Type} [Fld K] (N : Nums K) (p m : Nat) (md : List Int) : Prop where
  pp : N.p = p
  ord : Ev (fun k => codewrightref04_Order.f k (p : Int) (m : Int) md) N.q
  is_ : ∀ x, Ev (fun k => codewrightref04_Is.f k (p : Int) (m : Int) md x) (decide (0 ≤ x ∧ x < N.q))
  in_ : ∀ x, Ev (fun k => codewrightref04_In.f k (p : Int) (m : Int) md x) (inq N.q x)
  add : ∀ x y, Ev (fun k => codewrightref04_Add.f k (p : Int) (m : Int) md x y) (N.nm (N.tk x + N.tk y))
  neg : ∀ x, Ev (fun k => codewrightref04_Neg.f k (p : Int) (m : Int) md x) (N.nm (-N.tk x))
  mul : ∀ x y, Ev (fun k => codewrightref04_Mul.f k (p : Int) (m : Int) md x y) (N.nm (N.tk x * N.tk y))
structure GOps {K : Type} [Fld K] (N : Nums K) (p m : Nat) (md ex lg : List Int) : Prop where
  is_ : ∀ x, field_GF_Is.f (p : Int) (m : Int) md N.q ex lg x = some (decide (0 ≤ x ∧ x < N.q), (p : Int), (m : Int), N.q)
  in_ : ∀ x, field_GF_in.f (p : Int) (m : Int) md N.q ex lg x = some (inq N.q x, (p : Int), (m : Int), N.q)
  add : ∀ x y, Ev (fun k => field_GF_Add.f k (p : Int) (m : Int) md N.q ex lg x y) (N.nm (N.tk x + N.tk y), (p : Int), (m : Int), N.q)
  neg : ∀ x, Ev (fun k => field_GF_Neg.f k (p : Int) (m : Int) md N.q ex lg x) (N.nm (-N.tk x), (p : Int), (m : Int), N.q)
  mul : ∀ x y, field_GF_Mul.f (p : Int) (m : Int) md N.q ex lg x y = some (N.nm (N.tk x * N.tk y), (p : Int), (m : Int), N.q)
  inv : ∀ x, N.tk x ≠ 0 → field_GF_Inv.f (p : Int) (m : Int) md N.q ex lg x = some (N.nm (Alg.inv (N.tk x)), 0, (p : Int), (m : Int), N.q)
  inv0 : ∀ x, N.tk x = 0 → field_GF_Inv.f (p : Int) (m : Int) md N.q ex lg x = some (0, 7, (p : Int), (m : Int), N.q)
section
variable {p m : Nat} {md ex lg : List Int} [hp : Two p]
theorem FOk.q2 (h : FOk p m md) : 2 ≤ (p : Int) ^ m ∧ (p : Int) ≤ (p : Int) ^ m := by
  have h3 := h.p2; have h4 := h.m1
  obtain ⟨k, rfl⟩ : ∃ k, m = k + 1 := ⟨m - 1, by omega⟩
  have h5 := h.pow_le (i := k) (by omega)
  rw [Int.pow_succ]
  have h6 : 1 * (p : Int) ≤ (p : Int) ^ k * p := Int.mul_le_mul_of_nonneg_right h5.1 (by omega)
  omega
theorem tkk_const (h : FOk p m md) (c : Nat) (hc : c < p) : tkk p m md (c : Int) = nc c := by
  have h1 := h.q2
  unfold tkk
  rw [inq_of (by omega), ofNum_const h.m1 _ (by omega) (by omega), Int.toNat_natCast]
theorem nc_p (h : FOk p m md) : (nc p : Rs (mdPoly (p := p) md m)) = 0 := by
  refine Subtype.ext ?_
  rw [Rs.nc_val h.m1, Zp.nc_eq, Zp.mk_p, S.C_0]; rfl
theorem tkk_inq (h : FOk p m md) (x : Int) : tkk p m md (inq ((p : Int) ^ m) x) = tkk p m md x := by
  unfold tkk; rw [inq_inq (by have := h.q2; omega)]
noncomputable def numsOf (h : GOk p m md ex lg) : @Nums (Rs (mdPoly (p := p) md m)) (fldOf h) :=
  letI := fldOf h
  { q := (p : Int) ^ m
    p := p
    tk := tkk p m md
    nm := fun a => Classical.choose (tkk_surj h.f a)
    q2 := h.f.q2.1
    q256 := h.f.q256
    p2 := h.f.p2
    pq := h.f.q2.2
    nm_range := fun a => (Classical.choose_spec (tkk_surj h.f a)).1
    tk_nm := fun a => (Classical.choose_spec (tkk_surj h.f a)).2
    nm_tk := fun x => by
      have h1 := Classical.choose_spec (tkk_surj h.f (tkk p m md x))
      exact tkk_inj h.f h1.1 (inq_q h.f x) (by rw [h1.2, tkk_inq h.f])
    nm_zero := by
      have h1 := Classical.choose_spec (tkk_surj h.f (0 : Rs (mdPoly (p := p) md m)))
      have h2 := h.f.q2
      exact tkk_inj h.f h1.1 (by omega) (by rw [h1.2]; exact (tkk_zero h.f).symm)
    nm_one := by
      have h1 := Classical.choose_spec (tkk_surj h.f (1 : Rs (mdPoly (p := p) md m)))
      have h2 := h.f.q2
      refine tkk_inj h.f h1.1 (by omega) (by rw [h1.2]; unfold tkk; rw [inq_of (by omega)]; exact (ofNum_one h.f.m1).symm)
    tk_const := fun c hc => tkk_const h.f c hc
    nc_p := nc_p h.f }
theorem nm_eq (h : GOk p m md ex lg) {r : Int} {a : Rs (mdPoly (p := p) md m)} (hr : 0 ≤ r ∧ r < (p : Int) ^ m) (e : tkk p m md r = a) : @Nums.nm _ (fldOf h) (numsOf h) a = r := by
  letI := fldOf h
  have := (numsOf h).nm_of (x := r) hr
  rwa [show (numsOf h).tk r = a from e] at this
theorem rops (h : GOk p m md ex lg) : @ROps _ (fldOf h) (numsOf h) p m md := by
  letI := fldOf h
  exact {
    pp := rfl
    ord := order_ev h.f
    is_ := is_ev h.f
    in_ := in_ev h.f
    add := fun x y => by
      obtain ⟨r, h1, h2, h3⟩ := radd h.f x y
      have := nm_eq h h2 h3
      rw [← this] at h1; exact h1
    neg := fun x => by
      obtain ⟨r, h1, h2, h3⟩ := rneg h.f x
      have := nm_eq h h2 h3
      rw [← this] at h1; exact h1
    mul := fun x y => by
      obtain ⟨r, h1, h2, h3⟩ := rmul h.f x y
      have := nm_eq h h2 h3
      rw [← this] at h1; exact h1 }
theorem gmul' (h : GOk p m md ex lg) (x y : Int) : ∃ r, field_GF_Mul.f (p : Int) (m : Int) md ((p : Int) ^ m) ex lg x y = some (r, (p : Int), (m : Int), (p : Int) ^ m) ∧ (0 ≤ r ∧ r < (p : Int) ^ m) ∧ tkk p m md r = tkk p m md x * tkk p m md y := by
  have hq := h.f.q2; have hq2 := h.f.q256
  have hx := inq_q h.f x
  have hy := inq_q h.f y
  unfold field_GF_Mul.f
  rw [gin, Option.bind_some, gin, Option.bind_some, ← tkk_inq h.f x, ← tkk_inq h.f y]
  generalize inq ((p : Int) ^ m) x = u at *
  generalize inq ((p : Int) ^ m) y = v at *
  by_cases hu : u = 0
  · subst hu
    refine ⟨0, by rw [if_pos rfl], by omega, ?_⟩
    rw [tkk_zero h.f, zero_mul]
  · by_cases hv : v = 0
    · subst hv
      refine ⟨0, by rw [if_neg hu, if_pos rfl], by omega, ?_⟩
      rw [tkk_zero h.f, mul_zero]
    · obtain ⟨i, hi, ei, li⟩ := h.log u (by omega)
      obtain ⟨j, hj, ej, lj⟩ := h.log v (by omega)
      obtain ⟨a, ha, h1, hl⟩ := h.power
      have hll := h.lgl
      have e1 : rd lg u = (i : Int) := li
      have e2 : rd lg v = (j : Int) := lj
      obtain ⟨t, ht, hm⟩ : ∃ t, (i + j) % ex.length = t ∧ t < ex.length := ⟨_, rfl, Nat.mod_lt _ (by omega)⟩
      have e3 : Int.tmod ((i : Int) + (j : Int)) ((p : Int) ^ m - 1) = (t : Int) := by
        rw [tmod_pos (by omega), ← hl, ← ht]; push_cast; rfl
      refine ⟨ex.getD t 0, ?_, by have := (ha _ hm).1; omega, ?_⟩
      · rw [if_neg hu, if_neg hv]
        rw [if_pos hx.1, if_pos (by omega), if_pos hy.1, if_pos (by omega), e1, e2, w64 (n := (p : Int) ^ m - 1) (by omega), w64 (n := (i : Int) + j) (by omega), if_neg (by omega), e3]
        clear e3
        rw [if_pos (by omega), if_pos (by omega), rd_nat]
      · rw [(ha _ hm).2, ← ei, ← ej, (ha i hi).2, (ha j hj).2, ← npow_add, npow_mod a ex.length h1 (i + j), ht]
theorem ginv' (h : GOk p m md ex lg) (x : Int) (hx0 : tkk p m md x ≠ 0) : ∃ r, field_GF_Inv.f (p : Int) (m : Int) md ((p : Int) ^ m) ex lg x = some (r, 0, (p : Int), (m : Int), (p : Int) ^ m) ∧ (0 ≤ r ∧ r < (p : Int) ^ m) ∧ tkk p m md x * tkk p m md r = 1 := by
  have hq := h.f.q2; have hq2 := h.f.q256
  have hx := inq_q h.f x
  unfold field_GF_Inv.f
  rw [gin, Option.bind_some]
  rw [← tkk_inq h.f x] at hx0 ⊢
  generalize inq ((p : Int) ^ m) x = u at *
  have hu : u ≠ 0 := by rintro rfl; exact hx0 (tkk_zero h.f)
  obtain ⟨i, hi, ei, li⟩ := h.log u (by omega)
  obtain ⟨a, ha, h1, hl⟩ := h.power
  have hll := h.lgl
  have e1 : rd lg u = (i : Int) := li
  obtain ⟨t, ht, hm⟩ : ∃ t, (ex.length - i) % ex.length = t ∧ t < ex.length := ⟨_, rfl, Nat.mod_lt _ (by omega)⟩
  have e3 : Int.tmod ((p : Int) ^ m - 1 - (i : Int)) ((p : Int) ^ m - 1) = (t : Int) := by
    rw [tmod_pos (by omega), ← hl, ← ht]
    rw [show (ex.length : Int) - (i : Int) = ((ex.length - i : Nat) : Int) from by omega]; push_cast; rfl
  refine ⟨ex.getD t 0, ?_, by have := (ha _ hm).1; omega, ?_⟩
  · rw [if_neg hu, if_pos hx.1, if_pos (by omega), e1, w64 (n := (p : Int) ^ m - 1) (by omega), w64 (n := (p : Int) ^ m - 1 - (i : Int)) (by omega), if_neg (by omega), e3]
    clear e3
    rw [if_pos (by omega), if_pos (by omega), rd_nat]
  · rw [(ha _ hm).2, ← ei, (ha i hi).2, ← ht, ← npow_mod a ex.length h1, ← npow_add, Nat.add_sub_cancel' (by omega), h1]
theorem gops (h : GOk p m md ex lg) : @GOps _ (fldOf h) (numsOf h) p m md ex lg := by
  letI := fldOf h
  exact {
    is_ := fun x => by
      show field_GF_Is.f (p : Int) (m : Int) md ((p : Int) ^ m) ex lg x = some (decide (0 ≤ x ∧ x < (p : Int) ^ m), (p : Int), (m : Int), (p : Int) ^ m)
      unfold field_GF_Is.f
      by_cases h0 : x ≥ 0
      · rw [if_pos h0]; congr 2; simp; omega
      · rw [if_neg h0]; congr 2; simp; omega
    in_ := gin _ _ _
    add := fun x y => by
      obtain ⟨r, h1, h2, h3⟩ := gadd' h.f ex lg x y
      have := nm_eq h h2 h3
      rw [← this] at h1; exact h1
    neg := fun x => by
      obtain ⟨r, h1, h2, h3⟩ := gneg' h.f ex lg x
      have := nm_eq h h2 h3
      rw [← this] at h1; exact h1
    mul := fun x y => by
      obtain ⟨r, h1, h2, h3⟩ := gmul' h x y
      have := nm_eq h h2 h3
      rw [← this] at h1; exact h1
    inv := fun x hx => by
      obtain ⟨r, h1, h2, h3⟩ := ginv' h x hx
      have h4 : tkk p m md r = Alg.inv (tkk p m md x) := inv_unique h3
      have := nm_eq h h2 h4
      rw [← this] at h1; exact h1
    inv0 := fun x hx => by
      have h1 : inq ((p : Int) ^ m) x = 0 := by
        have h2 := h.f.q2
        exact tkk_inj h.f (inq_q h.f x) (by omega) (by rw [tkk_inq h.f, tkk_zero h.f]; exact hx)
      show field_GF_Inv.f (p : Int) (m : Int) md ((p : Int) ^ m) ex lg x = some (0, 7, (p : Int), (m : Int), (p : Int) ^ m)
      unfold field_GF_Inv.f
      rw [gin, Option.bind_some, h1, if_pos rfl] }
end
end Go.Proofs.Ytiejggpmjapajaa.PA
end
section
namespace Go.Proofs.Ytiejggpmjapajaa.PA
open Go.RowKit Go.Proofs.YtiejggpmjapajaaW.PrintWords Go.Proofs.YtiejggpmjapajaaW.PrintLast Go.Proofs.YtiejggpmjapajaaW.PrintMore
set_option linter.unusedVariables false
theorem box_new (w : World) (o : Obj) : Below w.heap.size w (w.alloc o) ∧ (w.alloc o).heap[w.heap.size]? = some o := ⟨below_alloc (Below.refl _ _) o, blk_new w o⟩
set_option maxHeartbeats 1000000 in
set_option maxRecDepth 100000 in
theorem New_no (k : Nat) (P M : Int) (A : Option Addr) (c : Nat) (md : List Int) (w : World) (hr : Kd.C (Kd.int .i64) w A md.length md) (hc : md.length ≤ c) (h : field_shape.f k P M md = some false) :
    Calls Try.prog 39 #[.agg #[.int .i64 P, .int .i64 M, .slice A md.length c]] w fun e w' => e = .returned (.tuple #[.pointer none, .int .i64 1]) ∧ Below w.heap.size w w' := by
  have HR := Aside0.mk hr
  have HC := Aside0.mk hc
  have HH := Aside0.mk h
  clear hr hc h
  go_enter Try.func39, Try.ntmps39
  go_wp2_with fail
  refine (field_shape.calls k P M A c md false _ (Kd.C_below HR.out (box_new _ _).1) HC.out HH.out).mono ?_
  rintro e w2 ⟨rfl, hb⟩
  have HB := Aside0.mk (below_step (box_new w _).1 hb)
  clear hb
  go_wp2
  go_ret2
  exact ⟨rfl, HB.out⟩
set_option maxHeartbeats 1000000 in
set_option maxRecDepth 100000 in
theorem New_nogen (k : Nat) (P M q : Int) (A : Option Addr) (c : Nat) (md : List Int) (w : World) (hr : Kd.C (Kd.int .i64) w A md.length md) (hc : md.length ≤ c) (h : field_shape.f k P M md = some true)
    (h2 : field_order.f k P M = some q) (h3 : field_generator.f k P M md q = some []) :
    Calls Try.prog 39 #[.agg #[.int .i64 P, .int .i64 M, .slice A md.length c]] w fun e w' => e = .returned (.tuple #[.pointer none, .int .i64 1]) ∧ Below w.heap.size w w' := by
  have HR := Aside0.mk hr
  have HC := Aside0.mk hc
  have HH := Aside0.mk h
  have HH2 := Aside0.mk h2
  have HH3 := Aside0.mk h3
  clear hr hc h h2 h3
  have hnil := fun (w' : World) => Lib.run_eql_slice_nil (P := Try.prog) w' 22 3 none 0 0 0 0 Try.underlying22
  go_enter Try.func39, Try.ntmps39
  go_wp2_with fail
  refine (field_shape.calls k P M A c md true _ (Kd.C_below HR.out (box_new _ _).1) HC.out HH.out).mono ?_
  rintro e w2 ⟨rfl, hb⟩
  have HB := Aside0.mk (below_step (box_new w _).1 hb)
  have BK := Aside0.mk (blk_below (blk_new w _) hb)
  clear hb
  have c0 := (blk_cell BK.out 0).trans rfl
  have c1 := (blk_cell BK.out 1).trans rfl
  go_wp2_with fail
  refine (field_order.calls k P M q _ HH2.out).mono ?_
  rintro e w3 ⟨rfl, hb⟩
  have HB3 := Aside0.mk (below_step HB.out hb.below)
  have BK3 := Aside0.mk (blk_below BK.out hb.below)
  clear hb c0 c1 HB BK
  have c0 := (blk_cell BK3.out 0).trans rfl
  have c1 := (blk_cell BK3.out 1).trans rfl
  have c2 := (blk_cell BK3.out 2).trans rfl
  go_wp2_with fail
  refine (field_generator.calls k P M A c md q [] _ (Kd.C_below HR.out HB3.out) HC.out HH3.out).mono ?_
  rintro e w4 ⟨v0, rfl, hR, hb, hn⟩
  obtain rfl := hn rfl
  have HB4 := Aside0.mk (below_step HB3.out hb)
  clear hb hR hn c0 c1 c2
  go_wp2
  go_ret2
  exact ⟨rfl, HB4.out⟩
theorem keep_of {B : Nat} {x0 x1 x2 : Value} {w0 W : World} (bk : w0.heap[B]? = some (.cells #[x0, x1, x2] 24 (0, 0))) (h : Below w0.heap.size w0 W) :
    W.cell? ⟨B, 0, none⟩ = some x0 ∧ W.cell? ⟨B, 1, none⟩ = some x1 ∧ W.cell? ⟨B, 2, none⟩ = some x2 ∧ Aside0 (Below w0.heap.size w0 W) :=
  ⟨(blk_cell (blk_below bk h) 0).trans rfl, (blk_cell (blk_below bk h) 1).trans rfl, (blk_cell (blk_below bk h) 2).trans rfl, ⟨h⟩⟩
theorem keep_alloc {B : Nat} {x0 x1 x2 : Value} {w0 W : World} (bk : w0.heap[B]? = some (.cells #[x0, x1, x2] 24 (0, 0)))
    (h : W.cell? ⟨B, 0, none⟩ = some x0 ∧ W.cell? ⟨B, 1, none⟩ = some x1 ∧ W.cell? ⟨B, 2, none⟩ = some x2 ∧ Aside0 (Below w0.heap.size w0 W)) (o : Obj) :
    (W.alloc o).cell? ⟨B, 0, none⟩ = some x0 ∧ (W.alloc o).cell? ⟨B, 1, none⟩ = some x1 ∧ (W.alloc o).cell? ⟨B, 2, none⟩ = some x2 ∧ Aside0 (Below w0.heap.size w0 (W.alloc o)) :=
  keep_of bk (below_alloc h.2.2.2.out o)
theorem keep_grown {B : Nat} {x0 x1 x2 : Value} {w0 W w1 : World} {g : Nat} (bk : w0.heap[B]? = some (.cells #[x0, x1, x2] 24 (0, 0)))
    (h : W.cell? ⟨B, 0, none⟩ = some x0 ∧ W.cell? ⟨B, 1, none⟩ = some x1 ∧ W.cell? ⟨B, 2, none⟩ = some x2 ∧ Aside0 (Below w0.heap.size w0 W)) {p q r : Prop} (k : Aside0 (p ∧ q ∧ g < W.heap.size ∧ W.grownBy w1 (some g) ∧ r)) (hg : w0.heap.size ≤ g) :
    w1.cell? ⟨B, 0, none⟩ = some x0 ∧ w1.cell? ⟨B, 1, none⟩ = some x1 ∧ w1.cell? ⟨B, 2, none⟩ = some x2 ∧ Aside0 (Below w0.heap.size w0 w1) :=
  keep_of bk (grown_below h.2.2.2.out hg (Nat.le_of_lt k.out.2.2.1) k.out.2.2.2.1)
theorem below_of {a b c : Prop} {w0 W : World} (h : a ∧ b ∧ c ∧ Aside0 (Below w0.heap.size w0 W)) : Below w0.heap.size w0 W := h.2.2.2.out
theorem rd_getElem (l : List Int) (i : Int) (h0 : 0 ≤ i) (h : i < l.length) : rd l i = l[i.toNat]'(by omega) := by
  show l.getD i.toNat 0 = _
  rw [List.getD_eq_getElem?_getD, List.getElem?_eq_getElem (by omega)]; rfl
def cutW (W : World) (m : Nat) : World := { W with heap := W.heap.extract 0 m }
theorem cut_size {W : World} {m : Nat} (h : m ≤ W.heap.size) : (cutW W m).heap.size = m := by
  show (W.heap.extract 0 m).size = m
  rw [Array.size_extract]; omega
theorem cut_heap (W : World) {m j : Nat} (hj : j < m) : (cutW W m).heap[j]? = W.heap[j]? := by
  show (W.heap.extract 0 m)[j]? = _
  rw [Array.getElem?_extract]
  by_cases h : j < W.heap.size
  · rw [if_pos (by omega)]; simp
  · rw [if_neg (by omega), Array.getElem?_eq_none (by omega)]
theorem cut_below {W : World} {m : Nat} (h : m ≤ W.heap.size) : Below (cutW W m).heap.size (cutW W m) W :=
  ⟨rfl, rfl, rfl, by rw [cut_size h]; exact h, fun j hj => by rw [cut_size h] at hj; exact (cut_heap W hj).symm⟩
theorem below_cut {w W : World} {m : Nat} (h : Below w.heap.size w W) (hm : w.heap.size ≤ m) (hW : m ≤ W.heap.size) : Below w.heap.size w (cutW W m) :=
  ⟨h.os, h.tape, h.output, by rw [cut_size hW]; exact hm, fun j hj => by rw [cut_heap W (by omega)]; exact h.block j hj⟩
theorem cut_cell (W : World) {m : Nat} (p : Addr) (h : p.block < m) : (cutW W m).cell? p = W.cell? p := by
  unfold World.cell?
  rw [cut_heap W h]
theorem C_cut {W : World} {A : Option Addr} {n m : Nat} {xs : List Int} (h : Kd.C (Kd.int .i64) W A n xs) (hb : ∀ ad, A = some ad → 0 < n → ad.block < m) : Kd.C (Kd.int .i64) (cutW W m) A n xs := by
  refine ⟨h.1, h.2.1, fun hn => ?_⟩
  obtain ⟨ad, e, hh⟩ := h.2.2 hn
  refine ⟨ad, e, fun j p hp => ?_⟩
  obtain ⟨c, h1, h2, h3⟩ := hh j p hp
  exact ⟨c, h1, h2, fun i u hu => by rw [cut_cell W (ad.add _) (by have h0 := hb ad e hn; unfold Addr.add; split <;> exact h0)]; exact h3 i u hu⟩
theorem made_R {W : World} {base g m e : Nat} (hb : base ≤ g) (h : W.heap[g]? = some (.cells (madeCells #[.int .i64 0] m) e (0, 0))) (hm : m ≤ 256) :
    Kd.R (Kd.int .i64) e W base (fun _ => True) (.slice (some ⟨g, 0, none⟩) m m) (List.replicate m 0) := by
  refine Kd.R_of_own ⟨by simp [encs], .inr ⟨g, m, _, by rw [List.length_replicate], hb, h, by rw [List.length_replicate]; exact Nat.le_refl _, by simp only [maxLen]; omega, by simp [madeCells], ?_⟩⟩ (fun _ _ => trivial)
  have hl : (madeCells #[Value.int .i64 0] m).toList = encs (Value.int .i64) (List.replicate m 0) := by
    apply List.ext_getElem
    · simp [encs, madeCells]
    · intro i h1 h2
      simp [encs, madeCells, Nat.mod_one]
  rw [hl, List.take_of_length_le (by simp [encs])]
set_option maxHeartbeats 1000000 in
set_option maxRecDepth 100000 in
theorem New_yes (k : Nat) (P M q : Int) (A : Option Addr) (c : Nat) (md ex : List Int) (w : World) (hr : Kd.C (Kd.int .i64) w A md.length md) (hc : md.length ≤ c) (h : field_shape.f k P M md = some true)
    (h2 : field_order.f k P M = some q) (h3 : field_generator.f k P M md q = some ex) (hex : 0 < ex.length) (hq : 0 ≤ q ∧ q ≤ 256) (hmd : md.length ≤ 8) (hx : ∀ x, x ∈ ex → 0 ≤ x ∧ x < q) (hln : ex.length ≤ 256) :
    Calls Try.prog 39 #[.agg #[.int .i64 P, .int .i64 M, .slice A md.length c]] w fun e w' => ∃ g : Nat, e = .returned (.tuple #[.pointer (some ⟨g, 0, none⟩), .int .i64 0]) ∧ ∃ W0 : World, Below w.heap.size w W0 ∧ Below W0.heap.size W0 w' ∧ IsS85 W0 w' g P M md q ex (newlog 0 ex (List.replicate q.toNat 0)) := by
  have HR := Aside0.mk hr
  have HC := Aside0.mk hc
  have HH := Aside0.mk h
  have HH2 := Aside0.mk h2
  have HH3 := Aside0.mk h3
  clear hr hc h h2 h3
  go_enter Try.func39, Try.ntmps39
  go_wp2_with fail
  refine (field_shape.calls k P M A c md true _ (Kd.C_below HR.out (box_new _ _).1) HC.out HH.out).mono ?_
  rintro e w2 ⟨rfl, hb⟩
  have HB := Aside0.mk (below_step (box_new w _).1 hb)
  have BK := Aside0.mk (blk_below (blk_new w _) hb)
  clear hb
  have c0 := (blk_cell BK.out 0).trans rfl
  have c1 := (blk_cell BK.out 1).trans rfl
  go_wp2_with fail
  refine (field_order.calls k P M q _ HH2.out).mono ?_
  rintro e w3 ⟨rfl, hb⟩
  have HB3 := Aside0.mk (below_step HB.out hb.below)
  have BK3 := Aside0.mk (blk_below BK.out hb.below)
  clear hb c0 c1 HB BK
  have c0 := (blk_cell BK3.out 0).trans rfl
  have c1 := (blk_cell BK3.out 1).trans rfl
  have c2 := (blk_cell BK3.out 2).trans rfl
  go_wp2_with fail
  refine (field_generator.calls k P M A c md q ex _ (Kd.C_below HR.out HB3.out) HC.out HH3.out).mono ?_
  rintro e w4 ⟨v0, rfl, hR, hb, hn⟩
  have HB4 := Aside0.mk (below_step HB3.out hb)
  have BK4 := Aside0.mk (blk_below BK3.out hb)
  obtain ⟨gx, cx, rfl, hgx, hgl, _⟩ := Kd.R_form hR hex
  have HGL := Aside0.mk hgl
  have HX := Aside0.mk hR
  have HG := Aside0.mk hgx
  clear hb hR hn c0 c1 c2 hgx hgl HB3 BK3
  have hne := fun (w' : World) => Lib.run_eql_slice_nil (P := Try.prog) w' 22 3 (some ⟨gx, 0, none⟩) ex.length cx 0 0 Try.underlying22
  have hmk := print_make_int (P := Try.prog) 22 3 (.int .i64 0) 8 Try.underlying22 rfl rfl (by decide) q hq.1 (by omega)
  have hq0 := hq.1
  have hq1 := hq.2
  have c0 := (blk_cell BK4.out 0).trans rfl
  have c1 := (blk_cell BK4.out 1).trans rfl
  have c2 := (blk_cell BK4.out 2).trans rfl
  go_wp2
  go_region_held_law (fun W => W.cell? ⟨w.heap.size, 0, none⟩ = some (.int .i64 P) ∧ W.cell? ⟨w.heap.size, 1, none⟩ = some (.int .i64 M) ∧ W.cell? ⟨w.heap.size, 2, none⟩ = some (.slice A md.length c) ∧ Aside0 (Below w4.heap.size w4 W)) (first | exact keep_of BK4.out (below_drew1 (Below.refl _ _)) | exact keep_alloc BK4.out (by assumption) _ | exact keep_grown BK4.out (by assumption) (by assumption) (by first | exact Nat.le_refl _ | exact Nat.le_succ _)) ((refine step_append_fresh rfl (.tmp 26) (.tmp 28) 22 3 rfl Try.underlying22 rfl _ A c md rfl rfl (by first | exact blk_new _ _ | exact blk_alloc (blk_new _ _) _ | exact blk_new1 _ _ _) (Kd.C_below HR.out (below_step HB4.out (below_of (by assumption)))) hmd ?_; (intro A1 c1 w5 HA)))
  have U1 := Aside0.mk (blk_new1 w5 (Obj.cells (madeCells #[Value.int .i64 0] q.toNat) 3) (Obj.cells #[.int .i64 P, .int .i64 M, .slice A1 md.length c1, .int .i64 q, .slice (some ⟨gx, 0, none⟩) ex.length cx, .slice (some ⟨w5.heap.size, 0, none⟩) q.toNat q.toNat] 85))
  have U2 := Aside0.mk (blk_alloc (blk_new w5 (Obj.cells (madeCells #[Value.int .i64 0] q.toNat) 3)) (Obj.cells #[.int .i64 P, .int .i64 M, .slice A1 md.length c1, .int .i64 q, .slice (some ⟨gx, 0, none⟩) ex.length cx, .slice (some ⟨w5.heap.size, 0, none⟩) q.toNat q.toNat] 85))
  have SB := Aside0.mk (grown_below (g := w4.heap.size) (below_drew (below_alloc (Below.refl _ w4) (Obj.cells #[] 3))) (Nat.le_refl _) (Nat.le_of_lt HA.out.2.2.1) HA.out.2.2.2.1)
  have U4 := Aside0.mk (below_alloc (below_alloc SB.out (Obj.cells (madeCells #[Value.int .i64 0] q.toNat) 3)) (Obj.cells #[.int .i64 P, .int .i64 M, .slice A1 md.length c1, .int .i64 q, .slice (some ⟨gx, 0, none⟩) ex.length cx, .slice (some ⟨w5.heap.size, 0, none⟩) q.toNat q.toNat] 85))
  have U3 := Aside0.mk (Kd.C_alloc (Kd.C_alloc HA.out.1 (Obj.cells (madeCells #[Value.int .i64 0] q.toNat) 3)) (Obj.cells #[.int .i64 P, .int .i64 M, .slice A1 md.length c1, .int .i64 q, .slice (some ⟨gx, 0, none⟩) ex.length cx, .slice (some ⟨w5.heap.size, 0, none⟩) q.toNat q.toNat] 85))
  have U5 : Aside0 (w4.heap.size ≤ w5.heap.size ∧ w5.heap.size < w5.heap.size + 1) := ⟨SB.out.size, Nat.lt_succ_self _⟩
  have U6 : Aside0 (∀ ad, A1 = some ad → 0 < md.length → ad.block ≠ w5.heap.size ∧ ad.block < w5.heap.size + 1) := ⟨by
    rintro ad rfl hm
    have hl := Kd.C_lt HA.out.1 hm (by decide)
    omega⟩
  clear HA
  generalize w5.heap.size + 1 = bx at U1 U2 U3 U4 U5 U6 ⊢
  generalize w5.heap.size = gl at U1 U2 U3 U4 U5 U6 ⊢
  generalize (w5.alloc (Obj.cells (madeCells #[Value.int .i64 0] q.toNat) 3)).alloc (Obj.cells #[.int .i64 P, .int .i64 M, .slice A1 md.length c1, .int .i64 q, .slice (some ⟨gx, 0, none⟩) ex.length cx, .slice (some ⟨gl, 0, none⟩) q.toNat q.toNat] 85) = W6 at U1 U2 U3 U4 U5 U6 ⊢
  rotate_left
  have U1 := Aside0.mk (blk_new w5 (Obj.cells #[.int .i64 P, .int .i64 M, .slice A1 md.length c1, .int .i64 q, .slice (some ⟨gx, 0, none⟩) ex.length cx, .slice (some ⟨w4.heap.size + 1, 0, none⟩) q.toNat q.toNat] 85))
  have hz : w5.heap[w4.heap.size + 1]? = some (Obj.cells (madeCells #[Value.int .i64 0] q.toNat) 3) := blk_grown (blk_drew (blk_new1 w4 _ _)) HA.out.2.2.2.1 (by simp)
  have U2 := Aside0.mk (blk_alloc hz (Obj.cells #[.int .i64 P, .int .i64 M, .slice A1 md.length c1, .int .i64 q, .slice (some ⟨gx, 0, none⟩) ex.length cx, .slice (some ⟨w4.heap.size + 1, 0, none⟩) q.toNat q.toNat] 85))
  have hzl := blk_lt hz
  have SB := Aside0.mk (grown_below (g := w4.heap.size) (below_drew (below_alloc (below_alloc (Below.refl _ w4) (Obj.cells #[] 3)) (Obj.cells (madeCells #[Value.int .i64 0] q.toNat) 3))) (Nat.le_refl _) (Nat.le_of_lt HA.out.2.2.1) HA.out.2.2.2.1)
  have U4 := Aside0.mk (below_alloc SB.out (Obj.cells #[.int .i64 P, .int .i64 M, .slice A1 md.length c1, .int .i64 q, .slice (some ⟨gx, 0, none⟩) ex.length cx, .slice (some ⟨w4.heap.size + 1, 0, none⟩) q.toNat q.toNat] 85))
  have U3 := Aside0.mk (Kd.C_alloc HA.out.1 (Obj.cells #[.int .i64 P, .int .i64 M, .slice A1 md.length c1, .int .i64 q, .slice (some ⟨gx, 0, none⟩) ex.length cx, .slice (some ⟨w4.heap.size + 1, 0, none⟩) q.toNat q.toNat] 85))
  have U5 : Aside0 (w4.heap.size ≤ w4.heap.size + 1 ∧ w4.heap.size + 1 < w5.heap.size) := ⟨Nat.le_succ _, hzl⟩
  have U6 : Aside0 (∀ ad, A1 = some ad → 0 < md.length → ad.block ≠ w4.heap.size + 1 ∧ ad.block < w5.heap.size) := ⟨by
    rintro ad rfl hm
    have hl := Kd.C_lt HA.out.1 hm (by decide)
    have h3 := HA.out.2.2.2.2 ad rfl
    have h4 := blk_lt (blk_drew (blk_new1 w4 (Obj.cells #[] 3) (Obj.cells (madeCells #[Value.int .i64 0] q.toNat) 3)))
    exact ⟨by rcases h3 with h3 | h3 <;> omega, hl⟩⟩
  clear HA hz hzl
  generalize w4.heap.size + 1 = gl at U1 U2 U3 U4 U5 U6 ⊢
  generalize w5.alloc (Obj.cells #[.int .i64 P, .int .i64 M, .slice A1 md.length c1, .int .i64 q, .slice (some ⟨gx, 0, none⟩) ex.length cx, .slice (some ⟨gl, 0, none⟩) q.toNat q.toNat] 85) = W6 at U1 U2 U3 U4 U5 U6 ⊢
  generalize w5.heap.size = bx at U1 U2 U3 U4 U5 U6 ⊢
  rotate_left
  have U1 := Aside0.mk (blk_new w5 (Obj.cells #[.int .i64 P, .int .i64 M, .slice A1 md.length c1, .int .i64 q, .slice (some ⟨gx, 0, none⟩) ex.length cx, .slice (some ⟨w4.heap.size, 0, none⟩) q.toNat q.toNat] 85))
  have hz : w5.heap[w4.heap.size]? = some (Obj.cells (madeCells #[Value.int .i64 0] q.toNat) 3) := blk_grown (blk_drew (blk_alloc (blk_new w4 _) _)) HA.out.2.2.2.1 (by simp)
  have U2 := Aside0.mk (blk_alloc hz (Obj.cells #[.int .i64 P, .int .i64 M, .slice A1 md.length c1, .int .i64 q, .slice (some ⟨gx, 0, none⟩) ex.length cx, .slice (some ⟨w4.heap.size, 0, none⟩) q.toNat q.toNat] 85))
  have hzl := blk_lt hz
  have SB := Aside0.mk (grown_below (g := w4.heap.size + 1) (below_drew (below_alloc (below_alloc (Below.refl _ w4) (Obj.cells (madeCells #[Value.int .i64 0] q.toNat) 3)) (Obj.cells #[] 3))) (Nat.le_succ _) (Nat.le_of_lt HA.out.2.2.1) HA.out.2.2.2.1)
  have U4 := Aside0.mk (below_alloc SB.out (Obj.cells #[.int .i64 P, .int .i64 M, .slice A1 md.length c1, .int .i64 q, .slice (some ⟨gx, 0, none⟩) ex.length cx, .slice (some ⟨w4.heap.size, 0, none⟩) q.toNat q.toNat] 85))
  have U3 := Aside0.mk (Kd.C_alloc HA.out.1 (Obj.cells #[.int .i64 P, .int .i64 M, .slice A1 md.length c1, .int .i64 q, .slice (some ⟨gx, 0, none⟩) ex.length cx, .slice (some ⟨w4.heap.size, 0, none⟩) q.toNat q.toNat] 85))
  have U5 : Aside0 (w4.heap.size ≤ w4.heap.size ∧ w4.heap.size < w5.heap.size) := ⟨Nat.le_refl _, hzl⟩
  have U6 : Aside0 (∀ ad, A1 = some ad → 0 < md.length → ad.block ≠ w4.heap.size ∧ ad.block < w5.heap.size) := ⟨by
    rintro ad rfl hm
    have hl := Kd.C_lt HA.out.1 hm (by decide)
    have h3 := HA.out.2.2.2.2 ad rfl
    have h4 := blk_lt (blk_drew (blk_new1 w4 (Obj.cells (madeCells #[Value.int .i64 0] q.toNat) 3) (Obj.cells #[] 3)))
    exact ⟨by rcases h3 with h3 | h3 <;> omega, hl⟩⟩
  clear HA hz hzl
  generalize w5.alloc (Obj.cells #[.int .i64 P, .int .i64 M, .slice A1 md.length c1, .int .i64 q, .slice (some ⟨gx, 0, none⟩) ex.length cx, .slice (some ⟨w4.heap.size, 0, none⟩) q.toNat q.toNat] 85) = W6 at U1 U2 U3 U4 U5 U6 ⊢
  generalize w5.heap.size = bx at U1 U2 U3 U4 U5 U6 ⊢
  obtain ⟨gl, egl⟩ : ∃ gl, gl = w4.heap.size := ⟨_, rfl⟩
  rw [← egl] at U1 U2 U6 ⊢
  replace U5 : Aside0 (w4.heap.size ≤ gl ∧ gl < bx) := ⟨by rw [egl]; exact U5.out.1, by rw [egl]; exact U5.out.2⟩
  clear egl
  rotate_left
  all_goals
    clear HR HC HH HH2 HH3 HG hne hmk c0 c2
    have HX6 := Aside0.mk (Kd.C_below (Kd.R_reads' HX.out).2.2 U4.out)
    have L6 := Aside0.mk (made_R U5.out.1 U2.out (by omega))
    have K6 := Aside0.mk (KeepBut.refl W6 gl none)
    have B6 := Aside0.mk (below_step HB4.out U4.out)
    have GE := Aside0.mk (show w.heap.size ≤ gl from Nat.le_trans HB4.out.size U5.out.1)
    have NX := Aside0.mk (show ∀ ad, some (⟨gx, 0, none⟩ : Addr) = some ad → 0 < ex.length → ad.block ≠ gl from fun ad e _ => by injection e with e; subst e; have := HGL.out; have := U5.out.1; show gx ≠ gl; omega)
    have NB := Aside0.mk (show bx ≠ gl from by have := U5.out.2; omega)
    have LE := Aside0.mk (show 0 ≤ (0 : Int) ∧ (List.replicate q.toNat (0 : Int)).length = q.toNat ∧ newlog (0 : Int).toNat (ex.drop (0 : Int).toNat) (List.replicate q.toNat 0) = newlog 0 ex (List.replicate q.toNat 0) ∧ (0 : Int).toNat + ex.length = ex.length from ⟨by decide, List.length_replicate, by show newlog 0 (ex.drop 0) _ = _; rw [List.drop_zero], Nat.zero_add _⟩)
    have XH := Aside0.mk (show ∀ x, x ∈ ex → 0 ≤ x ∧ x < (q.toNat : Int) from fun x h => by have := hx x h; omega)
    have HB9 := Aside0.mk (show (ex.length : Int) ≤ 256 from by have := hln; omega)
    clear hx hln
    obtain ⟨nq, enq⟩ : ∃ nq, nq = q.toNat := ⟨_, rfl⟩
    have ENQ := Aside0.mk enq
    rw [← enq] at U1 U2 L6 LE XH ⊢
    clear enq
    go_wp2
    go_loopg [39] ex.length (fun kq v39 W => ∃ (i : Int) (lg : List Int), v39 = .int .i64 i ∧ Aside0 (0 ≤ i ∧ lg.length = nq ∧ newlog i.toNat (ex.drop i.toNat) lg = newlog 0 ex (List.replicate nq 0) ∧ i.toNat + kq = ex.length) ∧ Aside0 (Kd.R (Kd.int .i64) 3 W w4.heap.size (fun _ => True) (.slice (some ⟨gl, 0, none⟩) nq nq) lg) ∧ Aside0 (KeepBut W6 W gl none) ∧ Aside0 (Below w.heap.size w W))
    case atStart => exact ⟨0, _, rfl, LE, L6, K6, B6⟩
    case round =>
      clear L6 K6 LE
      obtain ⟨i, lg, rfl, HL, HO, HK, HBW⟩ := hrel
      by_cases ct : i < (ex.length : Int)
      · have ctb : decide (i < (ex.length : Int)) = true := decide_eq_true ct
        have p1 : 0 ≤ i := HL.out.1
        obtain ⟨ad, ea, hcell⟩ := Kd.at_int (Kd.C_keep 0 HX6.out HK.out NX.out) i p1 ct
        injection ea with ea
        subst ea
        simp only [add_plain] at hcell
        have hxx := XH.out (rd ex i) (by rw [rd_getElem ex i p1 ct]; exact List.getElem_mem _)
        have EX := Aside0.mk (rd_getElem ex i p1 ct)
        generalize rd ex i = x at hcell hxx EX
        have p2 : 0 ≤ x := hxx.1
        have p3 : x < (nq : Int) := hxx.2
        obtain ⟨hs, hf⟩ := Kd.R_celln 0 HO.out x p2 p3
        have hP := Aside0.mk (Kd.R_putn HO.out x i)
        have cb : wr.cell? ⟨bx, 5, none⟩ = some (.slice (some ⟨gl, 0, none⟩) nq nq) := (blk_cell (HK.out.blk U1.out NB.out (by simp)) 5).trans rfl
        clear hxx
        have HI := Aside0.mk (show 0 ≤ i ∧ i < ex.length from ⟨p1, ct⟩)
        replace p1 := eq_true p1
        replace ct := eq_true ct
        replace p2 := eq_true p2
        replace p3 := eq_true p3
        go_wp2
        go_roundg (gk - 1)
        case measure =>
          have h1 := HL.out.2.2.2
          have h2 := HI.out
          omega
        case rel =>
          have h0 := HI.out
          have h9 := HB9.out
          have h1 := HL.out
          refine ⟨i + 1, lg.set x.toNat i, by rw [w64 (n := i + 1) (by omega)], ⟨by omega, by rw [List.length_set]; exact h1.2.1, ?_, by omega⟩, ⟨hP.out⟩, ⟨HK.out.set_ _ _⟩, ⟨below_set HBW.out GE.out⟩⟩
          have e1 : (i + 1).toNat = i.toNat + 1 := by omega
          rw [← h1.2.2.1, e1, List.drop_eq_getElem_cons (i := i.toNat) (l := ex) (by omega), newlog, ← EX.out, Int.toNat_of_nonneg h0.1]
      · have ctb : decide (i < (ex.length : Int)) = false := decide_eq_false ct
        have HI := Aside0.mk ct
        go_wp2
        go_ret2
        have h1 := HL.out
        have h2 := HI.out
        have e1 : ex.drop i.toNat = [] := List.drop_eq_nil_of_le (by omega)
        have e2 : newlog 0 ex (List.replicate q.toNat 0) = lg := by rw [← ENQ.out, ← h1.2.2.1, e1, newlog]
        have hbx := HK.out.blk U1.out NB.out (by simp)
        have hbl := blk_lt hbx
        have h5 := U5.out
        refine ⟨bx, rfl, cutW wr bx, below_cut HBW.out (by have := HB4.out.size; omega) (by omega), cut_below (by omega), ?_⟩
        rw [e2]
        refine ⟨A1, c1, some ⟨gx, 0, none⟩, cx, some ⟨gl, 0, none⟩, nq, by rw [h1.2.1]; exact hbx, by rw [cut_size (by omega)]; exact Nat.le_refl _, ?_, ?_, ?_⟩
        · exact C_cut (Kd.C_keep 0 U3.out HK.out (fun ad e hn => (U6.out ad e hn).1)) (fun ad e hn => (U6.out ad e hn).2)
        · exact C_cut (Kd.C_keep 0 HX6.out HK.out NX.out) (fun ad e hn => by injection e with e; subst e; have := HGL.out; show gx < bx; omega)
        · rw [h1.2.1]
          have hr := (Kd.R_reads' HO.out).2.2
          rw [h1.2.1] at hr
          exact C_cut hr (fun ad e hn => by injection e with e; subst e; exact h5.2)
end Go.Proofs.Ytiejggpmjapajaa.PA
end
section
namespace Go.Proofs.Ytiejggpmjapajaa.PA
open Alg Go.RowKit Go.Proofs.YtiejggpmjapajaaW.PrintWords Go.Proofs.YtiejggpmjapajaaW.PrintLast Go.Proofs.YtiejggpmjapajaaW.PrintMore
set_option linter.unusedVariables false
theorem ipow_pos {P : Int} (h : 2 ≤ P) : ∀ i : Nat, 1 ≤ P ^ i
  | 0 => by simp
  | i + 1 => by
    have h1 := ipow_pos h i
    rw [Int.pow_succ]
    have := Int.mul_le_mul (a := 1) (b := 1) (c := P ^ i) (d := P) h1 (by omega) (by omega) (by omega)
    omega
theorem rorder_l0 {P : Int} (h2 : 2 ≤ P) (md : List Int) (m : Nat) (hm : m ≤ 8) (n i : Nat) (hi : i + n = m) (x : Int) (e : x = P ^ i) (hx : x ≤ 256) :
    ∃ r, Ev (fun k => codewrightref04_Order.l0 k x (i : Int) P (m : Int) md) r ∧ (r = 0 ∨ r = P ^ m ∧ r ≤ 256) := by
  have h1 := ipow_pos h2 i
  induction n generalizing i x with
  | zero =>
    refine ⟨x, Ev.succ ?_, .inr ⟨by rw [e, show i = m from by omega], hx⟩⟩
    simp only [codewrightref04_Order.l0]
    exact Ev.ifn (by omega) (Ev.now _)
  | succ n ih =>
    have hd : 0 ≤ (256 : Int) / P ∧ (256 : Int) / P ≤ 256 := ⟨Int.ediv_nonneg (by omega) (by omega), Int.ediv_le_self _ (by omega)⟩
    by_cases c : x > (256 : Int) / P
    · refine ⟨0, Ev.succ ?_, .inl rfl⟩
      simp only [codewrightref04_Order.l0]
      refine Ev.ifp (by omega) (Ev.ifn (by omega) (Ev.ifp ?_ (Ev.now _)))
      rw [tdiv_pos (by omega), w64 (n := (256 : Int) / P) (by omega)]; exact c
    · have hle : x * P ≤ 256 := Int.mul_le_of_le_ediv (by omega) (by omega)
      have h3 := ipow_pos h2 (i + 1)
      have e3 : x * P = P ^ (i + 1) := by rw [Int.pow_succ, e]
      obtain ⟨r, hr, hp⟩ := ih (i + 1) (by omega) (x * P) e3 hle h3
      refine ⟨r, Ev.succ ?_, hp⟩
      simp only [codewrightref04_Order.l0]
      refine Ev.ifp (by omega) (Ev.ifn (by omega) (Ev.ifn ?_ ?_))
      · rw [tdiv_pos (by omega), w64 (n := (256 : Int) / P) (by omega)]; exact c
      · rw [w64 (n := x * P) (by omega), w64 (n := (i : Int) + 1) (by omega)]
        exact hr
theorem rorder_tot (P M : Int) (md : List Int) : ∃ r, Ev (fun k => codewrightref04_Order.f k P M md) r ∧ (r = 0 ∨ 2 ≤ P ∧ 1 ≤ M ∧ M ≤ 8 ∧ r = P ^ M.toNat ∧ r ≤ 256) := by
  unfold codewrightref04_Order.f
  by_cases h2 : P < 2
  · exact ⟨0, Ev.ifp h2 (Ev.succ (by simp only [codewrightref04_Order.j0]; exact Ev.ifp trivial (Ev.now _))), .inl rfl⟩
  by_cases h1 : M < 1
  · exact ⟨0, Ev.ifn h2 (Ev.ifp h1 (Ev.succ (by simp only [codewrightref04_Order.j0]; exact Ev.ifp trivial (Ev.now _)))), .inl rfl⟩
  by_cases h8 : M > 8
  · exact ⟨0, Ev.ifn h2 (Ev.ifn h1 (Ev.succ (by simp only [codewrightref04_Order.j0]; exact Ev.ifp (by simpa using h8) (Ev.now _)))), .inl rfl⟩
  obtain ⟨r, hr, hp⟩ := rorder_l0 (P := P) (by omega) md M.toNat (by omega) M.toNat 0 (by omega) 1 (by simp) (by omega)
  rw [Int.toNat_of_nonneg (by omega)] at hr
  refine ⟨r, Ev.ifn h2 (Ev.ifn h1 (Ev.succ ?_)), ?_⟩
  · simp only [codewrightref04_Order.j0]
    exact Ev.ifn (by simpa using h8) hr
  · rcases hp with hp | ⟨hp, h3⟩
    · exact .inl hp
    · exact .inr ⟨by omega, by omega, by omega, hp, h3⟩
theorem rprime_tot {P : Int} (h2 : 2 ≤ P) (h256 : P ≤ 256) : ∃ r, Ev (fun k => codewrightref04_prime.f k P) r := by
  unfold codewrightref04_prime.f
  suffices h : ∀ (n : Nat) (x : Int), 2 ≤ x → x ≤ P → P - x ≤ n → ∃ r, Ev (fun k => codewrightref04_prime.l0 k P x) r from h 256 2 (by omega) h2 (by omega)
  intro n
  induction n with
  | zero =>
    intro x hx hP hn
    refine ⟨true, Ev.succ ?_⟩
    simp only [codewrightref04_prime.l0]
    exact Ev.ifn (by omega) (Ev.now _)
  | succ n ih =>
    intro x hx hP hn
    by_cases c : x < P
    · by_cases d : Int.tmod P x = 0
      · refine ⟨false, Ev.succ ?_⟩
        simp only [codewrightref04_prime.l0]
        exact Ev.ifp c (Ev.ifn (by omega) (Ev.ifp d (Ev.now _)))
      · obtain ⟨r, hr⟩ := ih (x + 1) (by omega) (by omega) (by omega)
        refine ⟨r, Ev.succ ?_⟩
        simp only [codewrightref04_prime.l0]
        refine Ev.ifp c (Ev.ifn (by omega) (Ev.ifn d ?_))
        rw [w64 (n := x + 1) (by omega)]; exact hr
    · refine ⟨true, Ev.succ ?_⟩
      simp only [codewrightref04_prime.l0]
      exact Ev.ifn c (Ev.now _)
theorem divides_l2 (xs : List Int) (hl : xs.length ≤ 1000) (n i : Nat) (hi : i + n = xs.length) : ∃ r, Ev (fun k => codewrightref04_divides.l2 k xs (i : Int)) r := by
  induction n generalizing i with
  | zero =>
    refine ⟨true, Ev.succ ?_⟩
    simp only [codewrightref04_divides.l2]
    exact Ev.ifn (by omega) (Ev.now _)
  | succ n ih =>
    by_cases c : rd xs (i : Int) = 0
    · obtain ⟨r, hr⟩ := ih (i + 1) (by omega)
      refine ⟨r, Ev.succ ?_⟩
      simp only [codewrightref04_divides.l2]
      refine Ev.ifp (by omega) (Ev.ifp (by omega) (Ev.ifp c ?_))
      rw [w64 (n := (i : Int) + 1) (by omega)]; exact hr
    · refine ⟨false, Ev.succ ?_⟩
      simp only [codewrightref04_divides.l2]
      exact Ev.ifp (by omega) (Ev.ifp (by omega) (Ev.ifn c (Ev.now _)))
theorem divides_tot (d l : List Int) (P : Int) (hP : 2 ≤ P) (hd : 1 ≤ d.length ∧ d.length ≤ 100) (hl : l.length ≤ 100) : ∃ r, Ev (fun k => codewrightref04_divides.f k d l P) r := by
  have row : ∀ (j : Nat) (xs : List Int) (n i : Nat), xs.length = l.length + 1 → d.length ≤ j → j < xs.length → i + n = d.length →
      (∀ ys : List Int, ys.length = l.length + 1 → ∃ r, Ev (fun k => codewrightref04_divides.l0 k d P (d.length : Int) ys ((j : Int) - 1)) r) →
      ∀ h : Int, ∃ r, Ev (fun k => codewrightref04_divides.l1 k d P (d.length : Int) xs (j : Int) h (i : Int)) r := by
    intro j xs n i hx hdj hj hi hrec h
    induction n generalizing i xs with
    | zero =>
      obtain ⟨r, hr⟩ := hrec (xs.set j 0) (by rw [List.length_set]; exact hx)
      refine ⟨r, Ev.succ ?_⟩
      simp only [codewrightref04_divides.l1]
      refine Ev.ifn (by omega) (Ev.ifp (by omega) (Ev.ifp (by omega) ?_))
      rw [Int.toNat_natCast, w64 (n := (j : Int) - 1) (by omega)]; exact hr
    | succ n ih =>
      have e1 : wrap64 (wrap64 ((j : Int) - (d.length : Int)) + (i : Int)) = ((j - d.length + i : Nat) : Int) := by
        rw [w64 (n := (j : Int) - (d.length : Int)) (by omega), w64 (n := (j : Int) - (d.length : Int) + (i : Int)) (by omega)]; omega
      have e2 : wrap64 ((i : Int) + 1) = ((i + 1 : Nat) : Int) := by rw [w64 (n := (i : Int) + 1) (by omega)]; omega
      obtain ⟨r, hr⟩ := ih (xs.set (j - d.length + i) (Int.tmod (wrap64 ((rd xs ((j - d.length + i : Nat) : Int)) + (wrap64 ((wrap64 (P - h)) * (rd d (i : Int)))))) P)) (i + 1) (by rw [List.length_set]; exact hx) (by rw [List.length_set]; exact hj) (by omega)
      refine ⟨r, Ev.succ ?_⟩
      simp only [codewrightref04_divides.l1, e1, e2, Int.toNat_natCast]
      clear e1 e2
      exact Ev.ifp (by omega) (Ev.ifp (by omega) (Ev.ifp (by omega) (Ev.ifp (by omega) (Ev.ifp (by omega) (Ev.ifn (by omega) hr)))))
  have col : ∀ (n : Nat) (xs : List Int), xs.length = l.length + 1 → n ≤ l.length + 1 → ∃ r, Ev (fun k => codewrightref04_divides.l0 k d P (d.length : Int) xs ((n : Int) - 1)) r := by
    intro n
    induction n with
    | zero =>
      intro xs hx hn
      obtain ⟨r, hr⟩ := divides_l2 xs (by omega) xs.length 0 (by omega)
      refine ⟨r, Ev.succ ?_⟩
      simp only [codewrightref04_divides.l0]
      exact Ev.ifn (by omega) hr
    | succ n ih =>
      intro xs hx hn
      by_cases c : d.length ≤ n
      · obtain ⟨r, hr⟩ := row n xs d.length 0 hx c (by omega) (by omega) (fun ys hy => ih ys hy (by omega)) (rd xs (n : Int))
        refine ⟨r, Ev.succ ?_⟩
        have e : ((n + 1 : Nat) : Int) - 1 = (n : Int) := by omega
        simp only [codewrightref04_divides.l0, e]
        exact Ev.ifp (by omega) (Ev.ifp (by omega) (Ev.ifp (by omega) hr))
      · obtain ⟨r, hr⟩ := divides_l2 xs (by omega) xs.length 0 (by omega)
        refine ⟨r, Ev.succ ?_⟩
        simp only [codewrightref04_divides.l0]
        exact Ev.ifn (by omega) hr
  obtain ⟨r, hr⟩ := col (l.length + 1) (l ++ [1]) (by simp) (Nat.le_refl _)
  refine ⟨r, ?_⟩
  unfold codewrightref04_divides.f
  refine Ev.some_bind (Ev.ifp (by simp only [List.length_nil]; omega) (Ev.some_bind (Ev.ifp (by simp only [List.nil_append]; omega) (Ev.some_bind ?_))))
  have e : wrap64 ((([] ++ l ++ [1] : List Int).length : Int) - 1) = ((l.length + 1 : Nat) : Int) - 1 := by
    rw [w64] <;> simp only [List.nil_append, List.length_append, List.length_cons, List.length_nil] <;> omega
  rw [e, List.nil_append]
  exact hr
theorem irreducible_tot (l : List Int) (P : Int) (h2 : 2 ≤ P) (h256 : P ≤ 256) (hl : l.length ≤ 8) (hq : P ^ l.length ≤ 256) : ∃ r, Ev (fun k => codewrightref04_irreducible.f k l P) r := by
  obtain ⟨p, rfl⟩ : ∃ p : Nat, P = (p : Int) := ⟨P.toNat, by omega⟩
  have half : ∀ i : Nat, 2 * i ≤ l.length → (p : Int) ^ i ≤ 256 := by
    intro i hi
    have h1 := ipow_pos h2 i
    have h3 := ipow_pos h2 (l.length - i)
    have e : (p : Int) ^ l.length = (p : Int) ^ i * (p : Int) ^ (l.length - i) := by rw [← Int.pow_add]; congr 1; omega
    have h4 : (p : Int) ^ i * 1 ≤ (p : Int) ^ i * (p : Int) ^ (l.length - i) := Int.mul_le_mul_of_nonneg_left (by omega) (by omega)
    omega
  have col : ∀ (n i : Nat), 1 ≤ i → i + n = 6 → (p : Int) ^ (i - 1) ≤ 256 → ∃ r, Ev (fun k => codewrightref04_irreducible.l0 k l (p : Int) ((p : Int) ^ (i - 1)) (i : Int)) r := by
    intro n
    induction n with
    | zero =>
      intro i h1 hi _
      refine ⟨true, Ev.succ ?_⟩
      simp only [codewrightref04_irreducible.l0]
      refine Ev.ifn ?_ (Ev.now _)
      rw [w64 (n := 2 * (i : Int)) (by omega)]; omega
    | succ n ih =>
      intro i h1 hi hpw
      by_cases c : 2 * i ≤ l.length
      · have hp := half i c
        have hp1 := ipow_pos h2 i
        have hp0 := ipow_pos h2 (i - 1)
        have e : (p : Int) ^ (i - 1) * (p : Int) = (p : Int) ^ i := by rw [← Int.pow_succ]; congr 1; omega
        have inner : ∀ (t : Nat) (x : Int), 0 ≤ x → x ≤ (p : Int) ^ i → (p : Int) ^ i - x ≤ t → ∃ r, Ev (fun k => codewrightref04_irreducible.l1 k l (p : Int) ((p : Int) ^ i) (i : Int) x) r := by
          intro t
          induction t with
          | zero =>
            intro x h0 hx ht
            obtain ⟨r, hr⟩ := ih (i + 1) (by omega) (by omega) hp
            refine ⟨r, Ev.succ ?_⟩
            simp only [codewrightref04_irreducible.l1]
            refine Ev.ifn (by omega) ?_
            rw [w64 (n := (i : Int) + 1) (by omega)]
            exact hr
          | succ t iht =>
            intro x h0 hx ht
            by_cases cx : x < (p : Int) ^ i
            · have hdg := digits_ev (p := p) (m := i) (by omega) (by omega) x h0 (by omega)
              obtain ⟨b, hb⟩ := divides_tot (digs p i x) l (p : Int) h2 (by rw [digs_length]; omega) (by omega)
              by_cases cb : b = true
              · refine ⟨false, Ev.succ ?_⟩
                simp only [codewrightref04_irreducible.l1]
                exact Ev.ifp cx (Ev.bind hdg (Ev.bind hb (Ev.ifp cb (Ev.now _))))
              · obtain ⟨r, hr⟩ := iht (x + 1) (by omega) (by omega) (by omega)
                refine ⟨r, Ev.succ ?_⟩
                simp only [codewrightref04_irreducible.l1]
                refine Ev.ifp cx (Ev.bind hdg (Ev.bind hb (Ev.ifn cb ?_)))
                rw [w64 (n := x + 1) (by omega)]; exact hr
            · obtain ⟨r, hr⟩ := ih (i + 1) (by omega) (by omega) hp
              refine ⟨r, Ev.succ ?_⟩
              simp only [codewrightref04_irreducible.l1]
              refine Ev.ifn cx ?_
              rw [w64 (n := (i : Int) + 1) (by omega)]
              exact hr
        obtain ⟨r, hr⟩ := inner 300 0 (by omega) (by omega) (by omega)
        refine ⟨r, Ev.succ ?_⟩
        simp only [codewrightref04_irreducible.l0]
        refine Ev.ifp (by rw [w64 (n := 2 * (i : Int)) (by omega)]; omega) ?_
        rw [e, w64 (n := (p : Int) ^ i) (by omega)]
        exact hr
      · refine ⟨true, Ev.succ ?_⟩
        simp only [codewrightref04_irreducible.l0]
        refine Ev.ifn ?_ (Ev.now _)
        rw [w64 (n := 2 * (i : Int)) (by omega)]; omega
  unfold codewrightref04_irreducible.f
  obtain ⟨r, hr⟩ := col 5 1 (by omega) (by omega) (by simp)
  rw [show (1 - 1 : Nat) = 0 from rfl, Int.pow_zero] at hr
  exact ⟨r, hr⟩
theorem Check_tot (P M : Int) (md : List Int) : ∃ r, Ev (fun k => codewrightref04_Check.f k P M md) r := by
  unfold codewrightref04_Check.f
  obtain ⟨o, ho, hp⟩ := rorder_tot P M md
  by_cases c : o = 0
  · refine ⟨1, Ev.bind ho (Ev.ifp c (Ev.succ ?_))⟩
    simp only [codewrightref04_Check.j0]
    exact Ev.ifp trivial (Ev.now _)
  · obtain ⟨h2, h1, h8, e, h256⟩ : 2 ≤ P ∧ 1 ≤ M ∧ M ≤ 8 ∧ o = P ^ M.toNat ∧ o ≤ 256 := by
      rcases hp with hp | hp
      · exact absurd hp c
      · exact hp
    have hP : P ≤ 256 := by
      have h3 := ipow_pos h2 (M.toNat - 1)
      have e1 : P ^ M.toNat = P ^ (M.toNat - 1) * P := by rw [← Int.pow_succ]; congr 1; omega
      have h4 : 1 * P ≤ P ^ (M.toNat - 1) * P := Int.mul_le_mul_of_nonneg_right h3 (by omega)
      omega
    obtain ⟨b, hb⟩ := rprime_tot h2 hP
    suffices h : ∃ r, Ev (fun k => codewrightref04_Check.j0 k (!b) P M md) r by
      obtain ⟨r, hr⟩ := h
      exact ⟨r, Ev.bind ho (Ev.ifn c (Ev.bind hb hr))⟩
    by_cases cb : (!b) = true
    · exact ⟨1, Ev.succ (by simp only [codewrightref04_Check.j0]; exact Ev.ifp cb (Ev.now _))⟩
    by_cases cM : M = 1
    · by_cases cl : (md.length : Int) = 0
      · exact ⟨0, Ev.succ (by simp only [codewrightref04_Check.j0]; exact Ev.ifn cb (Ev.ifp cM (Ev.ifp cl (Ev.now _))))⟩
      · exact ⟨1, Ev.succ (by simp only [codewrightref04_Check.j0]; exact Ev.ifn cb (Ev.ifp cM (Ev.ifn cl (Ev.now _))))⟩
    by_cases cl : (md.length : Int) = M
    · obtain ⟨ir, hir⟩ := irreducible_tot md P h2 hP (by omega) (by rw [show md.length = M.toNat from by omega, ← e]; exact h256)
      have rng : ∀ (n i : Nat), i + n = md.length → ∃ r, Ev (fun k => codewrightref04_Check.l0 k (i : Int) P M md) r := by
        intro n
        induction n with
        | zero =>
          intro i hi
          by_cases ci : ir = true
          · exact ⟨0, Ev.succ (by simp only [codewrightref04_Check.l0]; exact Ev.ifn (by omega) (Ev.bind hir (Ev.ifp ci (Ev.now _))))⟩
          · exact ⟨1, Ev.succ (by simp only [codewrightref04_Check.l0]; exact Ev.ifn (by omega) (Ev.bind hir (Ev.ifn ci (Ev.now _))))⟩
        | succ n ih =>
          intro i hi
          by_cases c0 : rd md (i : Int) < 0
          · exact ⟨1, Ev.succ (by simp only [codewrightref04_Check.l0]; exact Ev.ifp (by omega) (Ev.ifp (by omega) (Ev.ifp (by omega) (Ev.ifp c0 (Ev.now _)))))⟩
          by_cases c1 : rd md (i : Int) ≥ P
          · exact ⟨1, Ev.succ (by simp only [codewrightref04_Check.l0]; exact Ev.ifp (by omega) (Ev.ifp (by omega) (Ev.ifp (by omega) (Ev.ifn c0 (Ev.ifp c1 (Ev.now _))))))⟩
          obtain ⟨r, hr⟩ := ih (i + 1) (by omega)
          refine ⟨r, Ev.succ ?_⟩
          simp only [codewrightref04_Check.l0]
          refine Ev.ifp (by omega) (Ev.ifp (by omega) (Ev.ifp (by omega) (Ev.ifn c0 (Ev.ifn c1 ?_))))
          rw [w64 (n := (i : Int) + 1) (by omega)]; exact hr
      obtain ⟨r, hr⟩ := rng md.length 0 (by omega)
      exact ⟨r, Ev.succ (by simp only [codewrightref04_Check.j0]; exact Ev.ifn cb (Ev.ifn cM (Ev.ifp cl hr)))⟩
    · exact ⟨1, Ev.succ (by simp only [codewrightref04_Check.j0]; exact Ev.ifn cb (Ev.ifn cM (Ev.ifn cl (Ev.now _))))⟩
theorem forder_l0 {P : Int} (h2 : 2 ≤ P) (h256 : P ≤ 256) (m : Nat) (hm : m ≤ 8) (n i : Nat) (hi : i + n = m) (x : Int) (e : x = P ^ i) (hx : x ≤ 256) :
    ∃ r, Ev (fun k => field_order.l0 k P x (m : Int) (i : Int)) r ∧ (r = 0 ∨ r = P ^ m ∧ r ≤ 256) := by
  have h1 := ipow_pos h2 i
  induction n generalizing i x with
  | zero =>
    refine ⟨x, Ev.succ ?_, .inr ⟨by rw [e, show i = m from by omega], hx⟩⟩
    simp only [field_order.l0]
    exact Ev.ifn (by omega) (Ev.now _)
  | succ n ih =>
    have hb : 0 ≤ x * P ∧ x * P ≤ 256 * 256 := ⟨Int.mul_nonneg (by omega) (by omega), Int.mul_le_mul (by omega) (by omega) (by omega) (by omega)⟩
    by_cases c : x * P > 256
    · refine ⟨0, Ev.succ ?_, .inl rfl⟩
      simp only [field_order.l0]
      refine Ev.ifp (by omega) (Ev.ifp ?_ (Ev.now _))
      rw [w64 (n := x * P) (by omega)]; exact c
    · have h3 := ipow_pos h2 (i + 1)
      have e3 : x * P = P ^ (i + 1) := by rw [Int.pow_succ, e]
      obtain ⟨r, hr, hp⟩ := ih (i + 1) (by omega) (x * P) e3 (by omega) h3
      refine ⟨r, Ev.succ ?_, hp⟩
      simp only [field_order.l0]
      rw [w64 (n := x * P) (by omega)]
      refine Ev.ifp (by omega) (Ev.ifn c ?_)
      rw [w64 (n := (i : Int) + 1) (by omega)]
      exact hr
theorem forder_tot (P M : Int) : ∃ r, Ev (fun k => field_order.f k P M) r ∧ (r = 0 ∨ 2 ≤ P ∧ P ≤ 256 ∧ 1 ≤ M ∧ M ≤ 8 ∧ r = P ^ M.toNat ∧ r ≤ 256) := by
  unfold field_order.f
  by_cases h2 : P < 2
  · exact ⟨0, Ev.ifp h2 (Ev.succ (by simp only [field_order.j0]; exact Ev.ifp trivial (Ev.now _))), .inl rfl⟩
  by_cases h256 : P > 256
  · exact ⟨0, Ev.ifn h2 (Ev.ifp h256 (Ev.succ (by simp only [field_order.j0]; exact Ev.ifp trivial (Ev.now _)))), .inl rfl⟩
  by_cases h1 : M < 1
  · exact ⟨0, Ev.ifn h2 (Ev.ifn h256 (Ev.ifp h1 (Ev.succ (by simp only [field_order.j0]; exact Ev.ifp trivial (Ev.now _))))), .inl rfl⟩
  by_cases h8 : M > 8
  · exact ⟨0, Ev.ifn h2 (Ev.ifn h256 (Ev.ifn h1 (Ev.succ (by simp only [field_order.j0]; exact Ev.ifp (by simpa using h8) (Ev.now _))))), .inl rfl⟩
  obtain ⟨r, hr, hp⟩ := forder_l0 (P := P) (by omega) (by omega) M.toNat (by omega) M.toNat 0 (by omega) 1 (by simp) (by omega)
  rw [Int.toNat_of_nonneg (by omega)] at hr
  refine ⟨r, Ev.ifn h2 (Ev.ifn h256 (Ev.ifn h1 (Ev.succ ?_))), ?_⟩
  · simp only [field_order.j0]
    exact Ev.ifn (by simpa using h8) hr
  · rcases hp with hp | ⟨hp, h3⟩
    · exact .inl hp
    · exact .inr ⟨by omega, by omega, by omega, by omega, hp, h3⟩
theorem isPrime_tot {P : Int} (h2 : 2 ≤ P) (h256 : P ≤ 256) : ∃ r, Ev (fun k => field_isPrime.f k P) r := by
  unfold field_isPrime.f
  suffices h : ∀ (n : Nat) (x : Int), 2 ≤ x → x ≤ 17 → 17 - x ≤ n → ∃ r, Ev (fun k => field_isPrime.l0 k P x) r from h 15 2 (by omega) (by omega) (by omega)
  intro n
  induction n with
  | zero =>
    intro x hx hP hn
    obtain rfl : x = 17 := by omega
    refine ⟨decide (P ≥ 2), Ev.succ ?_⟩
    simp only [field_isPrime.l0]
    exact Ev.ifn (by rw [w64 (n := 17 * 17) (by omega)]; omega) (Ev.now _)
  | succ n ih =>
    intro x hx hP hn
    have hs : 0 ≤ x * x ∧ x * x ≤ 17 * 17 := ⟨Int.mul_nonneg (by omega) (by omega), Int.mul_le_mul (by omega) (by omega) (by omega) (by omega)⟩
    by_cases c : x * x ≤ P
    · have hx16 : x ≤ 16 := by
        rcases Int.lt_or_le 16 x with h | h
        · have h3 : 17 * 17 ≤ x * x := Int.mul_le_mul (by omega) (by omega) (by omega) (by omega)
          omega
        · exact h
      by_cases d : Int.tmod P x = 0
      · refine ⟨false, Ev.succ ?_⟩
        simp only [field_isPrime.l0]
        rw [w64 (n := x * x) (by omega)]
        exact Ev.ifp c (Ev.ifn (by omega) (Ev.ifp d (Ev.now _)))
      · obtain ⟨r, hr⟩ := ih (x + 1) (by omega) (by omega) (by omega)
        refine ⟨r, Ev.succ ?_⟩
        simp only [field_isPrime.l0]
        rw [w64 (n := x * x) (by omega)]
        refine Ev.ifp c (Ev.ifn (by omega) (Ev.ifn d ?_))
        rw [w64 (n := x + 1) (by omega)]; exact hr
    · refine ⟨decide (P ≥ 2), Ev.succ ?_⟩
      simp only [field_isPrime.l0]
      rw [w64 (n := x * x) (by omega)]
      exact Ev.ifn c (Ev.now _)
theorem shape_tot (P M : Int) (md : List Int) : ∃ r, Ev (fun k => field_shape.f k P M md) r ∧ (r = true → ∃ p m : Nat, P = (p : Int) ∧ M = (m : Int) ∧ FOk p m md ∧ Ev (fun k => field_order.f k P M) ((p : Int) ^ m)) := by
  unfold field_shape.f
  obtain ⟨o, ho, hp⟩ := forder_tot P M
  by_cases c : o = 0
  · refine ⟨false, Ev.bind ho (Ev.ifp c (Ev.succ ?_)), fun h => by simp at h⟩
    simp only [field_shape.j0]
    exact Ev.ifp trivial (Ev.now _)
  obtain ⟨h2, hP, h1, h8, e, h256⟩ : 2 ≤ P ∧ P ≤ 256 ∧ 1 ≤ M ∧ M ≤ 8 ∧ o = P ^ M.toNat ∧ o ≤ 256 := by
    rcases hp with hp | hp
    · exact absurd hp c
    · exact hp
  obtain ⟨p, rfl⟩ : ∃ p : Nat, P = (p : Int) := ⟨P.toNat, by omega⟩
  obtain ⟨m, rfl⟩ : ∃ m : Nat, M = (m : Int) := ⟨M.toNat, by omega⟩
  rw [Int.toNat_natCast] at e
  subst e
  obtain ⟨b, hb⟩ := isPrime_tot h2 hP
  suffices h : ∃ r, Ev (fun k => field_shape.j0 k (!b) (p : Int) (m : Int) md) r ∧ (r = true → (m = 1 ∧ md = [] ∨ 1 < m ∧ md.length = m) ∧ InP p md) by
    obtain ⟨r, hr, h⟩ := h
    exact ⟨r, Ev.bind ho (Ev.ifn c (Ev.bind hb hr)), fun hh => ⟨p, m, rfl, rfl, ⟨by omega, by omega, by omega, by omega, h256, (h hh).1, (h hh).2⟩, ho⟩⟩
  by_cases cb : (!b) = true
  · exact ⟨false, Ev.succ (by simp only [field_shape.j0]; exact Ev.ifp cb (Ev.now _)), fun h => by simp at h⟩
  by_cases cM : (m : Int) = 1
  · refine ⟨((md.length : Int) == 0), Ev.succ (by simp only [field_shape.j0]; exact Ev.ifn cb (Ev.ifp cM (Ev.now _))), fun h => ?_⟩
    have hl : md = [] := List.eq_nil_of_length_eq_zero (by simpa using h)
    exact ⟨.inl ⟨by omega, hl⟩, by subst hl; intro x hx; simp at hx⟩
  by_cases cl : (md.length : Int) = (m : Int)
  · have rng : ∀ (n i : Nat), i + n = md.length → ∃ r, Ev (fun k => field_shape.l0 k md (md.length : Int) (i : Int) (p : Int) (m : Int) md) r ∧ (r = true → ∀ j, i ≤ j → j < md.length → 0 ≤ md.getD j 0 ∧ md.getD j 0 < (p : Int)) := by
      intro n
      induction n with
      | zero =>
        intro i hi
        exact ⟨true, Ev.succ (by simp only [field_shape.l0]; exact Ev.ifn (by omega) (Ev.now _)), fun _ j h1 h2 => by omega⟩
      | succ n ih =>
        intro i hi
        by_cases c0 : rd md (i : Int) < 0
        · exact ⟨false, Ev.succ (by simp only [field_shape.l0]; exact Ev.ifp (by omega) (Ev.ifp (by omega) (Ev.ifp (by omega) (Ev.ifp c0 (Ev.now _))))), fun h => by simp at h⟩
        by_cases c1 : rd md (i : Int) ≥ (p : Int)
        · exact ⟨false, Ev.succ (by simp only [field_shape.l0]; exact Ev.ifp (by omega) (Ev.ifp (by omega) (Ev.ifp (by omega) (Ev.ifn c0 (Ev.ifp c1 (Ev.now _)))))), fun h => by simp at h⟩
        obtain ⟨r, hr, hj⟩ := ih (i + 1) (by omega)
        refine ⟨r, Ev.succ ?_, fun h j h1 h2 => ?_⟩
        · simp only [field_shape.l0]
          refine Ev.ifp (by omega) (Ev.ifp (by omega) (Ev.ifp (by omega) (Ev.ifn c0 (Ev.ifn c1 ?_))))
          rw [w64 (n := (i : Int) + 1) (by omega)]; exact hr
        · rcases Nat.lt_or_ge i j with h3 | h3
          · exact hj h j h3 h2
          · obtain rfl : i = j := by omega
            rw [rd_nat] at c0 c1
            omega
    obtain ⟨r, hr, hj⟩ := rng md.length 0 (by omega)
    refine ⟨r, Ev.succ (by simp only [field_shape.j0]; exact Ev.ifn cb (Ev.ifn cM (Ev.ifp cl hr))), fun h => ⟨.inr ⟨by omega, by omega⟩, fun x hx => ?_⟩⟩
    obtain ⟨j, hjl, e⟩ := List.getElem_of_mem hx
    have h3 := hj h j (Nat.zero_le _) hjl
    rw [List.getD_eq_getElem?_getD, List.getElem?_eq_getElem hjl, e] at h3
    exact h3
  · exact ⟨false, Ev.succ (by simp only [field_shape.j0]; exact Ev.ifn cb (Ev.ifn cM (Ev.ifn cl (Ev.now _)))), fun h => by simp at h⟩
end Go.Proofs.Ytiejggpmjapajaa.PA
end
section
namespace Go.Proofs.Ytiejggpmjapajaa.PA
open Alg Go.RowKit Go.Proofs.YtiejggpmjapajaaW.PrintWords Go.Proofs.YtiejggpmjapajaaW.PrintLast Go.Proofs.YtiejggpmjapajaaW.PrintMore
set_option linter.unusedVariables false
def Field (W0 w : World) (g : Nat) (P M : Int) (md : List Int) : Prop :=
  ∃ (p m : Nat) (ex lg : List Int), P = (p : Int) ∧ M = (m : Int) ∧ (∃ t : Two p, @GOk p m t md ex lg) ∧ IsS85 W0 w g (p : Int) (m : Int) md ((p : Int) ^ m) ex lg
theorem New_calls (P M : Int) (A : Option Addr) (c : Nat) (md : List Int) (w : World) (hr : Kd.C (Kd.int .i64) w A md.length md) (hc : md.length ≤ c) :
    Calls Try.prog 39 #[.agg #[.int .i64 P, .int .i64 M, .slice A md.length c]] w fun e w' => ∃ v n, e = .returned (.tuple #[v, .int .i64 n]) ∧ ((n = 1 ∧ Below w.heap.size w w') ∨
      (n = 0 ∧ ∃ g : Nat, v = .pointer (some ⟨g, 0, none⟩) ∧ ∃ W0 : World, Below w.heap.size w W0 ∧ Below W0.heap.size W0 w' ∧ Field W0 w' g P M md)) := by
  obtain ⟨s, ⟨K, hs⟩, hy⟩ := shape_tot P M md
  by_cases c1 : s = true
  · subst c1
    obtain ⟨p, m, rfl, rfl, hf, ⟨K2, ho⟩⟩ := hy rfl
    have : Two p := ⟨hf.p2⟩
    obtain ⟨r, ⟨K3, hg⟩, hG⟩ := generator_ev (md := md) hf
    have k1 := hs (K + K2 + K3) (by omega)
    have k2 := ho (K + K2 + K3) (by omega)
    have k3 := hg (K + K2 + K3) (by omega)
    have hpw := hf.pow_le (Nat.le_refl m)
    have hlm : md.length ≤ 8 := by
      have h8 := hf.m8
      rcases hf.mdl with ⟨_, e⟩ | ⟨_, e⟩
      · rw [e]; exact Nat.zero_le _
      · omega
    by_cases c2 : r = []
    · subst c2
      refine (New_nogen _ p m _ A c md w hr hc k1 k2 k3).mono ?_
      rintro e w' ⟨rfl, hb⟩
      exact ⟨_, _, rfl, .inl ⟨rfl, hb⟩⟩
    · have hGen : Gen p m md r := by
        rcases hG with h | h
        · exact absurd h c2
        · exact h
      obtain ⟨a, hP, hl, _⟩ := id hGen
      refine (New_yes _ p m _ A c md r w hr hc k1 k2 k3 (List.length_pos_iff.2 c2) ⟨by omega, hpw.2⟩ hlm (fun x hx => by have := hP.rg x hx; omega) (by omega)).mono ?_
      rintro e w' ⟨g, rfl, W0, hb, hb2, hI⟩
      exact ⟨_, _, rfl, .inr ⟨rfl, g, rfl, W0, hb, hb2, p, m, r, _, rfl, rfl, ⟨this, ⟨hf, hGen, rfl⟩⟩, hI⟩⟩
  · have k1 := hs K (Nat.le_refl _)
    rw [show s = false from by simpa using c1] at k1
    refine (New_no _ P M A c md w hr hc k1).mono ?_
    rintro e w' ⟨rfl, hb⟩
    exact ⟨_, _, rfl, .inl ⟨rfl, hb⟩⟩
set_option maxHeartbeats 1000000 in
set_option maxRecDepth 100000 in
theorem made_calls (P M : Int) (A : Option Addr) (c : Nat) (md : List Int) (w : World) (hr : Kd.C (Kd.int .i64) w A md.length md) (hc : md.length ≤ c) :
    Calls Try.prog 11 #[.agg #[.int .i64 P, .int .i64 M, .slice A md.length c]] w fun e w' => ∃ v, e = .returned v ∧ ((v = .pointer none ∧ Below w.heap.size w w') ∨
      (∃ g : Nat, v = .pointer (some ⟨g, 0, none⟩) ∧ ∃ W0 : World, Below w.heap.size w W0 ∧ Below W0.heap.size W0 w' ∧ Field W0 w' g P M md)) := by
  obtain ⟨n, ⟨K, hK⟩⟩ := Check_tot P M md
  have HH := Aside0.mk (hK K (Nat.le_refl _))
  have HR := Aside0.mk hr
  have HC := Aside0.mk hc
  clear hr hc hK
  by_cases cn : n = 0
  · subst cn
    go_enter Try.func11, Try.ntmps11
    go_wp2_with fail
    refine (codewrightref04_Check.calls K P M A c md 0 _ (Kd.C_below HR.out (box_new _ _).1) HC.out HH.out).mono ?_
    rintro e w2 ⟨rfl, hb⟩
    have HB := Aside0.mk (below_step (box_new w _).1 hb)
    have BK := Aside0.mk (blk_below (blk_new w _) hb)
    clear hb
    have c0 := (blk_cell BK.out 0).trans rfl
    have c1 := (blk_cell BK.out 1).trans rfl
    have c2 := (blk_cell BK.out 2).trans rfl
    go_wp2_with fail
    refine (New_calls P M A c md _ (Kd.C_below HR.out HB.out) HC.out).mono ?_
    rintro e w3 ⟨v, n, rfl, h⟩
    rcases h with ⟨rfl, hb⟩ | ⟨rfl, g, rfl, W0, hb, hb2, hF⟩
    · have HB2 := Aside0.mk (below_step HB.out hb)
      clear hb
      go_wp2
      go_ret
      exact ⟨_, rfl, .inl ⟨rfl, HB2.out⟩⟩
    · have HB2 := Aside0.mk (below_step HB.out hb)
      have HB3 := Aside0.mk hb2
      have HF := Aside0.mk hF
      clear hb hb2 hF
      go_wp2
      go_ret
      exact ⟨_, rfl, .inr ⟨g, rfl, W0, HB2.out, HB3.out, HF.out⟩⟩
  · have cnb : (n != 0) = true := bne_iff_ne.mpr cn
    go_enter Try.func11, Try.ntmps11
    go_wp2_with fail
    refine (codewrightref04_Check.calls K P M A c md n _ (Kd.C_below HR.out (box_new _ _).1) HC.out HH.out).mono ?_
    rintro e w2 ⟨rfl, hb⟩
    have HB := Aside0.mk (below_step (box_new w _).1 hb)
    clear hb
    go_wp2
    go_ret
    exact ⟨_, rfl, .inl ⟨rfl, HB.out⟩⟩
end Go.Proofs.Ytiejggpmjapajaa.PA
end
section
namespace Go.Proofs.Ytiejggpmjapajaa.PA
open Alg Go.RowKit Go.Proofs.YtiejggpmjapajaaW.PrintWords Go.Proofs.YtiejggpmjapajaaW.PrintLast Go.Proofs.YtiejggpmjapajaaW.PrintMore
set_option linter.unusedVariables false
inductive MulTo (k : Nat) (P M : Int) (md : List Int) (q : Int) (ex lg : List Int) : List (List Int) → List Int → List Int → Prop
  | nil (out : List Int) : MulTo k P M md q ex lg [] out out
  | cons {p r res out : List Int} {ps : List (List Int)} : poly_product.f k P M md q ex lg out p = some (r, P, M, q) → MulTo k P M md q ex lg ps r res → MulTo k P M md q ex lg (p :: ps) out res
def Fac (w : World) (g : Nat) (A : Option Addr) (l : List (List Int)) : Prop :=
  ∀ i : Nat, (hi : i < l.length) → ∃ ad Ai ci, A = some ad ∧ (l[i]).length ≤ ci ∧ ∀ W', KeepBut w W' g none → W'.cell? (ad.add i) = some (.slice Ai (l[i]).length ci) ∧ Kd.C (Kd.int .i64) W' Ai (l[i]).length l[i]
set_option maxHeartbeats 1000000 in
set_option maxRecDepth 100000 in
theorem Mul_calls (k : Nat) (g : Nat) (P M : Int) (md : List Int) (q : Int) (ex lg : List Int) (A : Option Addr) (c : Nat) (l : List (List Int)) (res : List Int) (w0 w : World)
    (hI : IsS85 w0 w g P M md q ex lg) (hB : Below w0.heap.size w0 w) (hF : Fac w g A l) (hl : l.length ≤ 1000) (h : MulTo k P M md q ex lg l [1] res) :
    Calls Try.prog 25 #[.pointer (some ⟨g, 0, none⟩), .slice A l.length c] w fun e w' => ∃ v, e = .returned v ∧ Kd.R (Kd.int .i64) 3 w' w.heap.size (fun _ => True) v res ∧ IsS85 w0 w' g P M md q ex lg ∧ Below w0.heap.size w0 w' ∧ KeepBut w w' g none := by
  have HI := Aside0.mk hI
  have HB := Aside0.mk hB
  have HF := Aside0.mk hF
  have HM := Aside0.mk h
  have HK := Aside0.mk (KeepBut.refl w g none)
  clear hI hB hF h
  have HG := Aside0.mk (IsS85.lt HI.out)
  have HL := Aside0.mk hl
  clear hl
  have L1 : Aside0 (Kd.R (Kd.int .i64) 3 (w.alloc (Obj.cells #[.int .i64 1] 3)) w.heap.size (fun _ => True) (.slice (some ⟨w.heap.size, 0, none⟩) ([1] : List Int).length 1) [1]) :=
    ⟨Kd.R_of_own ⟨rfl, .inr ⟨w.heap.size, 1, #[.int .i64 1], rfl, Nat.le_refl _, blk_new _ _, Nat.le_refl _, by decide, rfl, rfl⟩⟩ (fun _ _ => trivial)⟩
  have I1 := Aside0.mk (IsS85.alloc HI.out (Obj.cells #[.int .i64 1] 3))
  have B1 := Aside0.mk (below_alloc HB.out (Obj.cells #[.int .i64 1] 3))
  have K1 : Aside0 (KeepBut w (w.alloc (Obj.cells #[.int .i64 1] 3)) g none) := ⟨KeepBut.of_below (below_alloc (Below.refl _ _) _) g none⟩
  have LE := Aside0.mk (show 0 ≤ (0 : Int) ∧ (0 : Int).toNat + l.length = l.length ∧ MulTo k P M md q ex lg (l.drop (0 : Int).toNat) [1] res from ⟨by decide, Nat.zero_add _, by show MulTo k P M md q ex lg (l.drop 0) [1] res; rw [List.drop_zero]; exact HM.out⟩)
  clear HM
  go_enter Try.func25, Try.ntmps25
  go_wp2
  go_loopg [5, 11] l.length (fun kq v5 v11 W => ∃ (i : Int) (out : List Int) (Ao : Option Addr) (co : Nat), v5 = .slice Ao out.length co ∧ v11 = .int .i64 i ∧ Aside0 (0 ≤ i ∧ i.toNat + kq = l.length ∧ MulTo k P M md q ex lg (l.drop i.toNat) out res) ∧ Aside0 (Kd.R (Kd.int .i64) 3 W w.heap.size (fun _ => True) (.slice Ao out.length co) out) ∧ Aside0 (IsS85 w0 W g P M md q ex lg) ∧ Aside0 (Below w0.heap.size w0 W) ∧ Aside0 (KeepBut w W g none))
  case atStart => exact ⟨0, [1], _, 1, rfl, rfl, LE, L1, I1, B1, K1⟩
  case round =>
    clear L1 I1 B1 K1 LE HI HB HK
    obtain ⟨i, out, Ao, co, rfl, rfl, HE, HO, HI, HB, HK⟩ := hrel
    by_cases ct : i < (l.length : Int)
    · have ctb : decide (i < (l.length : Int)) = true := decide_eq_true ct
      have p1 : 0 ≤ i := HE.out.1
      have hil : i.toNat < l.length := by omega
      obtain ⟨ad, Ai, ci, rfl, hci, hW⟩ := HF.out i.toNat hil
      obtain ⟨hcell, hrow⟩ := hW _ HK.out
      have HW := Aside0.mk (fun W' h => (hW W' h).2)
      have HCI := Aside0.mk hci
      have HRO := Aside0.mk hrow
      have HIL := Aside0.mk hil
      clear hW hrow hci
      have hd : l.drop i.toNat = l[i.toNat] :: l.drop (i.toNat + 1) := List.drop_eq_getElem_cons hil
      have HM := HE.out.2.2
      rw [hd] at HM
      clear hd
      generalize l[i.toNat] = p at hcell HW HCI HRO HM
      cases HM with
      | cons hp hrest =>
        rename_i r
        have HP := Aside0.mk hp
        have HRS := Aside0.mk hrest
        have HII := Aside0.mk (show 0 ≤ i ∧ i < l.length ∧ i.toNat + gk = l.length from ⟨p1, ct, HE.out.2.1⟩)
        clear hp hrest hil
        replace p1 := eq_true p1
        replace ct := eq_true ct
        go_wp2_with fail
        trace_state
        refine (poly_product.calls k g P M md q ex lg Ao co out Ai ci p r P M q w0 _ HI.out HB.out (Kd.R_reads' HO.out).2.2 (Kd.R_reads' HO.out).2.1 ?f1 HRO.out HCI.out ?f2 HP.out).mono ?_
        case f1 =>
          rintro ad' rfl hn
          obtain ⟨g', cap, e, hge, _⟩ := Kd.R_form HO.out hn
          injection e with e
          injection e with e
          subst e
          have := HG.out
          show g' ≠ g
          omega
        case f2 =>
          rintro ad' rfl hn
          exact Kd.foot_ne (fun W' h => HW.out W' (HK.out.trans h (.inl rfl))) hn (by decide)
        rintro e w4 ⟨v, rfl, hR, hI', hB', hK'⟩
        have hR' := Kd.R_lower hR HK.out.1
        obtain ⟨A2, c2, rfl, hc2, hC2⟩ := Kd.R_reads hR
        have HO2 := Aside0.mk hR'
        have HI2 := Aside0.mk hI'
        have HB2 := Aside0.mk hB'
        have HK2 := Aside0.mk (HK.out.trans hK' (.inl rfl))
        clear hR hR' hI' hB' hK' hc2 hC2
        go_wp2
        trace_state
        go_roundg (gk - 1)
        case measure =>
          have := HII.out
          omega
        case rel =>
          have h2 := HII.out
          have h3 := HL.out
          refine ⟨i + 1, r, A2, c2, rfl, by rw [w64 (n := i + 1) (by omega)], ⟨by omega, by omega, ?_⟩, HO2, HI2, HB2, HK2⟩
          rw [show (i + 1).toNat = i.toNat + 1 from by omega]
          exact HRS.out
    · have ctb : decide (i < (l.length : Int)) = false := decide_eq_false ct
      have HII := Aside0.mk ct
      go_wp2
      go_ret
      have h1 := HE.out
      have h2 := HII.out
      have hd : l.drop i.toNat = [] := List.drop_eq_nil_of_le (by omega)
      have h3 := h1.2.2
      rw [hd] at h3
      cases h3
      exact ⟨_, rfl, HO.out, HI.out, HB.out, HK.out⟩
end Go.Proofs.Ytiejggpmjapajaa.PA
end
section
namespace Go.Proofs.Ytiejggpmjapajaa.PA
open Alg Go.RowKit Go.Proofs.YtiejggpmjapajaaW.PrintWords Go.Proofs.YtiejggpmjapajaaW.PrintLast Go.Proofs.YtiejggpmjapajaaW.PrintMore
set_option linter.unusedVariables false
set_option maxHeartbeats 1000000 in
set_option maxRecDepth 100000 in
theorem made_yes (k : Nat) (P M q : Int) (A : Option Addr) (c : Nat) (md ex : List Int) (w : World) (hr : Kd.C (Kd.int .i64) w A md.length md) (hc : md.length ≤ c) (h0 : codewrightref04_Check.f k P M md = some 0) (h : field_shape.f k P M md = some true)
    (h2 : field_order.f k P M = some q) (h3 : field_generator.f k P M md q = some ex) (hex : 0 < ex.length) (hq : 0 ≤ q ∧ q ≤ 256) (hmd : md.length ≤ 8) (hx : ∀ x, x ∈ ex → 0 ≤ x ∧ x < q) (hln : ex.length ≤ 256) :
    Calls Try.prog 11 #[.agg #[.int .i64 P, .int .i64 M, .slice A md.length c]] w fun e w' => ∃ g : Nat, e = .returned (.pointer (some ⟨g, 0, none⟩)) ∧ ∃ W0 : World, Below w.heap.size w W0 ∧ Below W0.heap.size W0 w' ∧ IsS85 W0 w' g P M md q ex (newlog 0 ex (List.replicate q.toNat 0)) := by
  have HH := Aside0.mk h0
  have HN := Aside0.mk (fun w hr => New_yes k P M q A c md ex w hr hc h h2 h3 hex hq hmd hx hln)
  have HR := Aside0.mk hr
  have HC := Aside0.mk hc
  clear hr hc h0 h h2 h3 hex hq hmd hx hln
  go_enter Try.func11, Try.ntmps11
  go_wp2_with fail
  refine (codewrightref04_Check.calls k P M A c md 0 _ (Kd.C_below HR.out (box_new _ _).1) HC.out HH.out).mono ?_
  rintro e w2 ⟨rfl, hb⟩
  have HB := Aside0.mk (below_step (box_new w _).1 hb)
  have BK := Aside0.mk (blk_below (blk_new w _) hb)
  clear hb
  have c0 := (blk_cell BK.out 0).trans rfl
  have c1 := (blk_cell BK.out 1).trans rfl
  have c2 := (blk_cell BK.out 2).trans rfl
  go_wp2_with fail
  refine (HN.out _ (Kd.C_below HR.out HB.out)).mono ?_
  rintro e w3 ⟨g, rfl, W0, hb, hb2, hF⟩
  have HB2 := Aside0.mk (below_step HB.out hb)
  have HB3 := Aside0.mk hb2
  have HF := Aside0.mk hF
  clear hb hb2 hF
  go_wp2
  go_ret
  exact ⟨g, rfl, W0, HB2.out, HB3.out, HF.out⟩
theorem lit_R {W : World} {base g e : Nat} (cs : List Int) (hb : base ≤ g) (h : W.heap[g]? = some (.cells (cs.map (Value.int .i64)).toArray e (0, 0))) (hl : cs.length ≤ 1000) :
    Kd.R (Kd.int .i64) e W base (fun _ => True) (.slice (some ⟨g, 0, none⟩) cs.length cs.length) cs := by
  refine Kd.R_of_own ⟨by simp [encs], .inr ⟨g, cs.length, _, rfl, hb, h, Nat.le_refl _, by simp only [maxLen]; omega, by simp, ?_⟩⟩ (fun _ _ => trivial)
  show List.take (cs.length * 1) (cs.map (Value.int .i64)) = cs.map (Value.int .i64)
  rw [List.take_of_length_le (by simp)]
theorem lit_C {W : World} {g e : Nat} (cs : List Int) (h : W.heap[g]? = some (.cells (cs.map (Value.int .i64)).toArray e (0, 0))) (hl : cs.length ≤ 1000) : Kd.C (Kd.int .i64) W (some ⟨g, 0, none⟩) cs.length cs :=
  (Kd.R_reads' (lit_R (base := 0) cs (Nat.zero_le _) h hl)).2.2
theorem lit_ne {g g' : Nat} {n : Nat} (h : g < g') : ∀ ad, some (⟨g', 0, none⟩ : Addr) = some ad → 0 < n → ad.block ≠ g := fun ad e _ => by injection e with e; subst e; show g' ≠ g; omega
theorem blk_new2 (w : World) (a b c : Obj) : (((w.alloc a).alloc b).alloc c).heap[w.heap.size + 1 + 1]? = some c := by
  have h := blk_new1 (w.alloc a) b c
  have e : (w.alloc a).heap.size = w.heap.size + 1 := by unfold World.alloc; exact Array.size_push _
  rwa [e] at h
theorem fac_two {W : World} {g go ga gb e e2 cx cy : Nat} (xs ys : List Int) (ho : W.heap[go]? = some (.cells #[.slice (some ⟨ga, 0, none⟩) xs.length cx, .slice (some ⟨gb, 0, none⟩) ys.length cy] e2 (0, 0)))
    (ha : W.heap[ga]? = some (.cells (xs.map (Value.int .i64)).toArray e (0, 0))) (hb : W.heap[gb]? = some (.cells (ys.map (Value.int .i64)).toArray e (0, 0))) (hne : go ≠ g ∧ ga ≠ g ∧ gb ≠ g) (hx : xs.length ≤ cx ∧ xs.length ≤ 1000) (hy : ys.length ≤ cy ∧ ys.length ≤ 1000) :
    Fac W g (some ⟨go, 0, none⟩) [xs, ys] := by
  intro i hi
  match i, hi with
  | 0, _ =>
    refine ⟨_, _, _, rfl, hx.1, fun W' hk => ⟨?_, lit_C xs (hk.blk ha hne.2.1 (by simp)) hx.2⟩⟩
    rw [add_plain]
    exact (blk_cell (hk.blk ho hne.1 (by simp)) 0).trans rfl
  | 1, _ =>
    refine ⟨_, _, _, rfl, hy.1, fun W' hk => ⟨?_, lit_C ys (hk.blk hb hne.2.2 (by simp)) hy.2⟩⟩
    rw [add_plain]
    exact (blk_cell (hk.blk ho hne.1 (by simp)) 1).trans rfl
  | i + 2, h => exact absurd h (by simp)
theorem R_ne {e base g' n c : Nat} {ok : Nat → Prop} {W : World} {A : Option Addr} {xs : List Int} (h : Kd.R (Kd.int .i64) e W base ok (.slice A n c) xs) (hg : g' < base) : ∀ ad, A = some ad → 0 < n → ad.block ≠ g' := by
  rintro ad rfl hn
  have hl := (Kd.R_reads' h).1
  obtain ⟨g, cap, e1, hge, _⟩ := Kd.R_form h (by omega)
  injection e1 with e1
  injection e1 with e1
  subst e1
  show g ≠ g'
  omega
theorem size_alloc (w : World) (o : Obj) : (w.alloc o).heap.size = w.heap.size + 1 := by unfold World.alloc; exact Array.size_push _
end Go.Proofs.Ytiejggpmjapajaa.PA
end
section
namespace Go.Proofs.Ytiejggpmjapajaa.PA
open Alg Go.RowKit Go.Proofs.YtiejggpmjapajaaW.PrintWords Go.Proofs.YtiejggpmjapajaaW.PrintLast Go.Proofs.YtiejggpmjapajaaW.PrintMore
set_option linter.unusedVariables false
theorem f2_check : codewrightref04_Check.f 40 2 1 [] = some 0 := by decide +kernel
theorem f2_shape : field_shape.f 40 2 1 [] = some true := by decide +kernel
theorem f2_order : field_order.f 40 2 1 = some 2 := by decide +kernel
theorem f2_gen : field_generator.f 40 2 1 [] 2 = some [1] := by decide +kernel
theorem f5_check : codewrightref04_Check.f 40 5 1 [] = some 0 := by decide +kernel
theorem f5_shape : field_shape.f 40 5 1 [] = some true := by decide +kernel
theorem f5_order : field_order.f 40 5 1 = some 5 := by decide +kernel
theorem f5_gen : field_generator.f 40 5 1 [] 5 = some [1, 2, 4, 3] := by decide +kernel
theorem f2_mul : poly_product.f 40 2 1 [] 2 [1] [0, 0] [1] [1, 1, 1] = some ([1, 1, 1], 2, 1, 2) := by decide +kernel
theorem f2_mul' : poly_product.f 40 2 1 [] 2 [1] [0, 0] [1, 1, 1] [1, 1] = some ([1, 0, 0, 1], 2, 1, 2) := by decide +kernel
theorem f5_div : poly_DivMod.f 40 5 1 [] 5 [1, 2, 4, 3] [0, 0, 1, 3, 2] [1, 2, 0, 1] [3, 1] = some ([1, 2, 1], [3], 0, 5, 1, 5) := by decide +kernel
theorem f2_same : codewrightlaw05_same.f 40 [1, 0, 0, 1] [1, 0, 0, 1] = some true := by decide +kernel
theorem f5_same : codewrightlaw05_same.f 40 [1, 2, 1] [1, 2, 1] = some true := by decide +kernel
theorem f5_same' : codewrightlaw05_same.f 40 [3] [3] = some true := by decide +kernel
set_option maxHeartbeats 1000000 in
set_option maxRecDepth 100000 in
theorem alive_calls (w : World) :
    Calls Try.prog 10 #[] w fun e w' => e = .returned (.bool true) ∧ Below w.heap.size w w' := by
  go_enter Try.func10, Try.ntmps10
  go_wp2_with fail
  refine (made_yes 40 2 1 2 none 0 [] [1] _ (Kd.C_nil _ _) (Nat.le_refl _) f2_check f2_shape f2_order f2_gen (by decide) (by decide) (by decide) (by decide) (by decide)).mono ?_
  rintro e w2 ⟨g1, rfl, W1, hb1, hb2, hI⟩
  have A1 := Aside0.mk hb1
  have A2 := Aside0.mk hb2
  have A3 : Aside0 (IsS85 W1 w2 g1 2 1 [] 2 [1] [0, 0]) := ⟨hI⟩
  clear hb1 hb2 hI
  go_wp2_with fail
  refine (made_yes 40 5 1 5 none 0 [] [1, 2, 4, 3] _ (Kd.C_nil _ _) (Nat.le_refl _) f5_check f5_shape f5_order f5_gen (by decide) (by decide) (by decide) (by decide) (by decide)).mono ?_
  rintro e w3 ⟨g2, rfl, W2, hb1, hb2, hI⟩
  have B1 := Aside0.mk hb1
  have B2 := Aside0.mk hb2
  have B3 : Aside0 (IsS85 W2 w3 g2 5 1 [] 5 [1, 2, 4, 3] [0, 0, 1, 3, 2]) := ⟨hI⟩
  clear hb1 hb2 hI
  have G2 := Aside0.mk (IsS85.lt B3.out)
  go_wp2_with fail
  refine (poly_DivMod.calls 40 g2 5 1 [] 5 [1, 2, 4, 3] [0, 0, 1, 3, 2] _ 4 [1, 2, 0, 1] _ 2 [3, 1] [1, 2, 1] [3] 0 5 1 5 W2 _ (B3.out.alloc _ |>.alloc _) (below_alloc (below_alloc B2.out _) _) (lit_C [1, 2, 0, 1] (blk_alloc (blk_new _ _) _) (by decide)) (Nat.le_refl _) (lit_ne G2.out) (lit_C [3, 1] (blk_new1 _ _ _) (by decide)) (Nat.le_refl _) (lit_ne (by have := G2.out; omega)) f5_div).mono ?_
  rintro e w4 ⟨v0, v1, rfl, hR0, hR1, hI, hB, hK⟩
  obtain ⟨A0, c0, rfl, hc0, hC0⟩ := Kd.R_reads hR0
  obtain ⟨A1', c1, rfl, hc1, hC1⟩ := Kd.R_reads hR1
  have D0 := Aside0.mk hC0
  have D0c := Aside0.mk hc0
  have D1 := Aside0.mk hC1
  have D1c := Aside0.mk hc1
  have E24 := Aside0.mk (below_step B1.out hB)
  have g1w3 : g1 < w3.heap.size := by have h1 := IsS85.lt A3.out; have h2 := B1.out.size; have h3 := B2.out.size; omega
  have N0 := Aside0.mk (R_ne hR0 (by rw [size_alloc, size_alloc]; omega : g1 < _))
  have N1 := Aside0.mk (R_ne hR1 (by rw [size_alloc, size_alloc]; omega : g1 < _))
  clear g1w3
  have E3 := Aside0.mk (A3.out.below E24.out)
  have E2 := Aside0.mk (below_step A2.out E24.out)
  have E1 := Aside0.mk (below_step A1.out E2.out)
  clear hR0 hR1 hI hB hK hC0 hC1 hc0 hc1 B1 B2 B3 G2 A2 A3 E24
  have G1 := Aside0.mk (IsS85.lt E3.out)
  go_wp2_with fail
  refine (Mul_calls 40 g1 2 1 [] 2 [1] [0, 0] _ 2 [[1, 1, 1], [1, 1]] [1, 0, 0, 1] W1 _ (E3.out.alloc _ |>.alloc _ |>.alloc _) (below_alloc (below_alloc (below_alloc E2.out _) _) _)
    (fac_two (e := 3) [1, 1, 1] [1, 1] (blk_new2 _ _ _ _) (blk_alloc (blk_alloc (blk_new _ _) _) _) (blk_alloc (blk_new1 _ _ _) _) (by have := G1.out; omega) ⟨Nat.le_refl _, by decide⟩ ⟨Nat.le_refl _, by decide⟩) (by decide) (.cons f2_mul (.cons f2_mul' (.nil _)))).mono ?_
  rintro e w5 ⟨v, rfl, hR, hI, hB, hK⟩
  obtain ⟨A2, c2, rfl, hc2, hC2⟩ := Kd.R_reads hR
  have K45 := Aside0.mk ((KeepBut.of_below (below_alloc (below_alloc (below_alloc (Below.refl _ w4) (Obj.cells (List.map (Value.int .i64) [1, 1, 1]).toArray 3)) (Obj.cells (List.map (Value.int .i64) [1, 1]).toArray 3)) (Obj.cells #[.slice (some ⟨w4.heap.size, 0, none⟩) 3 3, .slice (some ⟨w4.heap.size + 1, 0, none⟩) 2 2] 22)) g1 none).trans hK (.inl rfl))
  have F0 := Aside0.mk (Kd.C_keep 0 D0.out K45.out N0.out)
  have F1 := Aside0.mk (Kd.C_keep 0 D1.out K45.out N1.out)
  have M2 := Aside0.mk (below_step A1.out hB)
  have M3 := Aside0.mk hC2
  have M4 := Aside0.mk hc2
  clear hR hI hB hK hC2 hc2 D0 D1 N0 N1 E1 E2 E3 G1 K45
  go_wp2_with fail
  refine (codewrightlaw05_same.calls 40 A2 c2 [1, 0, 0, 1] _ 4 [1, 0, 0, 1] true _ (Kd.C_alloc M3.out _) M4.out (lit_C [1, 0, 0, 1] (blk_new _ _) (by decide)) (Nat.le_refl _) f2_same).mono ?_
  rintro e w6 ⟨rfl, hb⟩
  have H56 := Aside0.mk (below_step (below_alloc (Below.refl _ w5) (Obj.cells (List.map (Value.int .i64) [1, 0, 0, 1]).toArray 3)) hb.below)
  clear hb
  go_wp2_with fail
  refine (codewrightlaw05_same.calls 40 A0 c0 [1, 2, 1] _ 3 [1, 2, 1] true _ (Kd.C_alloc (Kd.C_below F0.out H56.out) _) D0c.out (lit_C [1, 2, 1] (blk_new _ _) (by decide)) (Nat.le_refl _) f5_same).mono ?_
  rintro e w7 ⟨rfl, hb⟩
  have H57 := Aside0.mk (below_step H56.out (below_step (below_alloc (Below.refl _ w6) (Obj.cells (List.map (Value.int .i64) [1, 2, 1]).toArray 3)) hb.below))
  clear hb
  go_wp2_with fail
  refine (codewrightlaw05_same.calls 40 A1' c1 [3] _ 1 [3] true _ (Kd.C_alloc (Kd.C_below F1.out H57.out) _) D1c.out (lit_C [3] (blk_new _ _) (by decide)) (Nat.le_refl _) f5_same').mono ?_
  rintro e w8 ⟨rfl, hb⟩
  have H58 := Aside0.mk (below_step M2.out (below_step H57.out (below_step (below_alloc (Below.refl _ w7) (Obj.cells (List.map (Value.int .i64) [3]).toArray 3)) hb.below)))
  clear hb
  go_wp2
  go_ret
  exact ⟨rfl, H58.out⟩
end Go.Proofs.Ytiejggpmjapajaa.PA
end
section
namespace Go.Proofs.Ytiejggpmjapajaa.PA
open Alg Go.RowKit Go.Proofs.YtiejggpmjapajaaW.PrintWords Go.Proofs.YtiejggpmjapajaaW.PrintLast Go.Proofs.YtiejggpmjapajaaW.PrintMore
set_option linter.unusedVariables false
theorem same_l0 (a : List Int) (b : List Int) (hb : a.length = b.length) (hl : a.length ≤ 1000000) (n i : Nat) (hi : i + n = a.length) (hs : ∀ j, j < i → a.getD j 0 = b.getD j 0) :
    Ev (fun k => codewrightlaw05_same.l0 k a b (a.length : Int) (i : Int)) (decide (a = b)) := by
  induction n generalizing i with
  | zero =>
    refine Ev.succ ?_
    simp only [codewrightlaw05_same.l0]
    refine Ev.ifn (by omega) (Ev.val ?_)
    symm
    rw [decide_eq_true_iff]
    refine List.ext_getElem hb fun j h1 h2 => ?_
    have := hs j (by omega)
    rwa [List.getD_eq_getElem?_getD, List.getD_eq_getElem?_getD, List.getElem?_eq_getElem h1, List.getElem?_eq_getElem h2] at this
  | succ n ih =>
    refine Ev.succ ?_
    simp only [codewrightlaw05_same.l0]
    refine Ev.ifp (by omega) (Ev.ifp (by omega) (Ev.ifp (by omega) (Ev.ifp (by omega) ?_)))
    by_cases c : rd a (i : Int) = rd b (i : Int)
    · refine Ev.ifp c ?_
      rw [w64 (n := (i : Int) + 1) (by omega)]
      refine ih (i + 1) (by omega) fun j hj => ?_
      rcases Nat.lt_or_ge j i with h | h
      · exact hs j h
      · obtain rfl : j = i := by omega
        rwa [rd_nat, rd_nat] at c
    · refine Ev.ifn c (Ev.val ?_)
      symm
      rw [decide_eq_false_iff_not]
      rintro rfl
      exact c rfl
theorem same_ev (a b : List Int) (hl : a.length ≤ 1000000) : Ev (fun k => codewrightlaw05_same.f k a b) (decide (a = b)) := by
  unfold codewrightlaw05_same.f
  by_cases h : (a.length : Int) = (b.length : Int)
  · exact Ev.ifp h (same_l0 a b (by omega) hl a.length 0 (by omega) (fun j hj => absurd hj (by omega)))
  · refine Ev.ifn h (Ev.val ?_)
    symm
    rw [decide_eq_false_iff_not]
    rintro rfl
    exact h rfl
theorem same_yes (a : List Int) (hl : a.length ≤ 1000000) : Ev (fun k => codewrightlaw05_same.f k a a) true := by
  have := same_ev a a hl
  rwa [decide_eq_true rfl] at this
structure Row (w : World) (g : Nat) (A : Option Addr) (c : Nat) (l : List Int) : Prop where
  C : Kd.C (Kd.int .i64) w A l.length l
  cp : l.length ≤ c
  n : ∀ ad, A = some ad → 0 < l.length → ad.block ≠ g
structure Stp (w w' : World) (g : Nat) : Prop where
  k : KeepBut w w' g none
structure St (W0 w : World) (g : Nat) (P M : Int) (md : List Int) (q : Int) (ex lg : List Int) : Prop where
  I : IsS85 W0 w g P M md q ex lg
  B : Below W0.heap.size W0 w
section
variable {W0 w w' : World} {g : Nat} {P M q : Int} {md ex lg : List Int} {A : Option Addr} {c : Nat} {l : List Int}
theorem Row.step (h : Row w g A c l) (s : Stp w w' g) : Row w' g A c l := ⟨Kd.C_keep 0 h.C s.k h.n, h.cp, h.n⟩
theorem Stp.alloc (w : World) (o : Obj) (g : Nat) : Stp w (w.alloc o) g := ⟨KeepBut.of_below (below_alloc (Below.refl _ w) o) g none⟩
theorem Stp.of_below (h : Below w.heap.size w w') (g : Nat) : Stp w w' g := ⟨KeepBut.of_below h g none⟩
theorem Stp.trans {w2 : World} (h : Stp w w' g) (k : Stp w' w2 g) : Stp w w2 g := ⟨h.k.trans k.k (.inl rfl)⟩
theorem Row.alloc (h : Row w g A c l) (o : Obj) : Row (w.alloc o) g A c l := h.step (Stp.alloc w o g)
theorem St.below (h : St W0 w g P M md q ex lg) (hb : Below w.heap.size w w') : St W0 w' g P M md q ex lg := ⟨h.I.below hb, below_step h.B hb⟩
theorem St.alloc (h : St W0 w g P M md q ex lg) (o : Obj) : St W0 (w.alloc o) g P M md q ex lg := h.below (below_alloc (Below.refl _ w) o)
theorem St.lt (h : St W0 w g P M md q ex lg) : g < w.heap.size := IsS85.lt h.I
theorem St.arg (h : St W0 w g P M md q ex lg) (hC : Kd.C (Kd.int .i64) W0 A l.length l) (hc : l.length ≤ c) : Row w g A c l := by
  refine ⟨Kd.C_below hC h.B, hc, ?_⟩
  rintro ad rfl hn
  have h1 := Kd.C_lt hC hn (by decide)
  have h2 := IsS85.ge h.I
  omega
theorem St.box (h : St W0 w g P M md q ex lg) {b t : Nat} {cs : Array Value} (hb : W0.heap[b]? = some (.cells cs t (0, 0))) (i : Nat) : w.cell? ⟨b, i, none⟩ = cs[i]? := blk_cell (blk_below hb h.B) i
theorem St.own (h : St W0 w g P M md q ex lg) {e : Nat} {ok : Nat → Prop} {v : Value} {xs : List Int} (hR : Kd.R (Kd.int .i64) e w' w.heap.size ok v xs) : ∃ A c, v = .slice A xs.length c ∧ Row w' g A c xs := by
  obtain ⟨A, c, rfl, hc, hC⟩ := Kd.R_reads hR
  exact ⟨A, c, rfl, hC, hc, R_ne hR h.lt⟩
def rowVal (x : Option Addr × Nat × List Int) : Value := .slice x.1 x.2.2.length x.2.1
theorem St.lits (h : St W0 w g P M md q ex lg) (xs : List (Option Addr × Nat × List Int)) (e t : Nat) (hl : xs.length ≤ 1000) (hx : ∀ x, x ∈ xs → Row w g x.1 x.2.1 x.2.2) :
    Kd.C (Kd.slice t (Kd.int .i64)) (w.alloc (.cells (xs.map rowVal).toArray e)) (some ⟨w.heap.size, 0, none⟩) (xs.map fun x => x.2.2).length (xs.map fun x => x.2.2) := by
  refine ⟨rfl, by rw [List.length_map]; omega, fun _ => ⟨_, rfl, fun j p hp => ?_⟩⟩
  rw [List.getElem?_map] at hp
  obtain ⟨x, hxj, rfl⟩ := Option.map_eq_some_iff.1 hp
  have hr := (hx x (List.mem_of_getElem? hxj)).alloc (.cells (xs.map rowVal).toArray e)
  refine ⟨[rowVal x], rfl, ⟨x.1, x.2.1, rfl, hr.cp, hr.C⟩, fun i u hu => ?_⟩
  match i, hu with
  | 0, hu =>
    rw [add_plain]
    show World.cell? _ ⟨w.heap.size, j * 1 + 0, none⟩ = _
    rw [show j * 1 + 0 = j from by omega]
    refine (blk_cell (blk_new w (Obj.cells (xs.map rowVal).toArray e)) j).trans ?_
    rw [List.getElem?_toArray, List.getElem?_map, hxj]; exact hu
  | i + 1, hu => cases hu
theorem short_l0 (ls : List (List Int)) (hl : ls.length ≤ 1000) (n i : Nat) (hi : i + n = ls.length) (hs : ∀ j (h : j < ls.length), j < i → ls[j].length ≤ 24) :
    Ev (fun k => codewrightlaw05_short.l0 k ls (ls.length : Int) (i : Int)) (decide (∀ l, l ∈ ls → l.length ≤ 24)) := by
  induction n generalizing i with
  | zero =>
    refine Ev.succ ?_
    simp only [codewrightlaw05_short.l0]
    refine Ev.ifn (by omega) (Ev.val ?_)
    symm
    rw [decide_eq_true_iff]
    intro l hl
    obtain ⟨j, hj, rfl⟩ := List.getElem_of_mem hl
    exact hs j hj (by omega)
  | succ n ih =>
    refine Ev.succ ?_
    simp only [codewrightlaw05_short.l0]
    refine Ev.ifp (by omega) (Ev.ifp (by omega) (Ev.ifp (by omega) ?_))
    have e : rd_L2 ls (i : Int) = ls[i]'(by omega) := by
      unfold rd_L2
      rw [Int.toNat_natCast, List.getD_eq_getElem?_getD, List.getElem?_eq_getElem (by omega)]; rfl
    rw [e]
    by_cases c : (ls[i]'(by omega)).length ≤ 24
    · refine Ev.ifn (by omega) ?_
      rw [w64 (n := (i : Int) + 1) (by omega)]
      refine ih (i + 1) (by omega) fun j hj h => ?_
      rcases Nat.lt_or_ge j i with h1 | h1
      · exact hs j hj h1
      · obtain rfl : j = i := by omega
        exact c
    · refine Ev.ifp (by omega) (Ev.val ?_)
      symm
      rw [decide_eq_false_iff_not]
      exact fun h => c (h _ (List.getElem_mem _))
theorem short_ev (ls : List (List Int)) (hl : ls.length ≤ 1000) : Ev (fun k => codewrightlaw05_short.f k ls) (decide (∀ l, l ∈ ls → l.length ≤ 24)) := by
  unfold codewrightlaw05_short.f
  exact short_l0 ls hl ls.length 0 (Nat.zero_add _) fun j hj h => by omega
theorem short_w (S : St W0 w g P M md q ex lg) (xs : List (Option Addr × Nat × List Int)) (e : Nat) (hl : xs.length ≤ 1000) (hx : ∀ x, x ∈ xs → Row w g x.1 x.2.1 x.2.2) (b : Bool) (hb : decide (∀ l, l ∈ (xs.map fun x => x.2.2) → l.length ≤ 24) = b) :
    Calls Try.prog 16 #[.slice (some ⟨w.heap.size, 0, none⟩) (xs.map fun x => x.2.2).length (xs.map fun x => x.2.2).length] (w.alloc (.cells (xs.map rowVal).toArray e)) fun e w' => e = .returned (.bool b) ∧ St W0 w' g P M md q ex lg ∧ Stp w w' g := by
  obtain ⟨K, hK⟩ := short_ev (xs.map fun x => x.2.2) (by rw [List.length_map]; exact hl)
  rw [hb] at hK
  refine (codewrightlaw05_short.calls K _ _ _ b _ (S.lits xs e 3 hl hx) (Nat.le_refl _) (hK K (Nat.le_refl _))).mono ?_
  rintro e w' ⟨rfl, hb⟩
  exact ⟨rfl, (S.alloc _).below hb.below, (Stp.alloc _ _ _).trans (Stp.of_below hb.below g)⟩
end
end Go.Proofs.Ytiejggpmjapajaa.PA
end
section
namespace Go.Proofs.Ytiejggpmjapajaa.PA
open Alg Go.RowKit Go.Proofs.YtiejggpmjapajaaW.PrintWords Go.Proofs.YtiejggpmjapajaaW.PrintLast Go.Proofs.YtiejggpmjapajaaW.PrintMore
set_option linter.unusedVariables false
theorem codewrightlaw05_same.w (k : Nat) {W0 w : World} {g : Nat} {P M : Int} {md : List Int} {q : Int} {ex lg : List Int} {A0 : Option Addr} {c0 : Nat} {l0 : List Int} {A1 : Option Addr} {c1 : Nat} {l1 : List Int} {r : Bool} (S : St W0 w g P M md q ex lg) (R0 : Row w g A0 c0 l0) (R1 : Row w g A1 c1 l1) (h : codewrightlaw05_same.f k l0 l1 = some r) :
    Calls Try.prog 14 #[.slice A0 l0.length c0, .slice A1 l1.length c1] w fun e w' => e = .returned (.bool r) ∧ St W0 w' g P M md q ex lg ∧ Stp w w' g := by
  refine (codewrightlaw05_same.calls k A0 c0 l0 A1 c1 l1 r w R0.C R0.cp R1.C R1.cp h).mono ?_
  rintro e w' ⟨he, hB⟩
  exact ⟨he, S.below hB.below, Stp.of_below hB.below g⟩
theorem poly_Canon.w (k : Nat) {W0 w : World} {g : Nat} {P M : Int} {md : List Int} {q : Int} {ex lg : List Int} {A1 : Option Addr} {c1 : Nat} {l1 : List Int} {r1 : List Int} (S : St W0 w g P M md q ex lg) (R1 : Row w g A1 c1 l1) (h : poly_Canon.f k P M md q ex lg l1 = some (r1, P, M, q)) :
    Calls Try.prog 40 #[.pointer (some ⟨g, 0, none⟩), .slice A1 l1.length c1] w fun e w' => ∃ B0 d0, e = .returned (.slice B0 r1.length d0) ∧ Row w' g B0 d0 r1 ∧ St W0 w' g P M md q ex lg ∧ Stp w w' g := by
  refine (poly_Canon.calls k g P M md q ex lg A1 c1 l1 r1 P M q W0 w S.I S.B R1.C R1.cp R1.n h).mono ?_
  rintro e w' ⟨v0_, he, hR0, hI, hB, hK⟩
  obtain ⟨B0, d0, rfl, hr0⟩ := S.own hR0
  exact ⟨B0, d0, he, hr0, ⟨hI, hB⟩, ⟨hK⟩⟩
theorem codewrightref05_Degree.w (k : Nat) {W0 w : World} {g : Nat} {P M : Int} {md : List Int} {q : Int} {ex lg : List Int} {Af : Option Addr} {cf : Nat} {A1 : Option Addr} {c1 : Nat} {l1 : List Int} {r : Int} (S : St W0 w g P M md q ex lg) (F : Row w g Af cf md) (R1 : Row w g A1 c1 l1) (h : codewrightref05_Degree.f k P M md l1 = some r) :
    Calls Try.prog 13 #[.agg #[.int .i64 P, .int .i64 M, .slice Af md.length cf], .slice A1 l1.length c1] w fun e w' => e = .returned (.int .i64 r) ∧ St W0 w' g P M md q ex lg ∧ Stp w w' g := by
  refine (codewrightref05_Degree.calls k P M Af cf md A1 c1 l1 r w F.C F.cp R1.C R1.cp h).mono ?_
  rintro e w' ⟨he, hB⟩
  exact ⟨he, S.below hB, Stp.of_below hB g⟩
theorem codewrightref05_Rem.w (k : Nat) {W0 w : World} {g : Nat} {P M : Int} {md : List Int} {q : Int} {ex lg : List Int} {Af : Option Addr} {cf : Nat} {A1 : Option Addr} {c1 : Nat} {l1 : List Int} {A2 : Option Addr} {c2 : Nat} {l2 : List Int} {r : List Int} (S : St W0 w g P M md q ex lg) (F : Row w g Af cf md) (R1 : Row w g A1 c1 l1) (R2 : Row w g A2 c2 l2) (h : codewrightref05_Rem.f k P M md l1 l2 = some r) :
    Calls Try.prog 22 #[.agg #[.int .i64 P, .int .i64 M, .slice Af md.length cf], .slice A1 l1.length c1, .slice A2 l2.length c2] w fun e w' => ∃ B0 d0, e = .returned (.slice B0 r.length d0) ∧ Row w' g B0 d0 r ∧ St W0 w' g P M md q ex lg ∧ Stp w w' g := by
  refine (codewrightref05_Rem.calls k P M Af cf md A1 c1 l1 A2 c2 l2 r w F.C F.cp R1.C R1.cp R2.C R2.cp h).mono ?_
  rintro e w' ⟨v0_, he, hR0, hB⟩
  obtain ⟨B0, d0, rfl, hr0⟩ := S.own hR0
  exact ⟨B0, d0, he, hr0, S.below hB, Stp.of_below hB g⟩
theorem poly_Eval.w (k : Nat) {W0 w : World} {g : Nat} {P M : Int} {md : List Int} {q : Int} {ex lg : List Int} {A1 : Option Addr} {c1 : Nat} {l1 : List Int} {a2 : Int} {r1 : Int} (S : St W0 w g P M md q ex lg) (R1 : Row w g A1 c1 l1) (h : poly_Eval.f k P M md q ex lg l1 a2 = some (r1, P, M, q)) :
    Calls Try.prog 54 #[.pointer (some ⟨g, 0, none⟩), .slice A1 l1.length c1, .int .i64 a2] w fun e w' => e = .returned (.int .i64 r1) ∧ St W0 w' g P M md q ex lg ∧ Stp w w' g := by
  refine (poly_Eval.calls k g P M md q ex lg A1 c1 l1 a2 r1 P M q W0 w S.I S.B R1.C R1.cp R1.n h).mono ?_
  rintro e w' ⟨he, hI, hB, hK⟩
  exact ⟨he, ⟨hI, hB⟩, ⟨hK⟩⟩
theorem codewrightref05_Roots.w (k : Nat) {W0 w : World} {g : Nat} {P M : Int} {md : List Int} {q : Int} {ex lg : List Int} {Af : Option Addr} {cf : Nat} {A1 : Option Addr} {c1 : Nat} {l1 : List Int} {r : List Int} (S : St W0 w g P M md q ex lg) (F : Row w g Af cf md) (R1 : Row w g A1 c1 l1) (h : codewrightref05_Roots.f k P M md l1 = some r) :
    Calls Try.prog 28 #[.agg #[.int .i64 P, .int .i64 M, .slice Af md.length cf], .slice A1 l1.length c1] w fun e w' => ∃ B0 d0, e = .returned (.slice B0 r.length d0) ∧ Row w' g B0 d0 r ∧ St W0 w' g P M md q ex lg ∧ Stp w w' g := by
  refine (codewrightref05_Roots.calls k P M Af cf md A1 c1 l1 r w F.C F.cp R1.C R1.cp h).mono ?_
  rintro e w' ⟨v0_, he, hR0, hB⟩
  obtain ⟨B0, d0, rfl, hr0⟩ := S.own hR0
  exact ⟨B0, d0, he, hr0, S.below hB, Stp.of_below hB g⟩
theorem poly_FromRoots.w (k : Nat) {W0 w : World} {g : Nat} {P M : Int} {md : List Int} {q : Int} {ex lg : List Int} {A1 : Option Addr} {c1 : Nat} {l1 : List Int} {r1 : List Int} (S : St W0 w g P M md q ex lg) (R1 : Row w g A1 c1 l1) (h : poly_FromRoots.f k P M md q ex lg l1 = some (r1, P, M, q)) :
    Calls Try.prog 29 #[.pointer (some ⟨g, 0, none⟩), .slice A1 l1.length c1] w fun e w' => ∃ B0 d0, e = .returned (.slice B0 r1.length d0) ∧ Row w' g B0 d0 r1 ∧ St W0 w' g P M md q ex lg ∧ Stp w w' g := by
  refine (poly_FromRoots.calls k g P M md q ex lg A1 c1 l1 r1 P M q W0 w S.I S.B R1.C R1.cp R1.n h).mono ?_
  rintro e w' ⟨v0_, he, hR0, hI, hB, hK⟩
  obtain ⟨B0, d0, rfl, hr0⟩ := S.own hR0
  exact ⟨B0, d0, he, hr0, ⟨hI, hB⟩, ⟨hK⟩⟩
end Go.Proofs.Ytiejggpmjapajaa.PA
end
section
namespace Go.Proofs.Ytiejggpmjapajaa.PA
open Alg Go.RowKit Go.Shelf Go.Proofs.YtiejggpmjapajaaW.PrintWords Go.Proofs.YtiejggpmjapajaaW.PrintLast Go.Proofs.YtiejggpmjapajaaW.PrintMore
set_option linter.unusedVariables false
attribute [local go_sem] Oper.semAt_some
def El1 (q : Int) : Type := { x : Int // 0 ≤ x ∧ x < q }
def upZ (n : Nat) : List Int := (List.range n).map fun i : Nat => (i : Int)
theorem upZ_succ (n : Nat) : upZ (n + 1) = upZ n ++ [(n : Int)] := by simp [upZ, List.range_succ]
theorem upZ_length (n : Nat) : (upZ n).length = n := by simp [upZ]
set_option maxRecDepth 100000 in
set_option maxHeartbeats 2000000 in
theorem Elements1_in (F : Fence) (n : Nat) (h78 : F.fn 78) (hro : F.round = none) (hn : 1 ≤ n) (l Bn g : Nat) (q : Int) (hq : 0 ≤ q ∧ q ≤ 1000000) (J Jx : List (El1 q) → World → Prop)
    (hY : ∀ (pre : List (El1 q)) (x : El1 q) W, J pre W → pre.length < q.toNat → YieldAt F (n - 1) Try.prog l #[.int .i64 x.1] W fun e W' =>
      (e = .returned (.bool true) ∧ J (pre ++ [x]) W' ∧ True) ∨ (e = .returned (.bool false) ∧ Jx (pre ++ [x]) W'))
    (W : World) (hBn : W.cell? ⟨Bn, 0, none⟩ = some (.pointer (some ⟨g, 0, none⟩))) (hg : W.cell? ⟨g, 3, none⟩ = some (.int .i64 q)) (h0 : J [] W) :
    CallsIn F n Try.prog 78 #[.func (.yield l) #[] #[], .pointer (some ⟨Bn, 0, none⟩)] W fun e W' => (∃ v, e = .returned v) ∧
      ((∃ ys : List (El1 q), ys.map (fun x => x.1) = upZ q.toNat ∧ J ys W') ∨ (∃ pre, True ∧ Jx pre W')) := by
  refine callsIn_of_wp Try.func78 rfl h78 ?_ hro
  simp only [Try.ntmps78, List.size_toArray, List.length_cons, List.length_nil, Nat.reduceAdd, Nat.reduceSub, Array.replicate_succ, Array.replicate_zero, List.push_toArray, List.append_toArray, List.nil_append, List.cons_append]
  gi_wp2
  gi_loopw [8] (fun i wr => ∃ (k : Nat) (pre : List (El1 q)), k ≤ q.toNat ∧ i = .int .i64 k ∧ pre.map (fun x => x.1) = upZ k ∧ J pre wr)
    (fun i _ => q.toNat - (intOf i).toNat)
  case atStart => exact ⟨0, [], Nat.zero_le _, rfl, rfl, h0⟩
  case round =>
    obtain ⟨k, pre, hk, rfl, hp, hJs⟩ := hrel
    have hpl : pre.length = k := by have := congrArg List.length hp; rwa [List.length_map, upZ_length] at this
    by_cases hlt : k < q.toNat
    · have hkq : (k : Int) < q := by omega
      obtain ⟨fn, tmps, assign, body, hy, hR⟩ := hY pre ⟨(k : Int), by omega, by omega⟩ wr hJs (by rw [hpl]; exact hlt)
      dsimp only at hy
      gi_wp2
      refine hR.mono ?_
      rintro e W3 (⟨rfl, hJ3, _⟩ | ⟨rfl, hJx3⟩)
      · gi_wp2
        go_roundw
        case rel => exact ⟨k + 1, _, by omega, by simp, by rw [List.map_append, hp, upZ_succ]; rfl, hJ3⟩
        case measure => simp [intOf]; omega
      · gi_wp2
        refine bodyPost_ret (results_none rfl _ _ _) rfl ?_
        exact ⟨⟨_, rfl⟩, .inr ⟨_, trivial, hJx3⟩⟩
    · obtain rfl : k = q.toNat := by omega
      have hkq : ¬ ((q.toNat : Int) < q) := by omega
      gi_wp2
      go_end0
      exact ⟨⟨_, rfl⟩, .inl ⟨pre, hp, hJs⟩⟩
set_option maxHeartbeats 1000000 in
theorem Elements_in (F : Fence) (n : Nat) (h53 : F.fn 53) (hro : F.round = none) (g : Nat) (w : World) :
    CallsIn F n Try.prog 53 #[.pointer (some ⟨g, 0, none⟩)] w fun e w' => e = .returned (.func (.func 78) #[] #[.pointer (some ⟨w.heap.size, 0, none⟩)]) ∧ w' = w.alloc (.cells #[.pointer (some ⟨g, 0, none⟩)] 27) := by
  refine callsIn_of_wp Try.func53 rfl h53 ?_ hro
  simp only [Try.ntmps53, List.size_toArray, List.length_cons, List.length_nil, Nat.reduceAdd, Nat.reduceSub, Array.replicate_succ, Array.replicate_zero, List.push_toArray, List.append_toArray, List.nil_append, List.cons_append]
  gi_wp2
  go_ret
  exact ⟨rfl, rfl⟩
theorem Elements_stops (F : Fence) (n : Nat) (h78 : F.fn 78) (hro : F.round = none) (hn : 1 ≤ n) (Bn g : Nat) (q : Int) (hq : 0 ≤ q ∧ q ≤ 1000000) (w : World) (hBn : Bn < w.heap.size) (hgl : g < w.heap.size)
    (hc : w.cell? ⟨Bn, 0, none⟩ = some (.pointer (some ⟨g, 0, none⟩))) (hg : w.cell? ⟨g, 3, none⟩ = some (.int .i64 q)) :
    SeqStopsK F n Try.prog 78 #[.pointer (some ⟨Bn, 0, none⟩)] (fun x : El1 q => #[Value.int .i64 x.1]) (fun _ _ => True) (fun ys => ys.map (fun x => x.1) = upZ q.toNat) (fun _ => True) q.toNat w := fun l J Jx W hW _ _ hY h0 =>
  Elements1_in F n h78 hro hn l Bn g q hq J Jx hY W ((hW.cell (p := ⟨Bn, 0, none⟩) hBn).trans hc) ((hW.cell (p := ⟨g, 3, none⟩) hgl).trans hg) h0
end Go.Proofs.Ytiejggpmjapajaa.PA
end
section
namespace Go.Proofs.Ytiejggpmjapajaa.PA
open Alg Go.RowKit Go.Shelf Go.Proofs.YtiejggpmjapajaaW.PrintWords Go.Proofs.YtiejggpmjapajaaW.PrintLast Go.Proofs.YtiejggpmjapajaaW.PrintMore
set_option linter.unusedVariables false
attribute [local go_sem] Oper.semAt_some
section
variable {W0 Wb W W' : World} {g B bO : Nat} {P M q : Int} {md ex lg : List Int}
theorem St.cells (S : St W0 W g P M md q ex lg) : ∃ o, W.heap[g]? = some o ∧ o.isCells = true := by
  obtain ⟨A2, c2, A4, c4, A5, c5, h, _⟩ := S.I
  exact ⟨_, h, rfl⟩
theorem St.qcell (S : St W0 W g P M md q ex lg) : W.cell? ⟨g, 3, none⟩ = some (.int .i64 q) := by
  obtain ⟨A2, c2, A4, c4, A5, c5, h, _⟩ := S.I
  exact (blk_cell h 3).trans rfl
theorem St.same (S : St W0 W g P M md q ex lg) (hb : Below bO W W') (hg : g < bO) (h0 : W0.heap.size ≤ bO) : St W0 W' g P M md q ex lg := by
  obtain ⟨A2, c2, A4, c4, A5, c5, h, r⟩ := S.I
  exact ⟨⟨A2, c2, A4, c4, A5, c5, (hb.block g hg).trans h, r⟩, S.B.trans (hb.mono h0)⟩
theorem Stp.grown (K : Stp W W' g) (S : St W0 W g P M md q ex lg) (S' : St W0 W' g P M md q ex lg) : W.grownBy W' (some g) :=
  ⟨S'.B.os.trans S.B.os.symm, S'.B.tape.trans S.B.tape.symm, S'.B.output.trans S.B.output.symm, K.k.1, fun k hk hne => K.k.2 k hk (fun e => hne (by rw [e])) (by simp)⟩
theorem rt_own {β : Type} (h1 : Wb.heap.size ≤ B) (h2 : W0.heap.size ≤ B) : OwnFrom B (fun (_ : β) W => KeepBut Wb W g none ∧ St W0 W g P M md q ex lg) := by
  rintro s W W' row ⟨hk, hS⟩ hg hr
  have hne : some g ≠ row := by
    intro e
    obtain ⟨o, ho, hc⟩ := hS.cells
    obtain ⟨_, o', ho', hc'⟩ := hr g e.symm
    rw [ho] at ho'
    obtain rfl := Option.some.inj ho'
    rw [hc] at hc'; cases hc'
  refine ⟨hk.trans (row1 := row) ⟨hg.size, fun i hi _ hi2 => hg.block i hi hi2⟩ ?_, ⟨hS.I.grown hg hne, ?_⟩⟩
  · cases row with
    | none => exact .inl rfl
    | some r => exact .inr ⟨r, rfl, by have := (hr r rfl).1; omega⟩
  · refine ⟨hg.os.trans hS.B.os, hg.tape.trans hS.B.tape, hg.output.trans hS.B.output, Nat.le_trans hS.B.size hg.size, fun k hk => ?_⟩
    refine (hg.block k (Nat.lt_of_lt_of_le hk hS.B.size) ?_).trans (hS.B.block k hk)
    intro e
    have := (hr k e.symm).1
    omega
theorem own_ne {n : Nat} {v : Value} {xs : List Value} {e s : Nat} (h : W.ownsRow bO e s v n xs) (hg : g < bO) : v.ownBlock = none ∨ v.ownBlock ≠ some g := by
  rcases h.2 with ⟨rfl, _⟩ | ⟨g', cap, cur, rfl, hb, _⟩
  · exact .inl rfl
  · refine .inr fun e => ?_
    injection e with e
    have e2 : g' = g := e
    omega
theorem own_Row {v : Value} {l : List Int} {e : Nat} (h : W.ownsRow bO e 1 v l.length (l.map (Value.int .i64))) (hg : g < bO) : ∃ A c, v = .slice A l.length c ∧ Row W g A c l := by
  have hR : Kd.R (Kd.int .i64) e W bO (fun _ => True) v l := Kd.R_of_own (by simpa [encs] using h) (fun _ _ => trivial)
  obtain ⟨A, c, rfl, hc, hC⟩ := Kd.R_reads hR
  exact ⟨A, c, rfl, hC, hc, R_ne hR hg⟩
end
def rtl (q : Int) (ev : Int → Int) (l : List (El1 q)) : List Int := (l.map (fun x => x.1)).filter fun x => decide (ev x = 0)
theorem rtl_hit {q : Int} {ev : Int → Int} (pre : List (El1 q)) {x : El1 q} (h : ev x.1 = 0) : rtl q ev (pre ++ [x]) = rtl q ev pre ++ [x.1] := by simp [rtl, h]
theorem rtl_miss {q : Int} {ev : Int → Int} (pre : List (El1 q)) {x : El1 q} (h : ¬ ev x.1 = 0) : rtl q ev (pre ++ [x]) = rtl q ev pre := by simp [rtl, h]
theorem rtl_le {q : Int} {ev : Int → Int} (pre : List (El1 q)) : (rtl q ev pre).length ≤ pre.length := by
  have h := List.length_filter_le (fun x => decide (ev x = 0)) (pre.map (fun x : El1 q => x.1))
  rwa [List.length_map] at h
theorem rt_info3 : (Try.prog.info? 3).map (fun i => (i.zero, i.size, i.bytes)) = some (some (.int .i64 0), 1, 8) := by kernel_rfl
set_option maxHeartbeats 4000000 in
set_option maxRecDepth 100000 in
theorem Roots_c {W0 w : World} {g : Nat} {P M q : Int} {md ex lg : List Int} (k : Nat) (Ap : Option Addr) (cp : Nat) (lp : List Int) (a : List Int) (ev : Int → Int) (h1 : poly_Canon.f k P M md q ex lg lp = some (a, P, M, q)) (hh : 1 ≤ a.length) (hq : 0 ≤ q ∧ q ≤ 1000000)
    (hev : ∀ x, 0 ≤ x → x < q → poly_Eval.f k P M md q ex lg a x = some (ev x, P, M, q))
    (S : St W0 w g P M md q ex lg) (Xp : Row w g Ap cp lp) :
    Calls Try.prog 27 #[.pointer (some ⟨g, 0, none⟩), .slice Ap lp.length cp] w fun e w' => ∃ B0 d0, e = .returned (.tuple #[.slice B0 ((upZ q.toNat).filter fun x => decide (ev x = 0)).length d0, .int .i64 0]) ∧ Row w' g B0 d0 ((upZ q.toNat).filter fun x => decide (ev x = 0)) ∧ St W0 w' g P M md q ex lg ∧ Stp w w' g := by
  have p1 : ¬ (a.length : Int) = 0 := by omega
  have p2 : ((a.length : Int) == 0) = false := by simp only [beq_eq_false_iff_ne, ne_eq]; exact p1
  have p4 : 0 < a.length := by omega
  refine (callsIn_wide (n := 4)).1 ?_
  refine callsIn_of_wp_marks Try.func27 rfl trivial ?_ rfl
  simp only [Try.ntmps27, List.size_toArray, List.length_cons, List.length_nil, Nat.reduceAdd, Nat.reduceSub, Array.replicate_succ, Array.replicate_zero, List.push_toArray, List.append_toArray, List.nil_append, List.cons_append]
  gi_wp2_with (first
    | (refine ⟨trivial, ?_⟩; gi_at_call 40; refine (callsIn_wide.2 (poly_Canon.w k (S.alloc _) (Xp.alloc _) h1)).mono ?_; rintro e w2 ⟨A1, c1, rfl, X1, S2, hKst⟩; have bG := hKst.k.blk (blk_new w (.cells #[.pointer (some ⟨g, 0, none⟩)] 27)) (by have := S.lt; omega) (by simp); have hlt2 : w.heap.size + 1 ≤ w2.heap.size := (by have := hKst.k.1; rwa [World.size_alloc] at this); have bG0 : (((w2.alloc (.cells #[.slice A1 a.length c1] 22)).alloc (.cells #[.slice none 0 0] 22)).cell? ⟨w.heap.size, 0, none⟩ = some (.pointer (some ⟨g, 0, none⟩))) := (blk_cell (blk_below bG (((Below.refl _ _).alloc (Nat.le_refl _) _).alloc (by simp) _)) 0).trans rfl)
    | (refine ⟨trivial, ?_⟩; gi_at_call 53; refine (Elements_in Fence.wide _ trivial rfl g _).mono ?_; rintro e w' ⟨rfl, rfl⟩)
    | fail)
  obtain ⟨i0, hi, hz0, hz1, hz2⟩ := info_parts rt_info3
  have hg1 : g < w.heap.size := S.lt
  have hW0 : W0.heap.size ≤ w.heap.size := S.B.size
  have S5 := ((S2.alloc (.cells #[.slice A1 a.length c1] 22)).alloc (.cells #[.slice none 0 0] 22)).alloc (.cells #[.pointer (some ⟨g, 0, none⟩)] 27)
  have X4 := X1.alloc (.cells #[.slice A1 a.length c1] 22)
  have bG4 := blk_below bG (below_alloc (Below.refl _ w2) (.cells #[.slice A1 a.length c1] 22))
  have bC4 := blk_new w2 (.cells #[.slice A1 a.length c1] 22)
  have bO := Boxed.new (w2.alloc (.cells #[.slice A1 a.length c1] 22)) 22 (.slice none 0 0)
  rw [World.size_alloc] at bO
  have bN := Boxed.new ((w2.alloc (.cells #[.slice A1 a.length c1] 22)).alloc (.cells #[.slice none 0 0] 22)) 27 (.pointer (some ⟨g, 0, none⟩))
  rw [World.size_alloc, World.size_alloc] at bN
  have hk0 : KeepBut (w2.alloc (.cells #[.slice A1 a.length c1] 22)) (((w2.alloc (.cells #[.slice A1 a.length c1] 22)).alloc (.cells #[.slice none 0 0] 22)).alloc (.cells #[.pointer (some ⟨g, 0, none⟩)] 27)) g none := KeepBut.of_below (((Below.refl _ _).alloc (Nat.le_refl _) _).alloc (by simp) _) g none
  refine wpIn_rangeFunc_ownG rfl (by omega) (gf := 78) (lb := #[.pointer (some ⟨w2.heap.size + 1 + 1, 0, none⟩)]) rfl trivial (enters_of Try.func78 (by kernel_rfl) rfl)
    (Elements_stops Fence.wide _ trivial rfl (by omega) (w2.heap.size + 1 + 1) g q hq _ (by simp) S5.lt bN.cell S5.qcell) (fun _ _ => trivial) (fun _ _ _ _ _ _ _ _ => trivial) (Below.refl _ _) (fun _ => rfl)
    (fun pre W => (∃ v, Boxed W (w2.heap.size + 1) 22 v ∧ W.ownsRow (w2.heap.size + 1) 3 1 v (rtl q ev pre).length ((rtl q ev pre).map (Value.int .i64)) ∧ True) ∧ (KeepBut (w2.alloc (.cells #[.slice A1 a.length c1] 22)) W g none ∧ St W0 W g P M md q ex lg))
    (fun _ _ _ => False)
    (OwnFrom.and (Own.from (holdsRow_own (w2.heap.size + 1) (w2.heap.size + 1) 22 3 1 (fun pre => (rtl q ev pre).length) (fun pre => (rtl q ev pre).map (Value.int .i64)) (fun _ _ => True)) _) (rt_own (by simp only [World.size_alloc]; omega) (by simp only [World.size_alloc]; omega)))
    (fun _ _ _ _ _ hs _ _ => hs)
    ⟨⟨_, bO.alloc _, World.ownsRow_nil _ _ _ _, trivial⟩, hk0, S5⟩
    (fun x => { tmps := #[.pointer (some ⟨g, 0, none⟩), .slice Ap lp.length cp, .pointer (some ⟨w.heap.size, 0, none⟩), undef, .slice none 0 0, .int .i64 0, .pointer (some ⟨w2.heap.size, 0, none⟩), .pointer (some ⟨w2.heap.size + 1, 0, none⟩), .int .i64 x.1, .pointer (some ⟨g, 0, none⟩), .slice Ap lp.length cp, .slice A1 a.length c1, .slice A1 a.length c1, .int .i64 a.length, .bool false, .pointer (some ⟨g, 0, none⟩), .func (.func 78) #[] #[.pointer (some ⟨w2.heap.size + 1 + 1, 0, none⟩)], .int .i64 x.1, undef, undef, undef, undef, undef, undef, undef, undef, undef, undef], defers := [] }) ?assign ?body ?done ?stop
  case assign =>
    intro l x W K hK
    gi_wp2
    exact hK
  case body =>
    rintro l pre x W ⟨⟨v, hv, hrow, _⟩, hk, SW⟩ hlt
    have hpl := rtl_le (ev := ev) pre
    have hmx : (1000001 : Nat) ≤ maxLen := by simp [maxLen]
    have hqn : q.toNat ≤ 1000000 := by omega
    have bGW := hk.blk bG4 (by omega) (by simp)
    have bCW := hk.blk bC4 (by omega) (by simp)
    have bGc : W.cell? ⟨w.heap.size, 0, none⟩ = some (.pointer (some ⟨g, 0, none⟩)) := (blk_cell bGW 0).trans rfl
    have bCc : W.cell? ⟨w2.heap.size, 0, none⟩ = some (.slice A1 a.length c1) := (blk_cell bCW 0).trans rfl
    have XW := X4.step ⟨hk⟩
    have hx := hev x.1 x.2.1 x.2.2
    gi_wp2_with (first
      | (refine ⟨trivial, ?_⟩; gi_at_call 54; refine (CallsIn.inRound l (callsIn_wide.2 (poly_Eval.w k SW XW hx))).mono ?_; rintro e W1 ⟨rfl, S1, K1⟩; have hv1 : Boxed W1 (w2.heap.size + 1) 22 v := K1.k.blk hv (by omega) (by simp); have hrow1 := hrow.kept (K1.grown SW S1) (own_ne hrow (by omega)); have hk1 := hk.trans K1.k (.inl rfl); have hc1 := Boxed.cell hv1; have hn1 : w2.heap.size + 1 ≤ W1.heap.size := Nat.le_of_lt (Array.getElem?_eq_some_iff.1 hv1).1)
      | (gi_at_builtin; go_loud (refine wpListIn_append_own _ rfl _ _ 22 rfl (w2.heap.size + 1) 3 i0 (.int .i64 0) 1 8 Try.underlying22 hi hz0 hz1 hz2 rfl (by decide) _ _ _ rfl (hrow1.alloc _) ⟨W1.heap.size, 0, none⟩ 1 1 [.int .i64 x.1] rfl rfl (cell_one_new _ _ _) (by simp [Value.oneCell']) (by omega) (by omega) (by simp only [World.size_alloc]; omega) ?_; intro v' w1 hown' hgrow _; obtain ⟨g', cap', rfl⟩ := ownsRow_succ hown'; obtain ⟨hv2, hv3, hr2, hk2, hb2⟩ := hv1.appended (by decide) hrow1 hn1 (Nat.le_refl _) hown' hgrow; have hc2 := hv2.cell; have hf2 := hv2.frozen))
      | fail)
    · have hz : ev x.1 = 0 := by first | assumption | exact eq_of_beq (by assumption)
      refine ⟨?_, trivial, ⟨_, hv3, by rw [rtl_hit pre hz]; simpa using hr2, trivial⟩, ?_, ?_⟩
      · refine ⟨Nat.le_trans K1.k.1 hk2.size, fun j o hj h ho => hk2.same j o (K1.k.blk h ?_ (by simp)) ho⟩
        simp only [World.size_alloc] at hj
        omega
      · refine ⟨Nat.le_trans hk1.1 hb2.size, fun i h h2 h3 => ?_⟩
        refine (hb2.block i (by rwa [World.size_alloc] at h)).trans (hk1.2 i h h2 h3)
      · exact S1.same hb2 (by omega) (by omega)
    · have hz : ¬ ev x.1 = 0 := by first | assumption | exact ne_of_beq_false (by assumption)
      refine ⟨⟨K1.k.1, fun j o hj h ho => K1.k.blk h ?_ (by simp)⟩, trivial, ⟨_, hv1, by rw [rtl_miss pre hz]; exact hrow1, trivial⟩, hk1, S1⟩
      simp only [World.size_alloc] at hj
      omega
  case done =>
    rintro D ys W hD hS ⟨⟨v, hv, hrow, _⟩, hk, SW⟩ hK
    have hc := hv.cell
    have el : rtl q ev ys = (upZ q.toNat).filter fun x => decide (ev x = 0) := by unfold rtl; rw [hS]
    rw [el] at hrow
    gi_wp2
    refine ⟨by simp, .inl ⟨_, _, rfl, run_takeDeferred hK, ?_⟩⟩
    obtain ⟨A, c, rfl, hR⟩ := own_Row (ownsRow_putObj hrow (.deferred none) hK rfl) (g := g) (by omega)
    simp only [World.size_alloc] at hD
    have hB : Below (w2.heap.size + 1) W (W.putObj D (.deferred none)) := belowK_b (w := w2.alloc (.cells #[.slice A1 a.length c1] 22)) (by simp only [World.size_alloc]; omega) W D _ _ (by simp only [World.size_alloc]; omega) hK rfl rfl
    refine ⟨_, results_tmp2 rfl _ _ _, A, c, rfl, hR, SW.same hB (by omega) (by omega), ⟨?_⟩⟩
    have k1 := ((Stp.alloc w (.cells #[.pointer (some ⟨g, 0, none⟩)] 27) g).trans hKst).trans (Stp.alloc w2 (.cells #[.slice A1 a.length c1] 22) g)
    have k2 : KeepBut w W g none := k1.k.trans hk (.inl rfl)
    refine ⟨Nat.le_trans k2.1 hB.size, fun i h h2 h3 => (hB.block i ?_).trans (k2.2 i h h2 h3)⟩
    have := hlt2
    omega
  case stop =>
    rintro D c pre W _ _ h _
    exact h.elim
end Go.Proofs.Ytiejggpmjapajaa.PA
end
section
namespace Go.Proofs.Ytiejggpmjapajaa.PA
open Go.RowKit Go.Proofs.YtiejggpmjapajaaW.PrintWords Go.Proofs.YtiejggpmjapajaaW.PrintLast Go.Proofs.YtiejggpmjapajaaW.PrintMore
open Alg
section
variable {K : Type} [Fld K] {N : Nums K} {p m : Nat} {md ex lg : List Int}
def El (N : Nums K) (l : List Int) : Prop := ∀ x, x ∈ l → 0 ≤ x ∧ x < N.q
theorem El.set {l : List Int} (h : El N l) (i : Nat) {v : Int} (hv : 0 ≤ v ∧ v < N.q) : El N (l.set i v) := by
  intro x hx
  rcases List.mem_or_eq_of_mem_set hx with h1 | h1
  · exact h x h1
  · rw [h1]; exact hv
theorem El.zeros (n : Nat) : El N (List.replicate n 0) := by
  intro x hx; rw [List.eq_of_mem_replicate hx]; have := N.q2; omega
theorem El.take {l : List Int} (h : El N l) (n : Nat) : El N (l.take n) := fun x hx => h x (List.mem_of_mem_take hx)
theorem lk_ext {a b : List Int} (h : ∀ i, N.tk (a.getD i 0) = N.tk (b.getD i 0)) : N.lk a = N.lk b := by ext i; exact h i
theorem trim_ev (n : Nat) (l : List Int) (hn : l.length = n) (hb : n ≤ 1000000) (h : El N l) : Ev (fun k => poly_trim.f k l) (N.cl (N.lk l)) := by
  unfold poly_trim.f
  induction n generalizing l with
  | zero =>
    obtain rfl := List.length_eq_zero_iff.1 hn
    refine Ev.succ ?_
    simp only [poly_trim.l0]
    exact Ev.ifn (by simp) (Ev.val (by rw [N.lk_nil, N.cl_zero]))
  | succ n ih =>
    have ew : wrap64 ((l.length : Int) - 1) = (n : Int) := by rw [w64 (by omega)]; omega
    refine Ev.succ ?_
    simp only [poly_trim.l0]
    rw [ew, rd_nat, Int.toNat_natCast]; clear ew
    refine Ev.ifp (by omega) ?_
    refine Ev.ifp (by omega) ?_
    refine Ev.ifp (by omega) ?_
    by_cases hz : l.getD n 0 = 0
    · refine Ev.ifp hz ?_
      refine Ev.ifp (by omega) ?_
      have e : N.lk l = N.lk (l.take n) := by
        refine lk_ext fun i => ?_
        rw [List.getD_eq_getElem?_getD (l := l.take n), List.getElem?_take]
        by_cases hi : i < n
        · rw [if_pos hi, ← List.getD_eq_getElem?_getD]
        · rw [if_neg hi]
          by_cases hin : i = n
          · subst hin; rw [hz]; rfl
          · rw [getD_nat_lt l i (by omega)]; rfl
      rw [e]
      exact ih (l.take n) (by rw [List.length_take]; omega) (by omega) (h.take n)
    · refine Ev.ifn hz (Ev.val ?_)
      refine (N.cl_lk ⟨h, fun _ => ?_⟩).symm
      rw [hn, Nat.add_sub_cancel]; exact hz
theorem trim_ev' {l : List Int} {a : S K} (hb : l.length ≤ 1000000) (h : El N l) (e : N.lk l = a) : Ev (fun k => poly_trim.f k l) (N.cl a) := by
  subst e; exact trim_ev l.length l rfl hb h
theorem canon_l0 (G : GOps N p m md ex lg) (l : List Int) (n i : Nat) (hi : i + n = l.length) (hb : l.length ≤ 1000000) (out : List Int) (ho : out.length = l.length) (he : El N out)
    (hd : ∀ j, N.tk (out.getD j 0) = if j < i then N.tk (l.getD j 0) else 0) :
    Ev (fun k => poly_Canon.l0 k out l (l.length : Int) (i : Int) (p : Int) (m : Int) md N.q ex lg) (N.cl (N.lk l), (p : Int), (m : Int), N.q) := by
  induction n generalizing i out with
  | zero =>
    refine Ev.succ ?_
    simp only [poly_Canon.l0]
    refine Ev.ifn (by omega) (Ev.bind (trim_ev' (a := N.lk l) (by omega) he (lk_ext fun j => ?_)) (Ev.now _))
    rw [hd j]
    by_cases hj : j < i
    · rw [if_pos hj]
    · rw [if_neg hj, getD_nat_lt l j (by omega), N.tk_zero]
  | succ n ih =>
    refine Ev.succ ?_
    simp only [poly_Canon.l0]
    refine Ev.ifp (by omega) ?_
    refine Ev.ifp (by omega) ?_
    refine Ev.ifp (by omega) ?_
    rw [rd_nat, Int.toNat_natCast]
    refine Ev.opt_bind (G.is_ _) ?_
    have ew : wrap64 ((i : Int) + 1) = ((i + 1 : Nat) : Int) := by rw [w64 (by omega)]; omega
    by_cases hx : 0 ≤ l.getD i 0 ∧ l.getD i 0 < N.q
    · refine Ev.ifp (by simpa using hx) ?_
      refine Ev.ifp (by omega) ?_
      rw [ew]
      refine ih (i + 1) (by omega) _ (by rw [List.length_set, ho]) (he.set i hx) fun j => ?_
      rw [rd_set _ _ _ _ (by omega)]
      by_cases e : i = j
      · subst e; rw [if_pos rfl, if_pos (by omega)]
      · rw [if_neg e, hd j]
        by_cases h1 : j < i
        · rw [if_pos h1, if_pos (by omega)]
        · rw [if_neg h1, if_neg (by omega)]
    · refine Ev.ifn (by simpa using hx) ?_
      rw [ew]
      refine ih (i + 1) (by omega) _ ho he fun j => ?_
      rw [hd j]
      by_cases e : i = j
      · subst e; rw [if_neg (by omega), if_pos (by omega)]
        exact ((N.tk_eq_zero).2 (if_neg hx)).symm
      · by_cases h1 : j < i
        · rw [if_pos h1, if_pos (by omega)]
        · rw [if_neg h1, if_neg (by omega)]
theorem canon_ev (G : GOps N p m md ex lg) (l : List Int) (hb : l.length ≤ 1000000) :
    Ev (fun k => poly_Canon.f k (p : Int) (m : Int) md N.q ex lg l) (N.cl (N.lk l), (p : Int), (m : Int), N.q) := by
  unfold poly_Canon.f
  refine Ev.ifp (by omega) (Ev.ifp (by omega) ?_)
  rw [Int.toNat_natCast]
  refine canon_l0 G l l.length 0 (by omega) hb _ (by simp) (El.zeros _) fun j => ?_
  rw [getD_zeros, if_neg (by omega), N.tk_zero]
theorem rcanon_l1 (R : ROps N p m md) (l : List Int) (c : Nat) (hc : c ≤ l.length) (hb : l.length ≤ 1000000) (n i : Nat) (hi : i + n = c) (out : List Int) (ho : out.length = c) :
    ∃ r : List Int, Ev (fun k => codewrightref05_Canon.l1 k l (c : Int) out (i : Int) (p : Int) (m : Int) md) r ∧ r.length = c ∧ ∀ j, j < c → r.getD j 0 = if j < i then out.getD j 0 else inq N.q (l.getD j 0) := by
  induction n generalizing i out with
  | zero =>
    refine ⟨out, Ev.succ ?_, ho, fun j hj => by rw [if_pos (by omega)]⟩
    simp only [codewrightref05_Canon.l1]
    exact Ev.ifn (by omega) (Ev.now _)
  | succ n ih =>
    obtain ⟨r, hr, hrl, hrj⟩ := ih (i + 1) (by omega) (out.set i (inq N.q (l.getD i 0))) (by rw [List.length_set, ho])
    refine ⟨r, Ev.succ ?_, hrl, fun j hj => ?_⟩
    · simp only [codewrightref05_Canon.l1]
      refine Ev.ifp (by omega) ?_
      refine Ev.ifp (by omega) ?_
      refine Ev.ifp (by omega) ?_
      rw [rd_nat, Int.toNat_natCast]
      refine Ev.bind (R.in_ _) ?_
      refine Ev.ifp (by omega) ?_
      rw [w64 (by omega)]; exact hr
    · rw [hrj j hj]
      by_cases h1 : j = i
      · subst h1; rw [if_pos (by omega), if_neg (by omega), rd_set _ _ _ _ (by omega), if_pos rfl]
      · by_cases h3 : j < i
        · rw [if_pos (by omega), if_pos h3, rd_set _ _ _ _ (by omega), if_neg (by omega)]
        · rw [if_neg (by omega), if_neg h3]
theorem rcanon_l0 (R : ROps N p m md) (l : List Int) (hb : l.length ≤ 1000000) (n i c : Nat) (hi : i + n = l.length) (hc : c ≤ i) (h0 : ∀ j, c ≤ j → j < i → inq N.q (l.getD j 0) = 0) (h1 : c ≠ 0 → inq N.q (l.getD (c - 1) 0) ≠ 0) :
    Ev (fun k => codewrightref05_Canon.l0 k l (c : Int) (i : Int) (p : Int) (m : Int) md) (N.cl (N.lk l)) := by
  induction n generalizing i c with
  | zero =>
    obtain ⟨r, hr, hrl, hrj⟩ := rcanon_l1 R l c (by omega) hb c 0 (by omega) (List.replicate c 0) (by simp)
    have e : N.cl (N.lk l) = r := by
      have hq := N.q_pos
      refine N.cl_of ⟨?_, fun hne => ?_⟩ (lk_ext fun j => ?_)
      · intro x hx
        obtain ⟨j, hj, e⟩ := List.getElem_of_mem hx
        have : r.getD j 0 = x := by rw [List.getD_eq_getElem?_getD, List.getElem?_eq_getElem hj]; exact e
        rw [← this, hrj j (by omega), if_neg (by omega)]
        exact inq_range hq _
      · have hc0 : c ≠ 0 := fun e => hne (List.length_eq_zero_iff.1 (hrl.trans e))
        rw [hrl, hrj (c - 1) (by omega), if_neg (by omega)]; exact h1 hc0
      · by_cases hj : j < c
        · rw [hrj j hj, if_neg (by omega), N.tk_inq]
        · rw [getD_nat_lt r j (by omega), N.tk_zero]
          symm
          by_cases hj2 : j < i
          · exact (N.tk_eq_zero).2 (h0 j (by omega) hj2)
          · rw [getD_nat_lt l j (by omega), N.tk_zero]
    rw [e]
    refine Ev.succ ?_
    simp only [codewrightref05_Canon.l0]
    refine Ev.ifn (by omega) (Ev.ifp (by omega) (Ev.ifp (by omega) ?_))
    rw [Int.toNat_natCast]; exact hr
  | succ n ih =>
    refine Ev.succ ?_
    simp only [codewrightref05_Canon.l0]
    refine Ev.ifp (by omega) (Ev.ifp (by omega) ?_)
    rw [rd_nat]
    refine Ev.bind (R.in_ _) ?_
    have ew : wrap64 ((i : Int) + 1) = ((i + 1 : Nat) : Int) := by rw [w64 (by omega)]; omega
    by_cases hx : inq N.q (l.getD i 0) = 0
    · refine Ev.ifp hx ?_
      rw [ew]; clear ew
      refine ih (i + 1) c (by omega) (by omega) (fun j h2 h3 => ?_) h1
      by_cases e : j = i
      · subst e; exact hx
      · exact h0 j h2 (by omega)
    · refine Ev.ifn hx ?_
      rw [ew]; clear ew
      refine ih (i + 1) (i + 1) (by omega) (by omega) (fun j h2 h3 => by omega) fun _ => ?_
      rw [Nat.add_sub_cancel]; exact hx
theorem rcanon_ev (R : ROps N p m md) (l : List Int) (hb : l.length ≤ 1000000) : Ev (fun k => codewrightref05_Canon.f k (p : Int) (m : Int) md l) (N.cl (N.lk l)) := by
  unfold codewrightref05_Canon.f
  exact rcanon_l0 R l hb l.length 0 0 (by omega) (by omega) (fun j _ h => by omega) fun h => absurd rfl h
theorem rdeg_ev (R : ROps N p m md) (l : List Int) (hb : l.length ≤ 1000000) : Ev (fun k => codewrightref05_Degree.f k (p : Int) (m : Int) md l) (((N.cl (N.lk l)).length : Int) - 1) := by
  unfold codewrightref05_Degree.f
  have := N.cl_length_le (N.lk_lt l)
  exact Ev.bind (rcanon_ev R l hb) (Ev.val (w64 (by omega)))
theorem at_ev (R : ROps N p m md) (l : List Int) (hb : l.length ≤ 1000000) (i : Nat) : Ev (fun k => codewrightref05_At.f k (p : Int) (m : Int) md l (i : Int)) (inq N.q (l.getD i 0)) := by
  unfold codewrightref05_At.f
  refine Ev.ifn (by omega) ?_
  by_cases h : i < l.length
  · refine Ev.ifn (by omega) (Ev.ifp (by omega) (Ev.ifp (by omega) ?_))
    rw [rd_nat]
    exact Ev.bind (R.in_ _) (Ev.now _)
  · refine Ev.ifp (by omega) (Ev.val ?_)
    rw [getD_nat_lt l i (by omega), inq_zero]
theorem mx_nat (a b : Nat) : mx (a : Int) (b : Int) = ((max a b : Nat) : Int) := by unfold mx; split <;> omega
theorem radd_l0 (R : ROps N p m md) (a b : List Int) (c : Nat) (hc : c = max a.length b.length) (hb : c ≤ 1000000) (n i : Nat) (hi : i + n = c) (out : List Int) (ho : out.length = c)
    (hd : ∀ j, N.tk (out.getD j 0) = if j < i then N.tk (a.getD j 0) + N.tk (b.getD j 0) else 0) :
    Ev (fun k => codewrightref05_Add.l0 k a b out (i : Int) (p : Int) (m : Int) md) (N.cl (N.lk a + N.lk b)) := by
  induction n generalizing i out with
  | zero =>
    have e : N.lk out = N.lk a + N.lk b := by
      ext j
      rw [S.add_at, N.lk_at, N.lk_at, N.lk_at, hd j]
      by_cases hj : j < i
      · rw [if_pos hj]
      · rw [if_neg hj, getD_nat_lt a j (by omega), getD_nat_lt b j (by omega), N.tk_zero, add_zero]
    rw [← e]
    refine Ev.succ ?_
    simp only [codewrightref05_Add.l0]
    exact Ev.ifn (by omega) (Ev.bind (rcanon_ev R out (by omega)) (Ev.now _))
  | succ n ih =>
    refine Ev.succ ?_
    simp only [codewrightref05_Add.l0]
    refine Ev.ifp (by omega) ?_
    refine Ev.bind (at_ev R a (by omega) i) (Ev.bind (at_ev R b (by omega) i) (Ev.bind (R.add _ _) ?_))
    refine Ev.ifp (by omega) ?_
    have ew : wrap64 ((i : Int) + 1) = ((i + 1 : Nat) : Int) := by rw [w64 (by omega)]; omega
    rw [ew, Int.toNat_natCast]; clear ew
    refine ih (i + 1) (by omega) _ (by rw [List.length_set, ho]) fun j => ?_
    rw [rd_set _ _ _ _ (by omega)]
    by_cases e : i = j
    · subst e; rw [if_pos rfl, if_pos (by omega), N.tk_nm, N.tk_inq, N.tk_inq]
    · rw [if_neg e, hd j]
      by_cases h1 : j < i
      · rw [if_pos h1, if_pos (by omega)]
      · rw [if_neg h1, if_neg (by omega)]
theorem raddp_ev (R : ROps N p m md) (a b : List Int) (ha : a.length ≤ 1000000) (hb : b.length ≤ 1000000) : Ev (fun k => codewrightref05_Add.f k (p : Int) (m : Int) md a b) (N.cl (N.lk a + N.lk b)) := by
  unfold codewrightref05_Add.f
  rw [mx_nat]
  refine Ev.ifp (by omega) (Ev.ifp (by omega) ?_)
  rw [Int.toNat_natCast]
  refine radd_l0 R a b _ rfl (by omega) _ 0 (Nat.zero_add _) _ (by simp) fun j => ?_
  rw [getD_zeros, if_neg (by omega), N.tk_zero]
theorem rscale_l0 (R : ROps N p m md) (c : Int) (a : List Int) (hb : a.length ≤ 1000000) (n i : Nat) (hi : i + n = a.length) (out : List Int) (ho : out.length = a.length)
    (hd : ∀ j, N.tk (out.getD j 0) = if j < i then N.tk c * N.tk (a.getD j 0) else 0) :
    Ev (fun k => codewrightref05_Scale.l0 k c a out (i : Int) (p : Int) (m : Int) md) (N.cl (S.C (N.tk c) * N.lk a)) := by
  induction n generalizing i out with
  | zero =>
    have e : N.lk out = S.C (N.tk c) * N.lk a := by
      ext j
      rw [S.C_mul_at, N.lk_at, N.lk_at, hd j]
      by_cases hj : j < i
      · rw [if_pos hj]
      · rw [if_neg hj, getD_nat_lt a j (by omega), N.tk_zero, mul_zero]
    rw [← e]
    refine Ev.succ ?_
    simp only [codewrightref05_Scale.l0]
    exact Ev.ifn (by omega) (Ev.bind (rcanon_ev R out (by omega)) (Ev.now _))
  | succ n ih =>
    refine Ev.succ ?_
    simp only [codewrightref05_Scale.l0]
    refine Ev.ifp (by omega) (Ev.ifp (by omega) ?_)
    rw [rd_nat, Int.toNat_natCast]
    refine Ev.bind (R.mul _ _) ?_
    refine Ev.ifp (by omega) ?_
    have ew : wrap64 ((i : Int) + 1) = ((i + 1 : Nat) : Int) := by rw [w64 (by omega)]; omega
    rw [ew]; clear ew
    refine ih (i + 1) (by omega) _ (by rw [List.length_set, ho]) fun j => ?_
    rw [rd_set _ _ _ _ (by omega)]
    by_cases e : i = j
    · subst e; rw [if_pos rfl, if_pos (by omega), N.tk_nm]
    · rw [if_neg e, hd j]
      by_cases h1 : j < i
      · rw [if_pos h1, if_pos (by omega)]
      · rw [if_neg h1, if_neg (by omega)]
theorem rscale_ev (R : ROps N p m md) (c : Int) (a : List Int) (ha : a.length ≤ 1000000) : Ev (fun k => codewrightref05_Scale.f k (p : Int) (m : Int) md c a) (N.cl (S.C (N.tk c) * N.lk a)) := by
  unfold codewrightref05_Scale.f
  refine Ev.ifp (by omega) (Ev.ifp (by omega) ?_)
  rw [Int.toNat_natCast]
  refine rscale_l0 R c a ha _ 0 (Nat.zero_add _) _ (by simp) fun j => ?_
  rw [getD_zeros, if_neg (by omega), N.tk_zero]
theorem po_lk (l : List Int) : S.Po (N.lk l) := N.po_lk l
theorem cl_le (l : List Int) : (N.cl (N.lk l)).length ≤ l.length := N.cl_length_le (N.lk_lt l)
theorem rsub_ev (R : ROps N p m md) (a b : List Int) (ha : a.length ≤ 1000000) (hb : b.length ≤ 1000000) : Ev (fun k => codewrightref05_Sub.f k (p : Int) (m : Int) md a b) (N.cl (N.lk a - N.lk b)) := by
  have hpo : S.Po (S.C (N.tk (N.nm (-N.tk 1))) * N.lk b) := (S.Po.C _).mul (N.po_lk b)
  have hl : (N.cl (S.C (N.tk (N.nm (-N.tk 1))) * N.lk b)).length ≤ b.length := N.cl_length_le ((S.Lt.C _).mul (N.lk_lt b) (by omega))
  have e : N.lk a - N.lk b = N.lk a + N.lk (N.cl (S.C (N.tk (N.nm (-N.tk 1))) * N.lk b)) := by
    rw [N.lk_cl hpo, N.tk_nm, N.tk_one, S.C_neg, S.C_1]; exact ring_of [N.lk a, N.lk b] (by decide +kernel)
  rw [e]
  unfold codewrightref05_Sub.f
  exact Ev.bind (R.neg 1) (Ev.bind (rscale_ev R _ b hb) (Ev.bind (raddp_ev R a _ ha (by omega)) (Ev.now _)))
def tlk (N : Nums K) (l : List Int) (j : Nat) : S K := S.pw j * N.lk (l.drop j)
theorem tlk_step (l : List Int) (j : Nat) (h : j < l.length) : tlk N l j = S.C (N.tk (l.getD j 0)) * S.pw j + tlk N l (j + 1) := by
  unfold tlk
  rw [drop_getD l j h, N.lk_cons, S.pw_succ]
  exact ring_of [S.pw j, S.C (N.tk (l.getD j 0)), S.X, N.lk (l.drop (j + 1))] (by decide +kernel)
theorem tlk_end (l : List Int) : tlk N l l.length = 0 := by unfold tlk; rw [List.drop_length, N.lk_nil, mul_zero]
theorem tlk_zero (l : List Int) : tlk N l 0 = N.lk l := by unfold tlk; rw [List.drop_zero, S.pw_zero, one_mul]
theorem rmulp_l1 (R : ROps N p m md) (a b : List Int) (i : Nat) (hi : i < a.length) (n j : Nat) (hj : j + n = b.length) (c : List Int) (hc : a.length + b.length ≤ c.length) (hb : c.length ≤ 1000000) :
    ∃ c' : List Int, c'.length = c.length ∧ N.lk c' = N.lk c + S.C (N.tk (a.getD i 0)) * (S.pw i * tlk N b j) ∧
      ∀ r, Ev (fun k => codewrightref05_Mul.l0 k a b c' ((i + 1 : Nat) : Int) (p : Int) (m : Int) md) r → Ev (fun k => codewrightref05_Mul.l1 k a b c (i : Int) (j : Int) (p : Int) (m : Int) md) r := by
  induction n generalizing j c with
  | zero =>
    refine ⟨c, rfl, ?_, fun r hr => Ev.succ ?_⟩
    · rw [show j = b.length from by omega, tlk_end, mul_zero, mul_zero, add_zero]
    · simp only [codewrightref05_Mul.l1]
      refine Ev.ifn (by omega) ?_
      rw [w64 (by omega)]; exact hr
  | succ n ih =>
    obtain ⟨c', hc', ec, he⟩ := ih (j + 1) (by omega) (c.set (i + j) (N.nm (N.tk (c.getD (i + j) 0) + N.tk (N.nm (N.tk (a.getD i 0) * N.tk (b.getD j 0)))))) (by rw [List.length_set]; exact hc) (by rw [List.length_set]; exact hb)
    refine ⟨c', by rw [hc', List.length_set], ?_, fun r hr => Ev.succ ?_⟩
    · rw [ec, N.lk_set _ _ _ (by omega), tlk_step b j (by omega), N.tk_nm, N.tk_nm]
      have e6 : N.tk (c.getD (i + j) 0) + N.tk (a.getD i 0) * N.tk (b.getD j 0) - N.tk (c.getD (i + j) 0) = N.tk (a.getD i 0) * N.tk (b.getD j 0) :=
        ring_of [N.tk (c.getD (i + j) 0), N.tk (a.getD i 0), N.tk (b.getD j 0)] (by decide +kernel)
      rw [e6, S.C_mul, S.pw_add]
      exact ring_of [N.lk c, S.C (N.tk (a.getD i 0)), S.C (N.tk (b.getD j 0)), S.pw i, S.pw j, tlk N b (j + 1)] (by decide +kernel)
    · simp only [codewrightref05_Mul.l1]
      have ew : wrap64 ((i : Int) + (j : Int)) = ((i + j : Nat) : Int) := by rw [w64 (by omega)]; omega
      rw [ew, rd_nat, rd_nat, rd_nat, Int.toNat_natCast]; clear ew
      refine Ev.ifp (by omega) ?_
      refine Ev.ifp (by omega) ?_
      refine Ev.ifp (by omega) ?_
      refine Ev.ifp (by omega) ?_
      refine Ev.ifp (by omega) ?_
      refine Ev.ifp (by omega) ?_
      refine Ev.bind (R.mul _ _) (Ev.bind (R.add _ _) ?_)
      rw [w64 (by omega)]
      exact he r hr
theorem rmulp_l0 (R : ROps N p m md) (a b : List Int) (n i : Nat) (hi : i + n = a.length) (c : List Int) (hc : a.length + b.length ≤ c.length) (hb : c.length ≤ 1000000) :
    Ev (fun k => codewrightref05_Mul.l0 k a b c (i : Int) (p : Int) (m : Int) md) (N.cl (N.lk c + tlk N a i * N.lk b)) := by
  induction n generalizing i c with
  | zero =>
    rw [show i = a.length from by omega, tlk_end, zero_mul, add_zero]
    refine Ev.succ ?_
    simp only [codewrightref05_Mul.l0]
    exact Ev.ifn (by omega) (Ev.bind (rcanon_ev R c hb) (Ev.now _))
  | succ n ih =>
    obtain ⟨c1, hc1, ec1, he1⟩ := rmulp_l1 R a b i (by omega) b.length 0 (by omega) c hc hb
    have h2 := ih (i + 1) (by omega) c1 (by omega) (by omega)
    have e : N.lk c1 + tlk N a (i + 1) * N.lk b = N.lk c + tlk N a i * N.lk b := by
      rw [ec1, tlk_zero, tlk_step a i (by omega)]
      exact ring_of [N.lk c, S.C (N.tk (a.getD i 0)), S.pw i, N.lk b, tlk N a (i + 1)] (by decide +kernel)
    rw [e] at h2
    refine Ev.succ ?_
    simp only [codewrightref05_Mul.l0]
    refine Ev.ifp (by omega) ?_
    exact he1 _ h2
theorem rmulp_ev (R : ROps N p m md) (a b : List Int) (ha : a.length ≤ 400000) (hb : b.length ≤ 400000) : Ev (fun k => codewrightref05_Mul.f k (p : Int) (m : Int) md a b) (N.cl (N.lk a * N.lk b)) := by
  have h1 := cl_le (N := N) a
  have h2 := cl_le (N := N) b
  unfold codewrightref05_Mul.f
  refine Ev.bind (rcanon_ev R a (by omega)) (Ev.bind (rcanon_ev R b (by omega)) ?_)
  rw [w64 (by omega)]
  refine Ev.ifp (by omega) (Ev.ifp (by omega) ?_)
  have := rmulp_l0 R (N.cl (N.lk a)) (N.cl (N.lk b)) (N.cl (N.lk a)).length 0 (Nat.zero_add _) (List.replicate ((N.cl (N.lk a)).length + (N.cl (N.lk b)).length) 0) (by simp) (by simp; omega)
  rw [N.lk_zeros, tlk_zero, zero_add, N.lk_cl (N.po_lk a), N.lk_cl (N.po_lk b)] at this
  rw [show (((N.cl (N.lk a)).length : Int) + ((N.cl (N.lk b)).length : Int)).toNat = (N.cl (N.lk a)).length + (N.cl (N.lk b)).length from by omega]
  exact this
theorem product_l1 (G : GOps N p m md ex lg) (a b : List Int) (i : Nat) (hi : i < a.length) (n j : Nat) (hj : j + n = b.length) (c : List Int) (hc : a.length + b.length = c.length + 1) (hb : c.length ≤ 1000000) (he : El N c) :
    ∃ c' : List Int, c'.length = c.length ∧ El N c' ∧ N.lk c' = N.lk c + S.C (N.tk (a.getD i 0)) * (S.pw i * tlk N b j) ∧
      ∀ r, Ev (fun k => poly_product.l0 k b c' a (a.length : Int) ((i + 1 : Nat) : Int) (p : Int) (m : Int) md N.q ex lg) r →
        Ev (fun k => poly_product.l1 k b c (i : Int) (a.getD i 0) a (a.length : Int) (i : Int) b (b.length : Int) (j : Int) (p : Int) (m : Int) md N.q ex lg) r := by
  induction n generalizing j c with
  | zero =>
    refine ⟨c, rfl, he, ?_, fun r hr => Ev.succ ?_⟩
    · rw [show j = b.length from by omega, tlk_end, mul_zero, mul_zero, add_zero]
    · simp only [poly_product.l1]
      refine Ev.ifn (by omega) ?_
      rw [w64 (by omega)]; exact hr
  | succ n ih =>
    obtain ⟨c', hc', he', ec, hev⟩ := ih (j + 1) (by omega) (c.set (i + j) (N.nm (N.tk (c.getD (i + j) 0) + N.tk (N.nm (N.tk (a.getD i 0) * N.tk (b.getD j 0)))))) (by rw [List.length_set]; exact hc) (by rw [List.length_set]; exact hb) (he.set _ (N.nm_range _))
    refine ⟨c', by rw [hc', List.length_set], he', ?_, fun r hr => Ev.succ ?_⟩
    · rw [ec, N.lk_set _ _ _ (by omega), tlk_step b j (by omega), N.tk_nm, N.tk_nm]
      have e6 : N.tk (c.getD (i + j) 0) + N.tk (a.getD i 0) * N.tk (b.getD j 0) - N.tk (c.getD (i + j) 0) = N.tk (a.getD i 0) * N.tk (b.getD j 0) :=
        ring_of [N.tk (c.getD (i + j) 0), N.tk (a.getD i 0), N.tk (b.getD j 0)] (by decide +kernel)
      rw [e6, S.C_mul, S.pw_add]
      exact ring_of [N.lk c, S.C (N.tk (a.getD i 0)), S.C (N.tk (b.getD j 0)), S.pw i, S.pw j, tlk N b (j + 1)] (by decide +kernel)
    · simp only [poly_product.l1]
      have ew : wrap64 ((i : Int) + (j : Int)) = ((i + j : Nat) : Int) := by rw [w64 (by omega)]; omega
      rw [ew, rd_nat, rd_nat, Int.toNat_natCast]; clear ew
      refine Ev.ifp (by omega) ?_
      refine Ev.ifp (by omega) ?_
      refine Ev.ifp (by omega) ?_
      refine Ev.ifp (by omega) ?_
      refine Ev.ifp (by omega) ?_
      refine Ev.opt_bind (G.mul _ _) (Ev.bind (G.add _ _) ?_)
      rw [w64 (by omega)]
      exact hev r hr
theorem product_l0 (G : GOps N p m md ex lg) (a b : List Int) (n i : Nat) (hi : i + n = a.length) (c : List Int) (hc : a.length + b.length = c.length + 1) (hb : c.length ≤ 1000000) (he : El N c) :
    ∃ r : List Int, Ev (fun k => poly_product.l0 k b c a (a.length : Int) (i : Int) (p : Int) (m : Int) md N.q ex lg) (r, (p : Int), (m : Int), N.q) ∧ r.length = c.length ∧ El N r ∧ N.lk r = N.lk c + tlk N a i * N.lk b := by
  induction n generalizing i c with
  | zero =>
    refine ⟨c, Ev.succ ?_, rfl, he, by rw [show i = a.length from by omega, tlk_end, zero_mul, add_zero]⟩
    simp only [poly_product.l0]
    exact Ev.ifn (by omega) (Ev.now _)
  | succ n ih =>
    obtain ⟨c1, hc1, he1, ec1, hev1⟩ := product_l1 G a b i (by omega) b.length 0 (by omega) c hc hb he
    obtain ⟨r, hr, h1, h2, h3⟩ := ih (i + 1) (by omega) c1 (by omega) (by omega) he1
    refine ⟨r, Ev.succ ?_, by omega, h2, ?_⟩
    · simp only [poly_product.l0]
      refine Ev.ifp (by omega) ?_
      refine Ev.ifp (by omega) ?_
      refine Ev.ifp (by omega) ?_
      rw [rd_nat]
      exact hev1 _ hr
    · rw [h3, ec1, tlk_zero, tlk_step a i (by omega)]
      exact ring_of [N.lk c, S.C (N.tk (a.getD i 0)), S.pw i, N.lk b, tlk N a (i + 1)] (by decide +kernel)
theorem product_ev (G : GOps N p m md ex lg) (a b : List Int) (ha : a.length ≤ 400000) (hb : b.length ≤ 400000) :
    Ev (fun k => poly_product.f k (p : Int) (m : Int) md N.q ex lg a b) (N.cl (N.lk a * N.lk b), (p : Int), (m : Int), N.q) := by
  have h1 := cl_le (N := N) a
  have h2 := cl_le (N := N) b
  unfold poly_product.f
  refine Ev.bind (canon_ev G a (by omega)) (Ev.bind (canon_ev G b (by omega)) ?_)
  have hz : ∀ u v : List Int, (N.lk a = 0 ∨ N.lk b = 0) → Ev (fun k => poly_product.j0 k u v true (p : Int) (m : Int) md N.q ex lg) (N.cl (N.lk a * N.lk b), (p : Int), (m : Int), N.q) := by
    intro u v h
    have e : N.cl (N.lk a * N.lk b) = [] := by
      rcases h with h | h
      · rw [h, zero_mul, N.cl_zero]
      · rw [h, mul_zero, N.cl_zero]
    rw [e]
    refine Ev.succ ?_
    simp only [poly_product.j0]
    exact Ev.ifp trivial (Ev.now _)
  dsimp only
  by_cases ha0 : N.lk a = 0
  · refine Ev.ifp (by rw [ha0, N.cl_zero]; rfl) (hz _ _ (.inl ha0))
  · have hla : (N.cl (N.lk a)).length ≠ 0 := fun e => ha0 ((N.cl_nil (N.po_lk a)).1 (List.length_eq_zero_iff.1 e))
    refine Ev.ifn (by omega) ?_
    by_cases hb0 : N.lk b = 0
    · have := hz (N.cl (N.lk a)) (N.cl (N.lk b)) (.inr hb0)
      rw [show (((N.cl (N.lk b)).length : Int) == 0) = true from by rw [hb0, N.cl_zero]; rfl]
      exact this
    · have hlb : (N.cl (N.lk b)).length ≠ 0 := fun e => hb0 ((N.cl_nil (N.po_lk b)).1 (List.length_eq_zero_iff.1 e))
      have ed := (S.Deg.mul (N.deg_cl (N.po_lk a) ha0) (N.deg_cl (N.po_lk b) hb0))
      obtain ⟨r, hr, hl, hel, e⟩ := product_l0 G (N.cl (N.lk a)) (N.cl (N.lk b)) (N.cl (N.lk a)).length 0 (Nat.zero_add _) (List.replicate ((N.cl (N.lk a)).length + (N.cl (N.lk b)).length - 1) 0) (by simp; omega) (by simp; omega) (El.zeros _)
      rw [N.lk_zeros, tlk_zero, zero_add, N.lk_cl (N.po_lk a), N.lk_cl (N.po_lk b)] at e
      rw [List.length_replicate] at hl
      have er : N.cl (N.lk a * N.lk b) = r := by
        refine N.cl_of ⟨hel, fun _ => ?_⟩ e
        rw [hl, show (N.cl (N.lk a)).length + (N.cl (N.lk b)).length - 1 - 1 = (N.cl (N.lk a)).length - 1 + ((N.cl (N.lk b)).length - 1) from by omega]
        intro hz0
        apply ed.2
        rw [← e, N.lk_at, hz0, N.tk_zero]
      rw [er, show (((N.cl (N.lk b)).length : Int) == 0) = false from by rw [beq_eq_false_iff_ne]; omega]
      refine Ev.succ ?_
      simp only [poly_product.j0]
      refine Ev.ifn (by simp) ?_
      rw [w64 (n := ((N.cl (N.lk a)).length : Int) + ((N.cl (N.lk b)).length : Int)) (by omega), w64 (by omega)]
      refine Ev.ifp (by omega) (Ev.ifp (by omega) ?_)
      rw [show (((N.cl (N.lk a)).length : Int) + ((N.cl (N.lk b)).length : Int) - 1).toNat = (N.cl (N.lk a)).length + (N.cl (N.lk b)).length - 1 from by omega]
      exact hr
end
end Go.Proofs.Ytiejggpmjapajaa.PA
end
section
namespace Go.Proofs.Ytiejggpmjapajaa.PA
open Go.RowKit Go.Proofs.YtiejggpmjapajaaW.PrintWords Go.Proofs.YtiejggpmjapajaaW.PrintLast Go.Proofs.YtiejggpmjapajaaW.PrintMore
open Alg
set_option linter.unusedVariables false
section
variable {K : Type} [Fld K] {N : Nums K} {p m : Nat} {md ex lg : List Int}
theorem eval_l0 (G : GOps N p m md ex lg) (l : List Int) (hb : l.length ≤ 1000000) (x : Int) (n : Nat) (hn : n ≤ l.length) (i : Int) (hi : i = (n : Int) - 1) (y : Int) (hy : y = N.nm (S.ev (N.lk (l.drop n)) (N.tk x))) :
    Ev (fun k => poly_Eval.l0 k l x y i (p : Int) (m : Int) md N.q ex lg) (N.nm (S.ev (N.lk l) (N.tk x)), (p : Int), (m : Int), N.q) := by
  induction n generalizing i y with
  | zero =>
    refine Ev.succ ?_
    simp only [poly_Eval.l0]
    refine Ev.ifn (by omega) (Ev.val ?_)
    rw [hy, List.drop_zero]
  | succ n ih =>
    refine Ev.succ ?_
    simp only [poly_Eval.l0]
    obtain rfl : i = (n : Int) := by omega
    refine Ev.ifp (by omega) (Ev.opt_bind (G.mul _ _) (Ev.ifp (by omega) (Ev.ifp (by omega) ?_)))
    rw [rd_nat]
    refine Ev.bind (G.add _ _) ?_
    refine ih (by omega) _ (w64 (by omega)) _ ?_
    show N.nm (N.tk (N.nm (N.tk y * N.tk x)) + N.tk (l.getD n 0)) = _
    rw [drop_getD l n (by omega), N.ev_cons, N.tk_nm, hy, N.tk_nm, add_comm, mul_comm]
theorem eval_ev (G : GOps N p m md ex lg) (l : List Int) (hb : l.length ≤ 1000000) (x : Int) :
    Ev (fun k => poly_Eval.f k (p : Int) (m : Int) md N.q ex lg l x) (N.nm (S.ev (N.lk l) (N.tk x)), (p : Int), (m : Int), N.q) := by
  unfold poly_Eval.f
  refine eval_l0 G l hb x l.length (Nat.le_refl _) _ (w64 (by omega)) _ ?_
  rw [List.drop_length, N.ev_nil, N.nm_zero]
theorem reval_l0 (R : ROps N p m md) (l : List Int) (hb : l.length ≤ 1000000) (x : Int) (n i : Nat) (hi : i + n = l.length) (y z : Int) (hy : N.tk y = S.val i (N.lk l) (N.tk x)) (hz : N.tk z = S.npow (N.tk x) i) (hr : 0 ≤ y ∧ y < N.q) :
    Ev (fun k => codewrightref05_Eval.l0 k l x y z (i : Int) (p : Int) (m : Int) md) (N.nm (S.ev (N.lk l) (N.tk x))) := by
  induction n generalizing i y z with
  | zero =>
    refine Ev.succ ?_
    simp only [codewrightref05_Eval.l0]
    refine Ev.ifn (by omega) (Ev.val ?_)
    rw [← N.nm_of hr, hy, S.ev_eq (N.lk_lt l), show i = l.length from by omega]
  | succ n ih =>
    refine Ev.succ ?_
    simp only [codewrightref05_Eval.l0]
    refine Ev.ifp (by omega) (Ev.ifp (by omega) ?_)
    rw [rd_nat]
    refine Ev.bind (R.mul _ _) (Ev.bind (R.add _ _) (Ev.bind (R.mul _ _) ?_))
    have ew : wrap64 ((i : Int) + 1) = ((i + 1 : Nat) : Int) := by rw [w64 (by omega)]; omega
    rw [ew]; clear ew
    refine ih (i + 1) (by omega) _ _ ?_ ?_ (N.nm_range _)
    · rw [N.tk_nm, N.tk_nm, hy, hz, S.val_sum, S.val_sum, sum_succ, N.lk_at]
    · rw [N.tk_nm, hz]; rfl
theorem reval_ev (R : ROps N p m md) (l : List Int) (hb : l.length ≤ 1000000) (x : Int) : Ev (fun k => codewrightref05_Eval.f k (p : Int) (m : Int) md l x) (N.nm (S.ev (N.lk l) (N.tk x))) := by
  unfold codewrightref05_Eval.f
  have := N.q2
  refine reval_l0 R l hb x l.length 0 (Nat.zero_add _) 0 1 ?_ N.tk_one (by omega)
  rw [N.tk_zero]; rfl
theorem lk_lin (r : Int) : N.lk [N.nm (-N.tk r), 1] = S.lin (N.tk r) := by
  rw [N.lk_two, N.tk_nm, N.tk_one, S.C_neg, S.C_1, mul_one]
  show -S.C (N.tk r) + S.X = S.X - S.C (N.tk r)
  exact ring_of [S.C (N.tk r), S.X] (by decide +kernel)
theorem froots_l0 (G : GOps N p m md ex lg) (l : List Int) (hb : l.length ≤ 1000) (n i : Nat) (hi : i + n = l.length) (out : List Int) (ho : N.cl (N.lk out) = out) (hol : out.length ≤ i + 1) :
    Ev (fun k => poly_FromRoots.l0 k out l (l.length : Int) (i : Int) (p : Int) (m : Int) md N.q ex lg) (N.cl (N.lk out * S.prod ((l.drop i).map N.tk)), (p : Int), (m : Int), N.q) := by
  induction n generalizing i out with
  | zero =>
    refine Ev.succ ?_
    simp only [poly_FromRoots.l0]
    refine Ev.ifn (by omega) (Ev.val ?_)
    rw [List.drop_eq_nil_of_le (by omega)]
    show _ = (N.cl (N.lk out * 1), _)
    rw [mul_one, ho]
  | succ n ih =>
    refine Ev.succ ?_
    simp only [poly_FromRoots.l0]
    refine Ev.ifp (by omega) (Ev.ifp (by omega) (Ev.ifp (by omega) ?_))
    rw [rd_nat]
    refine Ev.bind (G.neg _) ?_
    refine Ev.bind (product_ev G out _ (by omega) (by simp)) ?_
    have ew : wrap64 ((i : Int) + 1) = ((i + 1 : Nat) : Int) := by rw [w64 (by omega)]; omega
    rw [ew]; clear ew
    show Ev (fun k => poly_FromRoots.l0 k (N.cl (N.lk out * N.lk [N.nm (-N.tk (l.getD i 0)), 1])) l (l.length : Int) ((i + 1 : Nat) : Int) (p : Int) (m : Int) md N.q ex lg) _
    rw [lk_lin]
    have hp : S.Po (N.lk out * S.lin (N.tk (l.getD i 0))) := (N.po_lk out).mul (S.Po.lin _)
    have h1 := ih (i + 1) (by omega) (N.cl (N.lk out * S.lin (N.tk (l.getD i 0)))) (by rw [N.lk_cl hp]) (N.cl_length_le ((N.lk_lt out).mul' (S.lin_deg _).1 (by omega)))
    rw [N.lk_cl hp] at h1
    rw [drop_getD l i (by omega), List.map_cons]
    show Ev _ (N.cl (N.lk out * (S.lin (N.tk (l.getD i 0)) * S.prod ((l.drop (i + 1)).map N.tk))), _)
    rw [← mul_assoc]; exact h1
theorem cl_one : N.cl 1 = [1] := by
  have := N.q2
  refine N.cl_of ⟨fun x hx => ?_, fun _ => ?_⟩ N.lk_one
  · obtain rfl := List.mem_singleton.1 hx; omega
  · simp
theorem froots_ev (G : GOps N p m md ex lg) (l : List Int) (hb : l.length ≤ 1000) :
    Ev (fun k => poly_FromRoots.f k (p : Int) (m : Int) md N.q ex lg l) (N.cl (S.prod (l.map N.tk)), (p : Int), (m : Int), N.q) := by
  unfold poly_FromRoots.f
  have := froots_l0 G l hb l.length 0 (Nat.zero_add _) [1] (by rw [N.lk_one, cl_one]) (by simp)
  rwa [N.lk_one, one_mul, List.drop_zero] at this
end
end Go.Proofs.Ytiejggpmjapajaa.PA
end
section
namespace Go.Proofs.Ytiejggpmjapajaa.PA
open Go.RowKit Go.Proofs.YtiejggpmjapajaaW.PrintWords Go.Proofs.YtiejggpmjapajaaW.PrintLast Go.Proofs.YtiejggpmjapajaaW.PrintMore
open Alg
set_option linter.unusedVariables false
section
variable {K : Type} [Fld K] {N : Nums K} {p m : Nat} {md ex lg : List Int}
theorem nm_one_iff {a : K} : N.nm a = 1 ↔ a = 1 := by
  constructor
  · intro h
    rw [← N.tk_nm a, h, N.tk_one]
  · rintro rfl
    exact N.nm_one
theorem rinv_l0 (R : ROps N p m md) (x : Int) (hx : N.tk x ≠ 0) (n : Nat) (i : Int) (hi : 1 ≤ i) (hn : i + n = N.q) (hs : ∀ y, 1 ≤ y → y < i → N.tk x * N.tk y ≠ 1) :
    Ev (fun k => codewrightref04_Inv.l0 k x i (p : Int) (m : Int) md) (N.nm (inv (N.tk x))) := by
  have hq := N.q256
  induction n generalizing i with
  | zero =>
    exfalso
    have h1 := N.nm_range (inv (N.tk x))
    have h0 : N.nm (inv (N.tk x)) ≠ 0 := fun h => inv_ne hx (N.nm_eq_zero.1 h)
    exact hs (N.nm (inv (N.tk x))) (by omega) (by omega) (by rw [N.tk_nm, mul_inv hx])
  | succ n ih =>
    refine Ev.succ ?_
    simp only [codewrightref04_Inv.l0]
    refine Ev.bind R.ord (Ev.ifp (by omega) (Ev.bind (R.mul _ _) ?_))
    by_cases h : N.tk x * N.tk i = 1
    · refine Ev.ifp (nm_one_iff.2 h) (Ev.val ?_)
      rw [← inv_unique h, N.nm_of (by omega)]
    · refine Ev.ifn (fun h' => h (nm_one_iff.1 h')) ?_
      rw [w64 (n := i + 1) (by omega)]
      refine ih (i + 1) (by omega) (by omega) fun y h1 h2 => ?_
      by_cases e : y = i
      · rw [e]; exact h
      · exact hs y h1 (by omega)
theorem rinv_ev (R : ROps N p m md) (x : Int) (hx : N.tk x ≠ 0) : Ev (fun k => codewrightref04_Inv.f k (p : Int) (m : Int) md x) (N.nm (inv (N.tk x))) := by
  unfold codewrightref04_Inv.f
  have h2 := N.q2
  exact rinv_l0 R x hx (N.q - 1).toNat 1 (Int.le_refl _) (by omega) fun y h1 h3 => by omega
theorem lk_pw (n : Nat) : N.lk ((List.replicate (n + 1) (0 : Int)).set n 1) = S.pw n := by
  rw [N.lk_set _ _ _ (by simp), N.lk_zeros, getD_zeros, N.tk_one, N.tk_zero, sub_eq, neg_zero, add_zero, S.C_1, one_mul, zero_add]
theorem power_eq (n : Nat) (h : n ≤ 1000000) : codewrightref05_Power.f (n : Int) = some ((List.replicate (n + 1) (0 : Int)).set n 1) := by
  unfold codewrightref05_Power.f
  rw [w64 (n := (n : Int) + 1) (by omega), if_pos (by omega), if_pos (by omega), Option.bind_some, if_pos (by omega), if_pos (by simp; omega)]
  rw [show ((n : Int) + 1).toNat = n + 1 from by omega, Int.toNat_natCast]
theorem rdivmod_l0 (R : ROps N p m md) (b : List Int) (d : Nat) (hb : b.length ≤ 1000) (hbd : S.Deg (N.lk b) d) (iv : Int) (hiv : N.tk iv = inv (N.lk b d)) (n : Nat) (a : S K) (ha : S.Lt a n) (hn : n ≤ 1000) (quo : List Int) (hq : n ≤ quo.length + d) (hql : quo.length ≤ 1000)
    (hz : ∀ j, j + d < n → quo.getD j 0 = 0) :
    Ev (fun k => codewrightref05_DivMod.l0 k b (N.cl a) (d : Int) iv quo (p : Int) (m : Int) md) (N.cl (N.lk quo + S.quo a (N.lk b)), N.cl (S.rem a (N.lk b))) := by
  have hpo : S.Po a := ⟨n, ha⟩
  induction n using Nat.strongRecOn generalizing a quo with
  | ind n ih =>
    by_cases hlen : (N.cl a).length ≤ d
    · have hs := S.rem_small hbd ((N.cl_lt hpo).mono hlen)
      rw [hs.1, hs.2, add_zero]
      refine Ev.succ ?_
      simp only [codewrightref05_DivMod.l0]
      exact Ev.ifn (by omega) (Ev.bind (rcanon_ev R quo (by omega)) (Ev.now _))
    · have hle : (N.cl a).length ≤ n := N.cl_length_le ha
      have hne : a ≠ 0 := fun e => hlen (by rw [e, N.cl_zero]; exact Nat.zero_le _)
      have had := N.deg_cl hpo hne
      obtain ⟨e, he⟩ : ∃ e, (N.cl a).length = d + e + 1 := ⟨(N.cl a).length - d - 1, by omega⟩
      rw [he, Nat.add_sub_cancel] at had
      have hpos : S.Po (S.C (a (d + e) * inv (N.lk b d))) := S.Po.C _
      refine Ev.succ ?_
      simp only [codewrightref05_DivMod.l0]
      have e1 : wrap64 (((N.cl a).length : Int) - 1) = ((d + e : Nat) : Int) := by rw [w64 (by omega)]; omega
      rw [e1, rd_nat, N.cl_at hpo]
      have e2 : wrap64 (((d + e : Nat) : Int) - (d : Int)) = (e : Int) := by rw [w64 (by omega)]; omega
      rw [e2, power_eq e (by omega)]
      clear e1 e2
      refine Ev.ifp (by omega) (Ev.ifp (by omega) (Ev.ifp (by omega) (Ev.bind (R.mul _ _) (Ev.ifp (by omega) (Ev.ifp (by omega) ?_)))))
      refine Ev.bind (rscale_ev R _ b (by omega)) (Ev.some_bind ?_)
      have e3 : N.tk (N.nm (N.tk (N.nm (a (d + e))) * N.tk iv)) = a (d + e) * inv (N.lk b d) := by rw [N.tk_nm, N.tk_nm, hiv]
      rw [e3]
      have hsl : (N.cl (S.C (a (d + e) * inv (N.lk b d)) * N.lk b)).length ≤ b.length := N.cl_length_le ((S.Lt.C _).mul (N.lk_lt b) (by omega))
      refine Ev.bind (rmulp_ev R _ _ (by omega) (by simp; omega)) ?_
      rw [N.lk_cl ((S.Po.C _).mul (N.po_lk b)), lk_pw]
      have hml : (N.cl (S.C (a (d + e) * inv (N.lk b d)) * N.lk b * S.pw e)).length ≤ 10000 := N.cl_length_le ((((S.Lt.C _).mul (N.lk_lt b) (Nat.le_refl _)).mul' (S.Lt.pw e) (by omega)))
      refine Ev.bind (rsub_ev R _ _ (by omega) (by omega)) ?_
      rw [N.lk_cl hpo, N.lk_cl (((S.Po.C _).mul (N.po_lk b)).mul (S.Po.pw e)), Int.toNat_natCast]
      have hnew : S.Lt (a - S.C (a (d + e) * inv (N.lk b d)) * N.lk b * S.pw e) (d + e) := by
        intro j hj
        have e4 : S.C (a (d + e) * inv (N.lk b d)) * N.lk b * S.pw e = S.C (a (d + e) * inv (N.lk b d)) * (S.pw e * N.lk b) := by rw [mul_assoc, mul_comm (N.lk b)]
        rw [e4, S.sub_at, S.C_mul_at]
        by_cases hje : j = d + e
        · subst hje
          rw [show d + e = e + d from Nat.add_comm _ _, S.pw_mul_add, mul_assoc, inv_mul hbd.2, mul_one]; exact sub_self _
        · have h1 : a j = 0 := had.1 j (by omega)
          have h2 : (S.pw e * N.lk b : S K) j = 0 := by rw [S.pw_mul_at, if_neg (by omega)]; exact hbd.1 _ (by omega)
          rw [h1, h2, mul_zero]; exact sub_self _
      have h1 := ih (d + e) (by omega) (a - S.C (a (d + e) * inv (N.lk b d)) * N.lk b * S.pw e) hnew (by omega) (quo.set e (N.nm (N.tk (N.nm (a (d + e))) * N.tk iv))) (by rw [List.length_set]; omega) (by rw [List.length_set]; exact hql)
        (fun j hj => by rw [rd_set _ _ _ _ (by omega), if_neg (by omega)]; exact hz j (by omega)) ⟨_, hnew⟩
      have hlk : N.lk (quo.set e (N.nm (N.tk (N.nm (a (d + e))) * N.tk iv))) = N.lk quo + S.C (a (d + e) * inv (N.lk b d)) * S.pw e := by
        rw [N.lk_set _ _ _ (by omega), hz e (by omega), e3, N.tk_zero, sub_eq, neg_zero, add_zero]
      obtain ⟨g1, g2, g3⟩ := S.div_spec (a := a - S.C (a (d + e) * inv (N.lk b d)) * N.lk b * S.pw e) ⟨_, hnew⟩ hbd
      have hdiv := S.div_of (a := a) hbd (((S.Po.C (a (d + e) * inv (N.lk b d))).mul (S.Po.pw e)).add g1) g2 (by
        have : a = (a - S.C (a (d + e) * inv (N.lk b d)) * N.lk b * S.pw e) + S.C (a (d + e) * inv (N.lk b d)) * N.lk b * S.pw e := ring_of [a, S.C (a (d + e) * inv (N.lk b d)), N.lk b, S.pw e] (by decide +kernel)
        refine this.trans ?_
        generalize (a - S.C (a (d + e) * inv (N.lk b d)) * N.lk b * S.pw e) = cc at *
        generalize S.C (a (d + e) * inv (N.lk b d)) = c0 at *
        have e9 : cc + c0 * N.lk b * S.pw e = (S.quo cc (N.lk b) * N.lk b + S.rem cc (N.lk b)) + c0 * N.lk b * S.pw e := by rw [← g3]
        rw [e9]
        exact ring_of [c0, S.pw e, N.lk b, S.quo cc (N.lk b), S.rem cc (N.lk b)] (by decide +kernel))
      rw [hdiv.1, hdiv.2, ← add_assoc, ← hlk]
      exact h1
theorem rdivmod_ev (R : ROps N p m md) (a b : List Int) (ha : a.length ≤ 1000) (hb : b.length ≤ 1000) (h : N.lk b ≠ 0) :
    Ev (fun k => codewrightref05_DivMod.f k (p : Int) (m : Int) md a b) (N.cl (S.quo (N.lk a) (N.lk b)), N.cl (S.rem (N.lk a) (N.lk b))) := by
  obtain ⟨d, hd⟩ := S.ex_deg (N.po_lk b) h
  have hbl := N.cl_deg hd
  have hla := cl_le (N := N) a
  have hlb := cl_le (N := N) b
  unfold codewrightref05_DivMod.f
  refine Ev.bind (rcanon_ev R b (by omega)) (Ev.bind (rcanon_ev R a (by omega)) ?_)
  have e1 : wrap64 (((N.cl (N.lk b)).length : Int) - 1) = (d : Int) := by rw [w64 (by omega)]; omega
  rw [e1, rd_nat, N.cl_at (N.po_lk b)]
  refine Ev.ifp (by omega) (Ev.ifp (by omega) (Ev.bind (rinv_ev R _ (by rw [N.tk_nm]; exact hd.2)) ?_))
  have e3 : mx (wrap64 (((N.cl (N.lk a)).length : Int) - (d : Int))) 0 = (((N.cl (N.lk a)).length - d : Nat) : Int) := by
    rw [w64 (by omega)]; unfold mx; split <;> omega
  rw [e3, Int.toNat_natCast]
  refine Ev.ifp (by omega) (Ev.ifp (by omega) ?_)
  clear e1 e3
  have hbd : S.Deg (N.lk (N.cl (N.lk b))) d := by rw [N.lk_cl (N.po_lk b)]; exact hd
  have := rdivmod_l0 R (N.cl (N.lk b)) d (by omega) hbd (N.nm (inv (N.tk (N.nm (N.lk b d))))) (by rw [N.tk_nm, N.tk_nm, N.lk_cl (N.po_lk b)]) (N.cl (N.lk a)).length (N.lk a) (N.cl_lt (N.po_lk a)) (by omega) (List.replicate ((N.cl (N.lk a)).length - d) 0) (by simp; omega) (by simp; omega) (fun j hj => getD_zeros _ _)
  rw [N.lk_zeros, zero_add, N.lk_cl (N.po_lk b)] at this
  exact this
theorem rrem_ev (R : ROps N p m md) (a b : List Int) (ha : a.length ≤ 1000) (hb : b.length ≤ 1000) (h : N.lk b ≠ 0) :
    Ev (fun k => codewrightref05_Rem.f k (p : Int) (m : Int) md a b) (N.cl (S.rem (N.lk a) (N.lk b))) := by
  unfold codewrightref05_Rem.f
  exact Ev.bind (rdivmod_ev R a b ha hb h) (Ev.now _)
end
end Go.Proofs.Ytiejggpmjapajaa.PA
end
section
namespace Go.Proofs.Ytiejggpmjapajaa.PA
open Alg Go.RowKit Go.Proofs.YtiejggpmjapajaaW.PrintWords Go.Proofs.YtiejggpmjapajaaW.PrintLast Go.Proofs.YtiejggpmjapajaaW.PrintMore
set_option linter.unusedVariables false
section
variable {K : Type} [Fld K] {N : Nums K} {p m : Nat} {md ex lg : List Int}
noncomputable def rtz (N : Nums K) (l : List Int) (n : Nat) : List Int := (upZ n).filter fun x => decide (N.nm (S.ev (N.lk l) (N.tk x)) = 0)
theorem rtz_hit {l : List Int} {n : Nat} (h : N.nm (S.ev (N.lk l) (N.tk (n : Int))) = 0) : rtz N l (n + 1) = rtz N l n ++ [(n : Int)] := by simp [rtz, upZ_succ, h]
theorem rtz_miss {l : List Int} {n : Nat} (h : ¬ N.nm (S.ev (N.lk l) (N.tk (n : Int))) = 0) : rtz N l (n + 1) = rtz N l n := by simp [rtz, upZ_succ, h]
theorem rtz_le (l : List Int) (n : Nat) : (rtz N l n).length ≤ n := by
  have h := List.length_filter_le (fun x => decide (N.nm (S.ev (N.lk l) (N.tk x)) = 0)) (upZ n)
  rwa [upZ_length] at h
theorem rroots_l0 (R : ROps N p m md) (l : List Int) (hb : l.length ≤ 1000000) (n i : Nat) (hi : (i : Int) + n = N.q) :
    Ev (fun k => codewrightref05_Roots.l0 k l (rtz N l i) (i : Int) (p : Int) (m : Int) md) (rtz N l N.q.toNat) := by
  induction n generalizing i with
  | zero =>
    refine Ev.succ ?_
    simp only [codewrightref05_Roots.l0]
    refine Ev.bind R.ord (Ev.ifn (by omega) (Ev.val ?_))
    rw [show N.q.toNat = i from by omega]
  | succ n ih =>
    have hq := N.q256
    refine Ev.succ ?_
    simp only [codewrightref05_Roots.l0]
    refine Ev.bind R.ord (Ev.ifp (by omega) (Ev.bind (reval_ev R l hb _) ?_))
    have ew : wrap64 ((i : Int) + 1) = ((i + 1 : Nat) : Int) := by rw [w64 (by omega)]; omega
    rw [ew]; clear ew
    have h1 := ih (i + 1) (by omega)
    by_cases c : N.nm (S.ev (N.lk l) (N.tk (i : Int))) = 0
    · rw [rtz_hit c] at h1
      exact Ev.ifp c (Ev.ifp (by have := rtz_le (N := N) l i; omega) h1)
    · rw [rtz_miss c] at h1
      exact Ev.ifn c h1
theorem rroots_ev (R : ROps N p m md) (l : List Int) (hb : l.length ≤ 1000000) : Ev (fun k => codewrightref05_Roots.f k (p : Int) (m : Int) md l) (rtz N l N.q.toNat) := by
  unfold codewrightref05_Roots.f
  have := N.q2
  exact rroots_l0 R l hb N.q.toNat 0 (by omega)
theorem ev_upto {α : Type} {f : Nat → Nat → Option α} {r : Nat → α} (h : ∀ x, Ev (f x) (r x)) : ∀ n, ∃ K, ∀ k, K ≤ k → ∀ x, x < n → f x k = some (r x)
  | 0 => ⟨0, fun _ _ x hx => absurd hx (Nat.not_lt_zero x)⟩
  | n + 1 => by
    obtain ⟨K1, h1⟩ := ev_upto h n
    obtain ⟨K2, h2⟩ := h n
    refine ⟨K1 + K2, fun k hk x hx => ?_⟩
    rcases Nat.lt_or_ge x n with c | c
    · exact h1 k (by omega) x c
    · obtain rfl : x = n := by omega
      exact h2 k (by omega)
theorem mem_rtz {l : List Int} {n : Nat} {x : Int} : x ∈ rtz N l n ↔ (∃ i : Nat, i < n ∧ (i : Int) = x) ∧ S.ev (N.lk l) (N.tk x) = 0 := by
  unfold rtz upZ
  rw [List.mem_filter, List.mem_map, decide_eq_true_iff, N.nm_eq_zero]
  simp only [List.mem_range]
theorem rtz_nd (l : List Int) : ((rtz N l N.q.toNat).map N.tk).Nodup := by
  have h0 : (rtz N l N.q.toNat).Nodup := by
    unfold rtz upZ
    refine List.Pairwise.filter _ ?_
    refine List.pairwise_map.2 (List.Pairwise.imp ?_ List.nodup_range)
    intro a b hab e
    exact hab (by omega)
  refine List.pairwise_map.2 (List.Pairwise.imp_of_mem ?_ h0)
  intro a b ha hb hab e
  obtain ⟨⟨i, hi, rfl⟩, _⟩ := mem_rtz.1 ha
  obtain ⟨⟨j, hj, rfl⟩, _⟩ := mem_rtz.1 hb
  have h1 := N.tk_eq.1 e
  unfold inq at h1
  rw [if_pos (by omega), if_pos (by omega)] at h1
  exact hab h1
end
def RootsTo (k : Nat) (P M : Int) (md : List Int) (q : Int) (ex lg lp rs : List Int) : Prop :=
  ∃ (a : List Int) (ev : Int → Int), poly_Canon.f k P M md q ex lg lp = some (a, P, M, q) ∧ 1 ≤ a.length ∧ (0 ≤ q ∧ q ≤ 1000000) ∧ (∀ x, 0 ≤ x → x < q → poly_Eval.f k P M md q ex lg a x = some (ev x, P, M, q)) ∧ ((upZ q.toNat).filter fun x => decide (ev x = 0)) = rs
theorem poly_Roots.w (k : Nat) {W0 w : World} {g : Nat} {P M q : Int} {md ex lg : List Int} {Ap : Option Addr} {cp : Nat} {lp rs : List Int} (S : St W0 w g P M md q ex lg) (Xp : Row w g Ap cp lp) (H : RootsTo k P M md q ex lg lp rs) :
    Calls Try.prog 27 #[.pointer (some ⟨g, 0, none⟩), .slice Ap lp.length cp] w fun e w' => ∃ B0 d0, e = .returned (.tuple #[.slice B0 rs.length d0, .int .i64 0]) ∧ Row w' g B0 d0 rs ∧ St W0 w' g P M md q ex lg ∧ Stp w w' g := by
  obtain ⟨a, ev, h1, h2, h3, h4, rfl⟩ := H
  exact Roots_c k Ap cp lp a ev h1 h2 h3 h4 S Xp
set_option maxHeartbeats 4000000 in
set_option maxRecDepth 100000 in
theorem poly_Rootz.w (k : Nat) {W0 w : World} {g : Nat} {P M q : Int} {md ex lg : List Int} {Ap : Option Addr} {cp : Nat} {lp : List Int} (S : St W0 w g P M md q ex lg) (Xp : Row w g Ap cp lp) (H : poly_Canon.f k P M md q ex lg lp = some ([], P, M, q)) :
    Calls Try.prog 27 #[.pointer (some ⟨g, 0, none⟩), .slice Ap lp.length cp] w fun e w' => e = .returned (.tuple #[.slice none 0 0, .int .i64 7]) ∧ St W0 w' g P M md q ex lg ∧ Stp w w' g := by
  have H1 := Aside0.mk H
  clear H
  go_enter Try.func27, Try.ntmps27
  go_wp2_with fail
  refine (poly_Canon.w k (S.alloc _) (Xp.alloc _) H1.out).mono ?_
  rintro e w2 ⟨A1, c1, rfl, X1, S2, hK⟩
  have KK := Aside0.mk ((Stp.alloc w _ g).trans hK)
  have SS := Aside0.mk S2
  clear hK S2 S Xp X1
  go_wp2
  go_ret2
  exact ⟨rfl, SS.out.alloc _, KK.out.trans (Stp.alloc _ _ _)⟩
theorem roots_pure {p m : Nat} [Two p] {md ex lg : List Int} (h : GOk p m md ex lg) (lp : List Int) (hp : lp.length ≤ 24) :
    (∃ k, poly_Canon.f k (p : Int) (m : Int) md ((p : Int) ^ m) ex lg lp = some ([], (p : Int), (m : Int), (p : Int) ^ m) ∧ codewrightref05_Degree.f k (p : Int) (m : Int) md lp = some (-1)) ∨
    (∃ (k : Nat) (rs fr : List Int) (d : Int), RootsTo k (p : Int) (m : Int) md ((p : Int) ^ m) ex lg lp rs ∧
      codewrightref05_Degree.f k (p : Int) (m : Int) md lp = some d ∧ 0 ≤ d ∧ (rs.length : Int) ≤ d ∧ codewrightref05_Roots.f k (p : Int) (m : Int) md lp = some rs ∧ codewrightlaw05_same.f k rs rs = some true ∧
      poly_FromRoots.f k (p : Int) (m : Int) md ((p : Int) ^ m) ex lg rs = some (fr, (p : Int), (m : Int), (p : Int) ^ m) ∧ codewrightref05_Degree.f k (p : Int) (m : Int) md fr = some (rs.length : Int) ∧ codewrightref05_Rem.f k (p : Int) (m : Int) md lp fr = some [] ) := by
  letI := fldOf h
  have R := rops h
  have G := gops h
  have hq2 : 2 ≤ (p : Int) ^ m := (numsOf h).q2
  have hq := (numsOf h).q256
  have hcl : ((numsOf h).cl ((numsOf h).lk lp)).length ≤ 24 := Nat.le_trans ((numsOf h).cl_length_le ((numsOf h).lk_lt lp)) hp
  by_cases c : (numsOf h).lk lp = 0
  · left
    obtain ⟨K1, h1⟩ := canon_ev G lp (by omega)
    obtain ⟨K2, h2⟩ := rdeg_ev R lp (by omega)
    rw [c, (numsOf h).cl_zero] at h1 h2
    exact ⟨K1 + K2, h1 _ (by omega), h2 _ (by omega)⟩
  · right
    obtain ⟨d, hd⟩ := S.ex_deg (po_lk lp) c
    have hcd := (numsOf h).cl_deg hd
    have hrl := rtz_le (N := numsOf h) lp ((p : Int) ^ m).toNat
    have hq' : (p : Int) ^ m ≤ 256 := hq
    have hr0 : ∀ x, x ∈ (rtz (numsOf h) lp ((p : Int) ^ m).toNat).map (numsOf h).tk → S.val (d + 1) ((numsOf h).lk lp) x = 0 := by
      intro x hx
      obtain ⟨y, hy, rfl⟩ := List.mem_map.1 hx
      rw [← S.ev_eq hd.1]
      exact (mem_rtz.1 hy).2
    have hle : (rtz (numsOf h) lp ((p : Int) ^ m).toNat).length ≤ d := by
      have := S.roots_le hd _ (rtz_nd lp) hr0
      rwa [List.length_map] at this
    have hdv := S.prod_dv hd.1 _ (rtz_nd lp) hr0
    have hpd := S.prod_deg ((rtz (numsOf h) lp ((p : Int) ^ m).toNat).map (numsOf h).tk)
    have hfl := (numsOf h).cl_deg hpd
    rw [List.length_map] at hfl
    obtain ⟨K1, h1⟩ := canon_ev G lp (by omega)
    obtain ⟨K2, h2⟩ := rdeg_ev R lp (by omega)
    obtain ⟨K3, h3⟩ := rroots_ev R lp (by omega)
    obtain ⟨K4, h4⟩ := same_yes (rtz (numsOf h) lp ((p : Int) ^ m).toNat) (by omega)
    obtain ⟨K5, h5⟩ := froots_ev G (rtz (numsOf h) lp ((p : Int) ^ m).toNat) (by omega)
    obtain ⟨K6, h6⟩ := rdeg_ev R ((numsOf h).cl (S.prod ((rtz (numsOf h) lp ((p : Int) ^ m).toNat).map (numsOf h).tk))) (by omega)
    obtain ⟨K7, h7⟩ := rrem_ev R lp ((numsOf h).cl (S.prod ((rtz (numsOf h) lp ((p : Int) ^ m).toNat).map (numsOf h).tk))) (by omega) (by omega) (by rw [(numsOf h).lk_cl (S.Po.prod _)]; exact hpd.ne)
    obtain ⟨K8, h8⟩ := ev_upto (fun x : Nat => eval_ev G ((numsOf h).cl ((numsOf h).lk lp)) (by omega) (x : Int)) ((p : Int) ^ m).toNat
    rw [(numsOf h).lk_cl (S.Po.prod _)] at h6 h7
    rw [(S.rem_zero (po_lk lp) (S.Po.prod _) hpd.ne).2 hdv, (numsOf h).cl_zero] at h7
    refine ⟨K1 + K2 + K3 + K4 + K5 + K6 + K7 + K8, rtz (numsOf h) lp ((p : Int) ^ m).toNat, _, _, ⟨_, fun x => (numsOf h).nm (S.ev ((numsOf h).lk ((numsOf h).cl ((numsOf h).lk lp))) ((numsOf h).tk x)), h1 _ (by omega), by omega, ⟨by omega, by omega⟩, fun x hx hx2 => ?_, ?_⟩, h2 _ (by omega), by omega, by omega, h3 _ (by omega), h4 _ (by omega), h5 _ (by omega), ?_, h7 _ (by omega)⟩
    · have := h8 (K1 + K2 + K3 + K4 + K5 + K6 + K7 + K8) (by omega) x.toNat (by omega)
      rw [show ((x.toNat : Nat) : Int) = x from by omega] at this
      exact this
    · rw [(numsOf h).lk_cl (po_lk lp)]; rfl
    · have := h6 (K1 + K2 + K3 + K4 + K5 + K6 + K7 + K8) (by omega)
      rw [hfl] at this
      refine this.trans (congrArg some ?_)
      omega
end Go.Proofs.Ytiejggpmjapajaa.PA
end
section
namespace Go.Proofs.Ytiejggpmjapajaa.PA
open Alg Go.RowKit Go.Proofs.YtiejggpmjapajaaW.PrintWords Go.Proofs.YtiejggpmjapajaaW.PrintLast Go.Proofs.YtiejggpmjapajaaW.PrintMore
set_option linter.unusedVariables false
set_option maxHeartbeats 4000000 in
set_option maxRecDepth 100000 in
theorem PolyRoots_calls (P M : Int) (A : Option Addr) (c : Nat) (md : List Int) (Ap : Option Addr) (cp : Nat) (lp : List Int) (w : World) (hr : Kd.C (Kd.int .i64) w A md.length md) (hc : md.length ≤ c) (hrp : Kd.C (Kd.int .i64) w Ap lp.length lp) (hcp : lp.length ≤ cp) :
    Calls Try.prog 7 #[.agg #[.int .i64 P, .int .i64 M, .slice A md.length c], .slice Ap lp.length cp] w fun e w' => e = .returned (.bool true) ∧ Below w.heap.size w w' := by
  have HR := Aside0.mk hr
  have HC := Aside0.mk hc
  have HRp := Aside0.mk hrp
  have HCp := Aside0.mk hcp
  clear hr hc  hrp hcp
  go_enter Try.func7, Try.ntmps7
  go_wp2_with fail
  refine (alive_calls _).mono ?_
  rintro e w2 ⟨rfl, hb⟩
  have HB := Aside0.mk (below_step (below_alloc (Below.refl _ w) _) hb)
  have BK := Aside0.mk (blk_below (blk_new w _) hb)
  clear hb
  have b0 := (blk_cell BK.out 0).trans rfl
  have b1 := (blk_cell BK.out 1).trans rfl
  have b2 := (blk_cell BK.out 2).trans rfl
  go_wp2_with fail
  refine (made_calls P M A c md _ (Kd.C_below HR.out HB.out) HC.out).mono ?_
  rintro e w3 ⟨v, rfl, h⟩
  rcases h with ⟨rfl, hb⟩ | ⟨g, rfl, W0, hb, hb2, p, m, ex, lg, rfl, rfl, ⟨ht, hG⟩, hI⟩
  · have HB2 := Aside0.mk (below_step HB.out hb)
    clear hb
    go_wp2
    go_ret
    exact ⟨rfl, HB2.out⟩
  · have C1 := Aside0.mk (below_step HB.out hb)
    have BK0 := Aside0.mk (blk_below BK.out hb)
    have S : St W0 w3 g p m md _ ex lg := ⟨hI, hb2⟩
    have HGO := Aside0.mk hG
    have XF := S.arg (Kd.C_below HR.out C1.out) HC.out
    have Xp := S.arg (Kd.C_below HRp.out C1.out) HCp.out
    clear hb hb2 hI hG b0 b1 b2 HB BK  HR HC HRp HCp
    by_cases cs : ∀ l, l ∈ [lp] → l.length ≤ 24
    rotate_left
    · have cb := Aside0.mk (decide_eq_false cs)
      go_wp2_with fail
      refine (short_w S [(Ap, cp, lp)] _ (by simp) (fun x hx => by rcases List.mem_cons.1 hx with rfl | hx; exact Xp; exact absurd hx List.not_mem_nil) false cb.out).mono ?_
      rintro e w4 ⟨rfl, S2, hK⟩
      replace XF := XF.step hK
      replace Xp := Xp.step hK
      clear hK S cb
      have S := S2
      clear S2
      go_wp2
      go_ret
      exact ⟨rfl, below_step C1.out S.B⟩
    · have cb := Aside0.mk (decide_eq_true cs)
      go_wp2_with fail
      refine (short_w S [(Ap, cp, lp)] _ (by simp) (fun x hx => by rcases List.mem_cons.1 hx with rfl | hx; exact Xp; exact absurd hx List.not_mem_nil) true cb.out).mono ?_
      rintro e w4 ⟨rfl, S2, hK⟩
      replace XF := XF.step hK
      replace Xp := Xp.step hK
      clear hK S cb
      have S := S2
      clear S2
      have hlp : lp.length ≤ 24 := cs _ (by simp)
      have HLS := Aside0.mk cs
      clear cs
      rcases roots_pure HGO.out lp hlp with ⟨k, h1, h2⟩ | ⟨k, rs, fr, d, h1, h2, hd0, hle, h3, h4, h5, h6, h7⟩
      · skip
        have H1 := Aside0.mk h1
        have H2 := Aside0.mk h2
        clear h1 h2 HGO
        go_wp2_with fail
        refine (poly_Rootz.w k S Xp H1.out).mono ?_
        rintro e w5 ⟨rfl, S2, hK⟩
        replace XF := (XF).step hK
        replace Xp := (Xp).step hK
        clear hK S
        have S := S2
        clear S2
        have b0 := (S.box BK0.out 0).trans rfl
        have b1 := (S.box BK0.out 1).trans rfl
        have b2 := (S.box BK0.out 2).trans rfl
        go_wp2_with fail
        refine (codewrightref05_Degree.w k S XF Xp H2.out).mono ?_
        rintro e w6 ⟨rfl, S2, hK⟩
        clear b0 b1 b2
        replace XF := (XF).step hK
        replace Xp := (Xp).step hK
        clear hK S
        have S := S2
        clear S2
        go_wp2
        go_ret
        exact ⟨rfl, below_step C1.out S.B⟩
      · skip
        have H1 := Aside0.mk h1
        have H2 := Aside0.mk h2
        have H3 := Aside0.mk h3
        have H4 := Aside0.mk h4
        have H5 := Aside0.mk h5
        have H6 := Aside0.mk h6
        have H7 := Aside0.mk h7
        clear h1 h2 h3 h4 h5 h6 h7 HGO
        have q1 : ¬ d < 0 := by omega
        have q2 : decide (d < 0) = false := decide_eq_false q1
        have q3 : ¬ (rs.length : Int) > d := by omega
        have q4 : decide ((rs.length : Int) > d) = false := decide_eq_false q3
        go_wp2_with fail
        refine (poly_Roots.w k S Xp H1.out).mono ?_
        rintro e w5 ⟨Ars, crs, rfl, Xrs, S2, hK⟩
        replace XF := (XF).step hK
        replace Xp := (Xp).step hK
        clear hK S
        have S := S2
        clear S2
        have b0 := (S.box BK0.out 0).trans rfl
        have b1 := (S.box BK0.out 1).trans rfl
        have b2 := (S.box BK0.out 2).trans rfl
        go_wp2_with fail
        refine (codewrightref05_Degree.w k S XF Xp H2.out).mono ?_
        rintro e w6 ⟨rfl, S2, hK⟩
        clear b0 b1 b2
        replace XF := (XF).step hK
        replace Xp := (Xp).step hK
        replace Xrs := (Xrs).step hK
        clear hK S
        have S := S2
        clear S2
        have b0 := (S.box BK0.out 0).trans rfl
        have b1 := (S.box BK0.out 1).trans rfl
        have b2 := (S.box BK0.out 2).trans rfl
        go_wp2_with fail
        refine (codewrightref05_Roots.w k S XF Xp H3.out).mono ?_
        rintro e w7 ⟨Ar2, cr2, rfl, Xr2, S2, hK⟩
        clear b0 b1 b2
        replace XF := (XF).step hK
        replace Xp := (Xp).step hK
        replace Xrs := (Xrs).step hK
        clear hK S
        have S := S2
        clear S2
        go_wp2_with fail
        refine (codewrightlaw05_same.w k S Xrs Xr2 H4.out).mono ?_
        rintro e w8 ⟨rfl, S2, hK⟩
        replace XF := (XF).step hK
        replace Xp := (Xp).step hK
        replace Xrs := (Xrs).step hK
        replace Xr2 := (Xr2).step hK
        clear hK S
        have S := S2
        clear S2
        clear Xr2
        go_wp2_with fail
        refine (poly_FromRoots.w k S Xrs H5.out).mono ?_
        rintro e w9 ⟨Afr, cfr, rfl, Xfr, S2, hK⟩
        replace XF := (XF).step hK
        replace Xp := (Xp).step hK
        replace Xrs := (Xrs).step hK
        clear hK S
        have S := S2
        clear S2
        have b0 := (S.box BK0.out 0).trans rfl
        have b1 := (S.box BK0.out 1).trans rfl
        have b2 := (S.box BK0.out 2).trans rfl
        go_wp2_with fail
        refine (codewrightref05_Degree.w k S XF Xfr H6.out).mono ?_
        rintro e w10 ⟨rfl, S2, hK⟩
        clear b0 b1 b2
        replace XF := (XF).step hK
        replace Xp := (Xp).step hK
        replace Xrs := (Xrs).step hK
        replace Xfr := (Xfr).step hK
        clear hK S
        have S := S2
        clear S2
        have b0 := (S.box BK0.out 0).trans rfl
        have b1 := (S.box BK0.out 1).trans rfl
        have b2 := (S.box BK0.out 2).trans rfl
        go_wp2_with fail
        refine (codewrightref05_Rem.w k S XF Xp Xfr H7.out).mono ?_
        rintro e w11 ⟨Are, cre, rfl, Xre, S2, hK⟩
        clear b0 b1 b2
        replace XF := (XF).step hK
        replace Xp := (Xp).step hK
        replace Xrs := (Xrs).step hK
        replace Xfr := (Xfr).step hK
        clear hK S
        have S := S2
        clear S2
        go_wp2
        go_ret
        exact ⟨rfl, below_step C1.out S.B⟩
end Go.Proofs.Ytiejggpmjapajaa.PA
end
section
namespace Go.Proofs.Ytiejggpmjapajaa.PA
open Go.Joins Go.ChangeShapes Go.WideShapes Go.ChangeAt Go.RowKit Go.Proofs.YtiejggpmjapajaaW.PrintWords Go.Proofs.YtiejggpmjapajaaW.PrintLast Go.Proofs.YtiejggpmjapajaaW.PrintMore
set_option linter.unusedVariables false
set_option maxRecDepth 100000
theorem own : ownKnob Try.prog.godebug = none := by kernel_rfl
theorem laidOut : laidOutB Try.prog = true := by kernel_rfl
theorem reads_trod {H : Type} {enc : TypeId × Value → H} {P : Program} {w : World} {t e fuel : Nat} {v : Value} {x : DataW H × List MemPlace} (ht : P.underlying t = some (.slice e)) (he : P.underlying e = some (.int .i64)) (hc : P.cellsOf e = 1)
    (h : DataW.trod enc P w 0 (fun _ => true) true fuel t [v] = some x) : ∃ a l c, v = .slice a l.length c ∧ l.length ≤ c ∧ Kd.C (Kd.int .i64) w a l.length l := by
  rcases open_ints ht he hc h with ⟨hcs, _⟩ | ⟨a, len, cap, zs, hcs, _, hl, hm, hz, _, hcell, hwz⟩
  · injection hcs with hcs _
    subst hcs
    exact ⟨none, [], 0, rfl, Nat.le_refl _, Kd.C_nil _ _⟩
  · injection hcs with hcs _
    subst hcs
    have hz' : zs.length = cap := by simpa using hz
    obtain ⟨l, hl', hr, _, _, hcc⟩ := ReadsInt.ofRowC (k := .i64) (w := w) (a := some a) (len := len) (cap := cap) (zs := zs) (.inr ⟨a, rfl, hl, hm, hz', hcell, hwz⟩)
    subst hl'
    exact ⟨some a, l, cap, rfl, hcc, Kd.C_of_reads (d := (0 : Int)) (h1 := fun _ => rfl) hr⟩
theorem reads_field {H : Type} {enc : TypeId × Value → H} {w : World} {v : Value} {d : DataW H} {p : List MemPlace} (hv : Value.okWide Try.prog w .any 0 24 v) (h : DataW.Trod enc Try.prog w 0 (fun _ => true) true 24 v d p) :
    ∃ P M a l c, v = .agg #[.int .i64 P, .int .i64 M, .slice a l.length c] ∧ l.length ≤ c ∧ Kd.C (Kd.int .i64) w a l.length l := by
  obtain ⟨v0, v1, v2, y0, y1, y2, n, rfl, _, _, h0, h1, h2⟩ := open_agg3 Try.underlying24 (by kernel_rfl) (by kernel_rfl) hv h
  obtain ⟨n0, e0, _⟩ := DataW.trod_int Try.underlying3 h0
  obtain ⟨n1, e1, _⟩ := DataW.trod_int Try.underlying3 h1
  obtain ⟨a, l, c, rfl, hc, hC⟩ := reads_trod Try.underlying22 Try.underlying3 (by kernel_rfl) h2
  injection e0 with e0
  injection e1 with e1
  subst e0
  subst e1
  exact ⟨_, _, a, l, c, rfl, hc, hC⟩
end Go.Proofs.Ytiejggpmjapajaa.PA
end
section
namespace Go.Proofs.Ytiejggpmjapajaa.polyRoots
open Go.Joins Go.ChangeShapes Go.WideShapes Go.ChangeAt Go.RowKit Go.Proofs.YtiejggpmjapajaaW.PrintWords Go.Proofs.YtiejggpmjapajaaW.PrintLast Go.Proofs.YtiejggpmjapajaaW.PrintMore Go.Proofs.Ytiejggpmjapajaa.PA
set_option linter.unusedVariables false
set_option maxRecDepth 100000 in
theorem lifted (os : Os) (started : os.Started) (H : Type) (enc : TypeId × Value → H) :
    ReturnsInHanded {} Try.checked os 7 .any (Rows.polyRootsSpec.pre6 enc Try.prog Try.f7 Rows.polyRootsRow.domain false) (Rows.polyRootsSpec.post enc Try.prog Try.f7 false true false false) := by
  refine returnsInHanded_of_change_sized (C := Try.checked) own started (by kernel_rfl) Try.func7
    (ChangeSpec.witness6 (enc := enc) (C := Try.checked) false ⟨#[], #[.agg #[.int .i64 0, .int .i64 0, .slice none 0 0], .slice none 0 0], []⟩ 8 (by kernel_rfl) (by kernel_rfl) (by kernel_rfl) (by kernel_rfl)) ?_
  intro W base args ds gs before hval0 hW hcnd hsz0 _
  have hval : ∀ (j : Nat) t v, Try.f7.params[j]? = some t → args[j]? = some v → Value.okWide Try.prog W .any base t v := hval0
  have hW' := hW
  obtain ⟨p, q, hA0, hV, rfl, hfz, hnd⟩ := hW
  have hA : DataW.TrodAll enc Try.prog W 0 (fun _ => true) true Try.f7.params.toList args.toList ds p := hA0
  rw [Try.params7] at hA hval
  obtain ⟨v0, vs0, d0, ds0, p0, q0, hargs, rfl, rfl, h0, r0⟩ := trodAll_cons hA
  obtain ⟨v1, vs1, d1, ds1, p1, q1, rfl, rfl, rfl, h1, r1⟩ := trodAll_cons r0
  obtain ⟨rfl, rfl, rfl⟩ := trodAll_nil r1
  obtain rfl : args = #[v0, v1] := by cases args; simp_all
  obtain ⟨rfl, rfl⟩ := trodVars_none hV
  have k0 := h0
  have lt0 : ∀ x ∈ p0, x.block < W.heap.size := by obtain ⟨m, hm⟩ := k0; exact DataW.trod_lt m _ _ _ hm
  obtain ⟨P0, M0, A0, l0, c0, rfl, hc0, hC0⟩ := reads_field (hval 0 24 v0 rfl rfl) h0
  have k1 := h1
  have lt1 : ∀ x ∈ p1, x.block < W.heap.size := by obtain ⟨m, hm⟩ := k1; exact DataW.trod_lt m _ _ _ hm
  obtain ⟨A1, l1, c1, rfl, hc1, hC1⟩ : ∃ a l c, v1 = .slice a l.length c ∧ l.length ≤ c ∧ Kd.C (Kd.int .i64) W a l.length l := by
    obtain ⟨a, n, c, rfl⟩ := okWide_slice Try.underlying22 (hval 1 22 v1 rfl rfl)
    obtain ⟨fuel, hf⟩ := h1
    exact reads_trod Try.underlying22 Try.underlying3 (by kernel_rfl) hf
  clear hA0 hval0 hsz0
  refine (PolyRoots_calls P0 M0 A0 c0 l0 A1 c1 l1 W hC0 hc0 hC1 hc1).mono fun e W' ⟨he, bel⟩ => ?_
  subst he
  exact ⟨_, rfl, _, _, _, [], _, [], hW', trodAll_mk1 (shut_bool Try.underlying4 _), (trodAll_cons_mk (Below.trod laidOut (by kernel_rfl) (of_decide_eq_true (by kernel_rfl)) k0 bel lt0) (trodAll_cons_mk (Below.trod laidOut (by kernel_rfl) (of_decide_eq_true (by kernel_rfl)) k1 bel lt1) trodAll_mk0)), rfl, bel.frame _, fun h => by cases h⟩
theorem over : Rows.polyRootsRow.holds Try.pinned (OpenSpec.ofChange Rows.polyRootsSpec) :=
  OpenClaim.holds_of_wide 7 Try.f7 rfl rfl rfl rfl rfl rfl rfl ⟨rfl, rfl, rfl, rfl, rfl⟩ rfl rfl rfl rfl rfl (by kernel_rfl) Try.func7 (by kernel_rfl)
    (of_decide_eq_true (by kernel_rfl)) (by unfold Func.isWrapper; first | (rw [if_pos (by decide +kernel)]; kernel_rfl) | (rw [if_neg (by decide +kernel)]; exact ⟨rfl, rfl⟩))
    (fun os started H enc _ => lifted os started H enc)
end Go.Proofs.Ytiejggpmjapajaa.polyRoots
namespace Go.Proofs.Ytiejggpmjapajaa
theorem polyRoots_holds : Rows.PolyRootsSaid := polyRoots.over
end Go.Proofs.Ytiejggpmjapajaa
end
