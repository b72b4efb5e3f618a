/- Proved: for every input the law KeyequationRegisters returns true and leaves its arguments as they were; no conditions. Part 1 of 5 of the proof. -/
import Derived.Below
import Derived.Deep.Draws
import Derived.Deep.AppendLies
import Derived.Maps.AppendAt
import Derived.OwnWalk
import Derived.Laws.BytesArg
import Derived.Laws.MakeOwn
import Derived.Laws.OwnMore
import Derived.Deep.OwnRows
import Derived.Tactics
import Derived.Lib.ConvBytes
import Derived.Laws.Slices
import Derived.WalkKit
import Derived.KernelRfl
import Derived.RowKit3
import Derived.Deep.LoopGhost
import Derived.Deep.QuietTactic
import Derived.BigQuiet
import Derived.WideLaws
import Derived.Deep.DeepCutAuto
import Derived.Deep.CutBlock
import Derived.Deep.RegionHeld3
import Derived.Laws.Rows
import Derived.Lib.AppendStr
import Derived.ArgAppend
import Derived.Laws.IdiomCopy
import Derived.RowKit
import Derived.OrdersHeld
import Derived.Laws.BitsLemmas
set_option linter.unusedSectionVars false
set_option linter.unusedSimpArgs false
set_option linter.unusedVariables false
section
set_option linter.unusedVariables false
set_option linter.unusedSimpArgs false
namespace Go.Proofs.YtkdakjlopheefaaW.PrintWords
open Go.RowKit
structure Aside0 (p : Prop) : Prop where mk :: (out : p)
structure Drawn0 (w w' : World) : Prop where mk :: (out : ∃ n, w' = w.drewN n)
theorem Drawn0.refl (w : World) : Drawn0 w w := ⟨⟨0, rfl⟩⟩
theorem Drawn0.step {w w' : World} (h : Drawn0 w w') (n : Nat) : Drawn0 w (w'.drewN n) := by
  obtain ⟨m, rfl⟩ := h
  exact ⟨⟨m + n, World.drewN_drewN ..⟩⟩
theorem Drawn0.below {w w' : World} (h : Drawn0 w w') : Below w.heap.size w w' := by
  obtain ⟨n, rfl⟩ := h
  induction n with
  | zero => exact Below.refl _ _
  | succ n ih => rw [← World.drew_drewN]; exact ih.drew
def rd (xs : List Int) (i : Int) : Int := xs.getD i.toNat 0
def nums (k : IntKind) (xs : List Int) : List Value := xs.map fun x => .int k x
theorem nums_length (k : IntKind) (xs : List Int) : (nums k xs).length = xs.length := by simp [nums]
theorem below_alloc {w W : World} (h : Below w.heap.size w W) (o : Obj) : Below w.heap.size w (W.alloc o) := h.alloc h.size o
theorem below_drew {B : Nat} {w W : World} (h : Below B w W) : Below B w W.drew := ⟨h.os, h.tape, h.output, h.size, h.block⟩
theorem pw_below_drewN {B : Nat} {w W : World} (h : Below B w W) (n : Nat) : Below B w (W.drewN n) := ⟨h.os, h.tape, h.output, h.size, h.block⟩
theorem below_then {B : Nat} {w w1 w2 : World} (h : Below B w w1) (hB : B ≤ w1.heap.size) (k : Below w1.heap.size w1 w2) : Below B w w2 :=
  h.trans ⟨k.os, k.tape, k.output, k.size, fun i hi => k.block i (Nat.lt_of_lt_of_le hi hB)⟩
theorem pw_below_grown {B : Nat} {w w1 : World} (h : Below B w w1) (row : Option Nat) (hB : B ≤ w1.heap.size) {w2 : World} (hg : w1.grownBy w2 row) (hr : ∀ k, row = some k → B ≤ k) : Below B w w2 := h.grown hg hB hr
theorem grown_of_below {w w1 : World} (h : Below w.heap.size w w1) (row : Option Nat) : w.grownBy w1 row := ⟨h.os, h.tape, h.output, h.size, fun i hi _ => h.block i hi⟩
theorem pw_cell_below {w w1 : World} (h : Below w.heap.size w w1) {a : Addr} {v : Value} (hc : w.cell? a = some v) : w1.cell? a = some v := (h.cell (World.block_lt_of_cell? w a hc)).trans hc
theorem add_plain (g j : Nat) : (⟨g, 0, none⟩ : Addr).add j = ⟨g, j, none⟩ := by unfold Addr.add; split <;> simp_all
def ReadsInt (w : World) (k : IntKind) (A : Option Addr) (n : Nat) (xs : List Int) : Prop :=
  xs.length = n ∧ n ≤ 9223372036854775807 ∧ (0 < n → ∃ ad, A = some ad ∧ ∀ j, j < n → w.cell? (ad.add j) = some (.int k (xs.getD j 0)))
theorem ReadsInt.at_ {w : World} {k : IntKind} {A : Option Addr} {n : Nat} {xs : List Int} (h : ReadsInt w k A n xs) (i : Int) (h0 : 0 ≤ i) (h1 : i < n) : ∃ ad, A = some ad ∧ w.cell? (ad.add i.toNat) = some (.int k (rd xs i)) := by
  obtain ⟨ad, e, hc⟩ := h.2.2 (by omega)
  exact ⟨ad, e, hc _ (by omega)⟩
theorem own_nil (W : World) (base : Nat) (e : TypeId) (size : Nat) : W.ownsRow base e size (.slice none 0 0) 0 [] := ⟨by simp, .inl ⟨rfl, rfl⟩⟩
theorem own_base {w : World} {base : Nat} {e : TypeId} {size n : Nat} {v : Value} {xs : List Value} (h : w.ownsRow base e size v n xs) (k : Nat) (hk : v.ownBlock = some k) : base ≤ k := by
  rcases h.2 with ⟨rfl, _⟩ | ⟨g, cap, cur, rfl, hb, _⟩
  · simp [Value.ownBlock] at hk
  · have : g = k := by simpa [Value.ownBlock] using hk
    omega
theorem own_lt {w : World} {base : Nat} {e : TypeId} {size n : Nat} {v : Value} {xs : List Value} (h : w.ownsRow base e size v n xs) (k : Nat) (hk : v.ownBlock = some k) : k < w.heap.size := by
  rcases h.2 with ⟨rfl, _⟩ | ⟨g, cap, cur, rfl, hb, hh, _⟩
  · simp [Value.ownBlock] at hk
  · have : g = k := by simpa [Value.ownBlock] using hk
    subst this
    exact (Array.getElem?_eq_some_iff.1 hh).1
theorem own_slice {w : World} {base n : Nat} {e : TypeId} {size : Nat} {v : Value} {xs : List Value} (h : w.ownsRow base e size v n xs) : ∃ A c, v = .slice A n c := by
  rcases h.2 with ⟨rfl, rfl⟩ | ⟨g, cap, cur, rfl, _⟩
  · exact ⟨none, 0, rfl⟩
  · exact ⟨_, cap, rfl⟩
def Reps {α : Type} (R : α → List Value → Prop) (size : Nat) (ps : List α) (cs : List Value) : Prop :=
  cs.length = ps.length * size ∧ ∀ j p, ps[j]? = some p → R p ((cs.drop (j * size)).take size)
theorem Reps.none {α : Type} (R : α → List Value → Prop) (size : Nat) : Reps R size [] [] := ⟨by simp, fun j p h => by simp at h⟩
theorem Reps.snoc {α : Type} {R : α → List Value → Prop} {size : Nat} {ps : List α} {cs c : List Value} {p : α} (h : Reps R size ps cs) (hp : R p c) (hc : c.length = size) : Reps R size (ps ++ [p]) (cs ++ c) := by
  refine ⟨by rw [List.length_append, h.1, hc, List.length_append, List.length_singleton, Nat.add_mul, Nat.one_mul], fun j q hq => ?_⟩
  rcases Nat.lt_or_ge j ps.length with hj | hj
  · rw [List.getElem?_append_left hj] at hq
    have h1 : j * size + size ≤ cs.length := by rw [h.1, ← Nat.succ_mul]; exact Nat.mul_le_mul_right _ hj
    have h2 := h.2 j q hq
    rw [List.drop_append_of_le_length (by omega), List.take_append_of_le_length (by rw [List.length_drop]; omega)]
    exact h2
  · have hj' : j = ps.length := by
      have := (List.getElem?_eq_some_iff.1 hq).1
      rw [List.length_append, List.length_singleton] at this
      omega
    subst hj'
    have hq' : p = q := by simpa using hq
    subst hq'
    rw [← h.1, List.drop_left, ← hc, List.take_length]
    exact hp
theorem Reps.imp_ {α : Type} {R R' : α → List Value → Prop} {size : Nat} {ps : List α} {cs : List Value} (h : Reps R size ps cs) (hR : ∀ p c, R p c → R' p c) : Reps R' size ps cs := ⟨h.1, fun j p hj => hR _ _ (h.2 j p hj)⟩
def ReadsRow {α : Type} (R : α → List Value → Prop) (size : Nat) (w : World) (A : Option Addr) (n : Nat) (ps : List α) : Prop :=
  ps.length = n ∧ n ≤ 9223372036854775807 ∧ (0 < n → ∃ ad, A = some ad ∧ ∀ j p, ps[j]? = some p → ∃ c, c.length = size ∧ R p c ∧ ∀ i u, c[i]? = some u → w.cell? (ad.add (j * size + i)) = some u)
theorem ReadsRow.imp_ {α : Type} {R R' : α → List Value → Prop} {size : Nat} {w w1 : World} {A : Option Addr} {n : Nat} {ps : List α} (h : ReadsRow R size w A n ps) (hb : Below w.heap.size w w1) (hR : ∀ p c, R p c → R' p c) : ReadsRow R' size w1 A n ps :=
  ⟨h.1, h.2.1, fun hn => by
    obtain ⟨ad, e, hc⟩ := h.2.2 hn
    refine ⟨ad, e, fun j p hj => ?_⟩
    obtain ⟨c, hs, hr, hcell⟩ := hc j p hj
    exact ⟨c, hs, hR _ _ hr, fun i u hu => pw_cell_below hb (hcell i u hu)⟩⟩
theorem own_reads_row {α : Type} {R : α → List Value → Prop} {w : World} {base n size : Nat} {e : TypeId} {v : Value} {ps : List α} {cs : List Value} (h : w.ownsRow base e size v n cs) (hR : Reps R size ps cs) (hn : ps.length = n) :
    ∃ A c, v = .slice A n c ∧ ReadsRow R size w A n ps := by
  rcases Nat.eq_zero_or_pos n with h0 | h0
  · rcases h.2 with ⟨rfl, rfl⟩ | ⟨g, cap, cur, rfl, _⟩
    · exact ⟨none, 0, rfl, hn, by omega, fun hp => absurd hp (by omega)⟩
    · exact ⟨_, cap, rfl, hn, by omega, fun hp => absurd hp (by omega)⟩
  · obtain ⟨g, cap, rfl, _, _⟩ := h.form h0
    have hm : n ≤ 9223372036854775807 := by
      rcases h.2 with ⟨_, h1⟩ | ⟨g', cap', cur, he, _, _, h1, h2, _⟩
      · omega
      · simp only [maxLen] at h2
        omega
    refine ⟨_, cap, rfl, hn, hm, fun _ => ⟨_, rfl, fun j p hj => ⟨(cs.drop (j * size)).take size, ?_, hR.2 j p hj, fun i u hu => ?_⟩⟩⟩
    · have hjl := (List.getElem?_eq_some_iff.1 hj).1
      have h1 : j * size + size ≤ cs.length := by rw [hR.1, ← Nat.succ_mul]; exact Nat.mul_le_mul_right _ hjl
      rw [List.length_take, List.length_drop]
      omega
    · refine h.cells (g := g) rfl _ u ?_
      rw [List.getElem?_take] at hu
      split at hu
      · rw [List.getElem?_drop] at hu
        exact hu
      · cases hu
section
variable {P : Program} {ops : Array Oper} {rest : List Oper} {o : Oper} {a : Act} {Q : Exit → Act → World → Prop}
theorem print_append_cells {w0 W : World} (base : Nat) (hgd : o.guard = none) (s x : Operand) (t e : TypeId) (z : Value) (size bytes : Nat)
    (ho : o.op = .call { callee := .builtin .append, args := #[s, x], argTypes := #[t, t] })
    (ht : P.underlying t = some (.slice e)) (hinfo : (P.info? e).map (fun i => (i.zero, i.size, i.bytes)) = some (some z, size, bytes)) (hz : z.cells.size = size) (hs0 : 0 < size) (hb0 : 0 < bytes)
    (v : Value) (n : Nat) (xs ys : List Value) (hs : a.eval s = v) (hx : a.eval x = .slice (some ⟨W.heap.size, 0, none⟩) 1 1) (hys : ys.length = size) (h1 : ∀ u ∈ ys, u.oneCell' = true)
    (HO : W.ownsRow base e size v n xs) (HB : Below base w0 W) (hbase : base ≤ W.heap.size) (hl : (n + 1) * bytes ≤ 140737488355328)
    (h : ∀ v1 w1, w1.ownsRow base e size v1 (n + 1) (xs ++ ys) → Below base w0 w1 → W.grownBy w1 v.ownBlock → (v1.ownBlock = v.ownBlock ∨ ∃ b, v1.ownBlock = some b ∧ W.heap.size ≤ b) → wpList P ops Q rest (a.put o.dst v1) w1) :
    wpList P ops Q (o :: rest) a (W.alloc (.cells ys.toArray e)) := by
  obtain ⟨i0, hi, hzz⟩ := Option.map_eq_some_iff.1 hinfo
  simp only [Prod.mk.injEq] at hzz
  obtain ⟨hz0, hz1, hz2⟩ := hzz
  have hlen : n + 1 ≤ 140737488355328 := Nat.le_trans (Nat.le_mul_of_pos_right _ hb0) hl
  refine wpList_append_own_at (W.alloc (.cells ys.toArray e)) hgd s x t ho base e i0 z size bytes ht hi hz0 hz1 hz2 hz hs0 v n xs hs (HO.alloc _) ⟨W.heap.size, 0, none⟩ 1 1 ys hx (by rw [hys]; simp)
    (by simpa using World.news_of_block (cs := ys.toArray) (t := e) (fr := (0, 0)) (heap_alloc_new W (.cells ys.toArray e))) h1 (by simp only [maxLen]; omega) hl (by simp; omega) ?_
  intro v1 w1 hown hg _ hat
  refine h v1 w1 hown ((HB.alloc hbase _).grown hg (by simp; omega) (own_base HO)) (World.grownBy.trans (World.grownBy_alloc W _ _) hg) ?_
  rcases hat with hat | hat
  · exact .inl hat
  · exact .inr ⟨_, hat, by simp⟩
end
theorem own_ne {w : World} {base : Nat} {e t : TypeId} {size n g : Nat} {v : Value} {xs : List Value} {cs : Array Value} (h : w.ownsRow base e size v n xs) (hg : w.heap[g]? = some (.cells cs t (0, 0))) (hne : e ≠ t) : some g ≠ v.ownBlock := by
  rcases h.2 with ⟨rfl, _⟩ | ⟨g', cap, cur, rfl, _, hh, _⟩
  · simp [Value.ownBlock]
  · intro he
    have : g = g' := by simpa [Value.ownBlock] using he
    subst this
    rw [hg] at hh
    injection hh with hh
    injection hh with _ ht
    exact hne ht.symm
theorem blk_set {w : World} {g : Nat} {t : TypeId} {cs : Array Value} (h : w.heap[g]? = some (.cells cs t (0, 0))) (i : Nat) (u : Value) : (w.setCell ⟨g, i, none⟩ u).heap[g]? = some (.cells (cs.setIfInBounds i u) t (0, 0)) := by
  simp [World.setCell, Array.getElem?_modify, h]
theorem blk_far {w : World} {g : Nat} {t : TypeId} {cs : Array Value} (h : w.heap[g]? = some (.cells cs t (0, 0))) {p : Addr} (hp : g ≠ p.block) (u : Value) : (w.setCell p u).heap[g]? = some (.cells cs t (0, 0)) := (Below.heap_setCell w p u g hp).trans h
theorem blk_lt {w : World} {g : Nat} {o : Obj} (h : w.heap[g]? = some o) : g < w.heap.size := (Array.getElem?_eq_some_iff.1 h).1
theorem blk_cell {w : World} {g : Nat} {t : TypeId} {cs : Array Value} (h : w.heap[g]? = some (.cells cs t (0, 0))) (i : Nat) : w.cell? ⟨g, i, none⟩ = cs[i]? := cell_of_row w g i cs t (0, 0) h
theorem blk_frozen {w : World} {g : Nat} {t : TypeId} {cs : Array Value} (h : w.heap[g]? = some (.cells cs t (0, 0))) (i : Nat) : w.frozen? ⟨g, i, none⟩ = false := by simp [World.frozen?, h]
theorem blk_grown {w w1 : World} {g : Nat} {o : Obj} {row : Option Nat} (h : w.heap[g]? = some o) (hg : w.grownBy w1 row) (hne : some g ≠ row) : w1.heap[g]? = some o := (hg.block g (blk_lt h) hne).trans h
def KeepBut (w w' : World) (g : Nat) (row : Option Nat) : Prop := w.heap.size ≤ w'.heap.size ∧ ∀ i, i < w.heap.size → i ≠ g → some i ≠ row → w'.heap[i]? = w.heap[i]?
theorem KeepBut.refl (w : World) (g : Nat) (row : Option Nat) : KeepBut w w g row := ⟨Nat.le_refl _, fun _ _ _ _ => rfl⟩
theorem KeepBut.of_grown {w w1 : World} {row : Option Nat} (h : w.grownBy w1 row) (g : Nat) : KeepBut w w1 g row := ⟨h.size, fun i hi _ hr => h.block i hi hr⟩
theorem KeepBut.of_below {w w1 : World} (h : Below w.heap.size w w1) (g : Nat) (row : Option Nat) : KeepBut w w1 g row := ⟨h.size, fun i hi _ _ => h.block i hi⟩
theorem KeepBut.set_ {w w1 : World} {g : Nat} {row : Option Nat} (h : KeepBut w w1 g row) (j : Nat) (u : Value) : KeepBut w (w1.setCell ⟨g, j, none⟩ u) g row :=
  ⟨by simpa [World.setCell] using h.1, fun i hi hg hr => (Below.heap_setCell w1 ⟨g, j, none⟩ u i hg).trans (h.2 i hi hg hr)⟩
theorem KeepBut.trans {w w1 w2 : World} {g : Nat} {row row1 : Option Nat} (h : KeepBut w w1 g row) (k : KeepBut w1 w2 g row1) (hr : row1 = row ∨ ∃ b, row1 = some b ∧ w.heap.size ≤ b) : KeepBut w w2 g row :=
  ⟨Nat.le_trans h.1 k.1, fun i hi hg hn => by
    refine (k.2 i (Nat.lt_of_lt_of_le hi h.1) hg ?_).trans (h.2 i hi hg hn)
    rcases hr with rfl | ⟨b, rfl, hb⟩
    · exact hn
    · intro e
      injection e with e
      omega⟩
theorem KeepBut.blk {w w1 : World} {g g' : Nat} {row : Option Nat} {o : Obj} (h : KeepBut w w1 g row) (hb : w.heap[g']? = some o) (hg : g' ≠ g) (hr : some g' ≠ row) : w1.heap[g']? = some o := (h.2 g' (blk_lt hb) hg hr).trans hb
def Ev {α : Type} (g : Nat → Option α) (r : α) : Prop := ∃ K, ∀ k, K ≤ k → g k = some r
theorem Ev.now {α : Type} (r : α) : Ev (fun _ => some r) r := ⟨0, fun _ _ => rfl⟩
theorem Ev.bind {α β : Type} {g : Nat → Option α} {f : Nat → α → Option β} {a : α} {r : β} (h : Ev g a) (k : Ev (fun n => f n a) r) : Ev (fun n => (g n).bind (f n)) r := by
  obtain ⟨K, h⟩ := h
  obtain ⟨K', k⟩ := k
  refine ⟨max K K', fun n hn => ?_⟩
  have h1 := h n (by omega)
  have h2 := k n (by omega)
  simp only [h1, Option.bind_some]
  exact h2
theorem Ev.step {α : Type} {g f : Nat → Option α} {r : α} (h : ∀ k, g (k + 1) = f k) (k : Ev f r) : Ev g r := by
  obtain ⟨K, k⟩ := k
  refine ⟨K + 1, fun n hn => ?_⟩
  obtain ⟨m, rfl⟩ : ∃ m, n = m + 1 := ⟨n - 1, by omega⟩
  rw [h]
  exact k m (by omega)
theorem own_weaken {w : World} {base base' : Nat} {e : TypeId} {size n : Nat} {v : Value} {xs : List Value} (h : w.ownsRow base e size v n xs) (hb : base' ≤ base) : w.ownsRow base' e size v n xs := by
  obtain ⟨h1, h2⟩ := h
  refine ⟨h1, ?_⟩
  rcases h2 with h2 | ⟨g, cap, cur, rfl, hg, r⟩
  · exact .inl h2
  · exact .inr ⟨g, cap, cur, rfl, Nat.le_trans hb hg, r⟩
section
variable {α : Type} {enc : α → Value} {d : α}
def encs (enc : α → Value) (xs : List α) : List Value := xs.map enc
def rdOf (d : α) (xs : List α) (i : Int) : α := xs.getD i.toNat d
theorem encs_length (xs : List α) : (encs enc xs).length = xs.length := by simp [encs]
theorem encs_get (xs : List α) (j : Nat) (h : j < xs.length) : (encs enc xs)[j]? = some (enc (xs.getD j d)) := by
  simp [encs, List.getElem?_eq_getElem h, List.getD_eq_getElem?_getD]
def ReadsOf (enc : α → Value) (d : α) (w : World) (A : Option Addr) (n : Nat) (xs : List α) : Prop :=
  xs.length = n ∧ n ≤ 9223372036854775807 ∧ (0 < n → ∃ ad, A = some ad ∧ ∀ j, j < n → w.cell? (ad.add j) = some (enc (xs.getD j d)))
theorem ReadsOf.at_ {w : World} {A : Option Addr} {n : Nat} {xs : List α} (h : ReadsOf enc d w A n xs) (i : Int) (h0 : 0 ≤ i) (h1 : i < n) : ∃ ad, A = some ad ∧ w.cell? (ad.add i.toNat) = some (enc (rdOf d xs i)) := by
  obtain ⟨ad, e, hc⟩ := h.2.2 (by omega)
  exact ⟨ad, e, hc _ (by omega)⟩
theorem print_make_of {P : Program} (t e : TypeId) (z : Value) (bytes : Nat) (ht : P.underlying t = some (.slice e)) (hinfo : (P.info? e).map (fun i => (i.zero, i.size, i.bytes)) = some (some z, 1, bytes)) (hz : z.cells = #[z]) (hb0 : 0 < bytes)
    (m : Nat) (hn : m * bytes ≤ 281474976710656) :
    ∀ W : World, (Instr.makeSlice t (.int .i64 (m : Int)) (.int .i64 (m : Int))).run P W = .ok (.slice (some ⟨W.heap.size, 0, none⟩) m m) (W.alloc (.cells (madeCells #[z] m) e)) := by
  intro W
  have hm : m ≤ 281474976710656 := Nat.le_trans (Nat.le_mul_of_pos_right _ hb0) hn
  exact run_make_row' t e z bytes ht hinfo hz .i64 .i64 m (by rw [Nat.mul_comm]; exact hn) (by omega) W
theorem own_at_of {W : World} {base g n cap : Nat} {e : TypeId} {xs : List α} (h : W.ownsRow base e 1 (.slice (some ⟨g, 0, none⟩) n cap) n (encs enc xs)) (i : Int) (h0 : 0 ≤ i) (h1 : i < n) :
    W.cell? ⟨g, i.toNat, none⟩ = some (enc (rdOf d xs i)) ∧ W.frozen? ⟨g, i.toNat, none⟩ = false := by
  have hl : xs.length = n := by have := h.1; simp [encs] at this; exact this
  constructor
  · have hc := h.cells (g := g) rfl i.toNat _ (encs_get (d := d) xs i.toNat (by omega))
    rwa [add_plain] at hc
  · rcases h.2 with ⟨h', _⟩ | ⟨g', cap', cur, h', _, hh, _⟩
    · cases h'
    · have : g = g' := by injection h' with h'; injection h' with h'; injection h' with h'
      subst this
      simp [World.frozen?, hh]
theorem own_store_of {W : World} {base g n cap : Nat} {e : TypeId} {xs : List α} (h : W.ownsRow base e 1 (.slice (some ⟨g, 0, none⟩) n cap) n (encs enc xs)) (i : Int) (x : α) :
    (W.setCell ⟨g, i.toNat, none⟩ (enc x)).ownsRow base e 1 (.slice (some ⟨g, 0, none⟩) n cap) n (encs enc (xs.set i.toNat x)) ∧ W.grownBy (W.setCell ⟨g, i.toNat, none⟩ (enc x)) (some g) := by
  have hs := h.stored i.toNat (enc x)
  have he : (encs enc xs).set i.toNat (enc x) = encs enc (xs.set i.toNat x) := by simp [encs, List.map_set]
  rwa [he] at hs
end
theorem blk_alloc {w : World} {g : Nat} {o : Obj} (h : w.heap[g]? = some o) (o' : Obj) : (w.alloc o').heap[g]? = some o := (Below.heap_alloc w o' g (blk_lt h)).trans h
theorem blk_drew {w : World} {g : Nat} {o : Obj} (h : w.heap[g]? = some o) : w.drew.heap[g]? = some o := h
theorem blk_drewN {w : World} {g : Nat} {o : Obj} (h : w.heap[g]? = some o) (n : Nat) : (w.drewN n).heap[g]? = some o := h
theorem blk_below {w w1 : World} {g : Nat} {o : Obj} (h : w.heap[g]? = some o) (hb : Below w.heap.size w w1) : w1.heap[g]? = some o := (hb.block g (blk_lt h)).trans h
theorem blk_new (w : World) (o : Obj) : (w.alloc o).heap[w.heap.size]? = some o := heap_alloc_new w o
theorem own_le {w : World} {base n m c size : Nat} {e : TypeId} {A : Option Addr} {xs : List Value} (h : w.ownsRow base e size (.slice A m c) n xs) : m ≤ c := by
  rcases h.2 with ⟨he, _⟩ | ⟨g, cap, cur, he, _, _, hnc, _⟩
  · injection he with _ h2 h3
    omega
  · injection he with _ h2 h3
    omega
def OwnRow {α : Type} (R : α → List Value → Prop) (e : TypeId) (size : Nat) (w : World) (base : Nat) (v : Value) (ps : List α) : Prop :=
  ∃ inner, w.ownsRow base e size v ps.length inner ∧ Reps R size ps inner
section
variable {α : Type} {R R' : α → List Value → Prop} {e : TypeId} {size : Nat} {w w1 : World} {base : Nat} {v : Value} {ps : List α}
theorem OwnRow.none_ (R : α → List Value → Prop) (e : TypeId) (size : Nat) (w : World) (base : Nat) : OwnRow R e size w base (.slice none 0 0) [] := ⟨[], own_nil _ _ _ _, Reps.none _ _⟩
theorem OwnRow.imp_ (h : OwnRow R e size w base v ps) (hR : ∀ p c, R p c → R' p c) : OwnRow R' e size w base v ps := by
  obtain ⟨inner, ho, hr⟩ := h
  exact ⟨inner, ho, hr.imp_ hR⟩
theorem OwnRow.reads (h : OwnRow R e size w base v ps) : ∃ A c, v = .slice A ps.length c ∧ ps.length ≤ c ∧ ReadsRow R size w A ps.length ps := by
  obtain ⟨inner, ho, hr⟩ := h
  obtain ⟨A, c, rfl, hrow⟩ := own_reads_row ho hr rfl
  exact ⟨A, c, rfl, own_le ho, hrow⟩
theorem OwnRow.ne_block (h : OwnRow R e size w base v ps) {g : Nat} {t : TypeId} {cells : Array Value} (hb : w.heap[g]? = some (.cells cells t (0, 0))) (ht : e ≠ t) : some g ≠ v.ownBlock := by
  obtain ⟨inner, ho, hr⟩ := h
  exact own_ne ho hb ht
end
theorem ReadsRow.inner_ {α : Type} {R : α → List Value → Prop} {size : Nat} {w : World} {ad : Addr} {n : Nat} {ps : List α} (h : ReadsRow R size w (some ad) n ps) :
    ∃ inner, Reps R size ps inner ∧ ∀ j u, inner[j]? = some u → w.cell? (ad.add j) = some u := by
  have key : ∀ m, m ≤ ps.length → ∃ inner, Reps R size (ps.take m) inner ∧ ∀ j u, inner[j]? = some u → w.cell? (ad.add j) = some u := by
    intro m
    induction m with
    | zero => exact fun _ => ⟨[], Reps.none _ _, fun j u hu => by simp at hu⟩
    | succ m ih =>
      intro hm
      obtain ⟨inner, hr, hc⟩ := ih (by omega)
      obtain ⟨ad', he, hcell⟩ := h.2.2 (by have := h.1; omega)
      injection he with he
      subst he
      obtain ⟨c, hcl, hp, hcc⟩ := hcell m _ (List.getElem?_eq_getElem (show m < ps.length by omega))
      refine ⟨inner ++ c, ?_, fun j u hu => ?_⟩
      · rw [List.take_succ_eq_append_getElem (show m < ps.length by omega)]
        exact hr.snoc hp hcl
      · have hil : inner.length = m * size := by rw [hr.1, List.length_take, Nat.min_eq_left (by omega)]
        rcases Nat.lt_or_ge j inner.length with hj | hj
        · rw [List.getElem?_append_left hj] at hu
          exact hc j u hu
        · rw [List.getElem?_append_right hj] at hu
          have := hcc (j - inner.length) u hu
          rwa [hil, Nat.add_sub_cancel' (by omega)] at this
  obtain ⟨inner, hr, hc⟩ := key ps.length (Nat.le_refl _)
  rw [List.take_length] at hr
  exact ⟨inner, hr, hc⟩
structure Kd (α : Type) where
  sz : Nat
  E : List Nat
  K : World → α → List Value → Prop
  M : World → Nat → (Nat → Prop) → α → List Value → Prop
  K_len : ∀ {w x cs}, K w x cs → cs.length = sz
  K_one : ∀ {w x cs}, K w x cs → ∀ u ∈ cs, u.oneCell' = true
  K_below : ∀ {w w1 : World} {x cs}, Below w.heap.size w w1 → K w x cs → K w1 x cs
  K_of_M : ∀ {w base ok x cs}, M w base ok x cs → K w x cs
  M_mono : ∀ {w base ok ok' x cs}, (∀ k, ok k → ok' k) → M w base ok x cs → M w base ok' x cs
  M_bound : ∀ {w : World} {base ok x cs}, M w base ok x cs → M w base (fun k => ok k ∧ base ≤ k ∧ k < w.heap.size ∧ ∃ q, q ∈ E ∧ ∃ cells, w.heap[k]? = some (.cells cells q (0, 0))) x cs
  M_move : ∀ {w w1 : World} {base ok x cs}, (∀ k, ok k → w1.heap[k]? = w.heap[k]?) → M w base ok x cs → M w1 base ok x cs
  M_lower : ∀ {w base base' ok x cs}, base' ≤ base → M w base ok x cs → M w base' ok x cs
theorem own_move {w w1 : World} {base : Nat} {e : TypeId} {size n : Nat} {v : Value} {xs : List Value} (h : w.ownsRow base e size v n xs) (hm : ∀ k, v.ownBlock = some k → w1.heap[k]? = w.heap[k]?) : w1.ownsRow base e size v n xs := by
  obtain ⟨h1, h2⟩ := h
  refine ⟨h1, ?_⟩
  rcases h2 with h2 | ⟨g, cap, cur, rfl, hg, hh, r⟩
  · exact .inl h2
  · exact .inr ⟨g, cap, cur, rfl, hg, (hm g (by simp [Value.ownBlock])).trans hh, r⟩
theorem own_typed {w : World} {base : Nat} {e : TypeId} {size n : Nat} {v : Value} {xs : List Value} (h : w.ownsRow base e size v n xs) (k : Nat) (hk : v.ownBlock = some k) : ∃ cells, w.heap[k]? = some (.cells cells e (0, 0)) := by
  rcases h.2 with ⟨rfl, _⟩ | ⟨g, cap, cur, rfl, hg, hh, r⟩
  · simp [Value.ownBlock] at hk
  · have : g = k := by simpa [Value.ownBlock] using hk
    subst this
    exact ⟨cur, hh⟩
namespace Kd
def C {α : Type} (d : Kd α) (w : World) (A : Option Addr) (n : Nat) (xs : List α) : Prop := ReadsRow (d.K w) d.sz w A n xs
def R {α : Type} (d : Kd α) (e : Nat) (w : World) (base : Nat) (ok : Nat → Prop) (v : Value) (xs : List α) : Prop :=
  (∀ k, v.ownBlock = some k → ok k) ∧ OwnRow (d.M w base (fun k => ok k ∧ some k ≠ v.ownBlock)) e d.sz w base v xs
section
variable {α : Type} {d : Kd α} {e : Nat} {w w1 : World} {base : Nat} {ok ok' : Nat → Prop} {v : Value} {xs : List α}
theorem C_below {A : Option Addr} {n : Nat} (h : d.C w A n xs) (hb : Below w.heap.size w w1) : d.C w1 A n xs := ReadsRow.imp_ h hb (fun _ _ hp => d.K_below hb hp)
theorem R_nil (d : Kd α) (e : Nat) (w : World) (base : Nat) (ok : Nat → Prop) : d.R e w base ok (.slice none 0 0) [] := ⟨fun k hk => by simp [Value.ownBlock] at hk, OwnRow.none_ _ _ _ _ _⟩
theorem R_mono (h : d.R e w base ok v xs) (hok : ∀ k, ok k → ok' k) : d.R e w base ok' v xs := ⟨fun k hk => hok k (h.1 k hk), h.2.imp_ (fun _ _ hp => d.M_mono (fun k hk => ⟨hok k hk.1, hk.2⟩) hp)⟩
theorem R_bound (h : d.R e w base ok v xs) : d.R e w base (fun k => ok k ∧ base ≤ k ∧ k < w.heap.size ∧ ∃ q, q ∈ e :: d.E ∧ ∃ cells, w.heap[k]? = some (.cells cells q (0, 0))) v xs := by
  obtain ⟨h0, inner, ho, hr⟩ := h
  refine ⟨fun k hk => ?_, inner, ho, hr.imp_ (fun _ _ hp => d.M_mono (fun k hk => ?_) (d.M_bound hp))⟩
  · obtain ⟨cells, hc⟩ := own_typed ho k hk
    exact ⟨h0 k hk, own_base ho k hk, own_lt ho k hk, e, List.mem_cons_self, cells, hc⟩
  · obtain ⟨⟨h1, h2⟩, h3, h4, q, hq, hc⟩ := hk
    exact ⟨⟨h1, h3, h4, q, List.mem_cons_of_mem _ hq, hc⟩, h2⟩
theorem R_move (h : d.R e w base ok v xs) (hm : ∀ k, ok k → w1.heap[k]? = w.heap[k]?) : d.R e w1 base ok v xs := by
  obtain ⟨h0, inner, ho, hr⟩ := h
  exact ⟨h0, inner, own_move ho (fun k hk => hm k (h0 k hk)), hr.imp_ (fun _ _ hp => d.M_move (fun k hk => hm k hk.1) hp)⟩
theorem R_lower {base' : Nat} (h : d.R e w base ok v xs) (hb : base' ≤ base) : d.R e w base' ok v xs := by
  obtain ⟨h0, inner, ho, hr⟩ := h
  exact ⟨h0, inner, own_weaken ho hb, hr.imp_ (fun _ _ hp => d.M_lower hb hp)⟩
theorem R_step (h : d.R e w base ok v xs) (hm : ∀ k, ok k → k < w.heap.size → w1.heap[k]? = w.heap[k]?) : d.R e w1 base ok v xs :=
  R_mono (R_move (R_bound h) (fun k hk => hm k hk.1 hk.2.2.1)) (fun _ hk => hk.1)
theorem M_step {x : α} {cs : List Value} (h : d.M w base ok x cs) (hm : ∀ k, ok k → k < w.heap.size → w1.heap[k]? = w.heap[k]?) : d.M w1 base ok x cs :=
  d.M_mono (fun _ hk => hk.1) (d.M_move (fun k hk => hm k hk.1 hk.2.2.1) (d.M_bound h))
theorem R_below (h : d.R e w base ok v xs) (hb : Below w.heap.size w w1) : d.R e w1 base ok v xs := R_step h (fun k _ hk => hb.block k hk)
theorem M_below {x : α} {cs : List Value} (h : d.M w base ok x cs) (hb : Below w.heap.size w w1) : d.M w1 base ok x cs := M_step h (fun k _ hk => hb.block k hk)
theorem R_far (h : d.R e w base ok v xs) {p : Addr} (hok : ∀ k, ok k → k ≠ p.block) (u : Value) : d.R e (w.setCell p u) base ok v xs := R_step h (fun k ho _ => Below.heap_setCell w p u k (hok k ho))
theorem R_keep (h : d.R e w base ok v xs) {g : Nat} (hk : KeepBut w w1 g none) (hok : ∀ k, ok k → k ≠ g) : d.R e w1 base ok v xs := R_step h (fun k ho hlt => hk.2 k hlt (hok k ho) (by simp))
theorem R_types (h : d.R e w base ok v xs) {g t : Nat} {cells : Array Value} (hb : w.heap[g]? = some (.cells cells t (0, 0))) (ht : ∀ q, q ∈ e :: d.E → q ≠ t) : d.R e w base (fun k => ok k ∧ k ≠ g) v xs :=
  R_mono (R_bound h) (fun k hk => ⟨hk.1, by
    obtain ⟨_, _, _, q, hq, cells', hc⟩ := hk
    rintro rfl
    rw [hc] at hb
    injection hb with hb
    injection hb with _ hb
    exact ht q hq hb⟩)
theorem R_reads (h : d.R e w base ok v xs) : ∃ A c, v = .slice A xs.length c ∧ xs.length ≤ c ∧ d.C w A xs.length xs := by
  obtain ⟨A, c, he, hl, hr⟩ := OwnRow.reads h.2
  exact ⟨A, c, he, hl, hr.imp_ (Below.refl _ _) (fun _ _ hp => d.K_of_M hp)⟩
theorem R_slice (h : d.R e w base ok v xs) : ∃ A c, v = .slice A xs.length c := by
  obtain ⟨A, c, he, _⟩ := R_reads h
  exact ⟨A, c, he⟩
theorem R_own (h : d.R e w base ok v xs) : ∃ inner, w.ownsRow base e d.sz v xs.length inner := by
  obtain ⟨_, inner, ho, _⟩ := h
  exact ⟨inner, ho⟩
theorem R_ne (h : d.R e w base ok v xs) {g t : Nat} {cells : Array Value} (hb : w.heap[g]? = some (.cells cells t (0, 0))) (ht : e ≠ t) : some g ≠ v.ownBlock := OwnRow.ne_block h.2 hb ht
end
def scalar {α : Type} (enc : α → Value) (h1 : ∀ x, (enc x).oneCell' = true) : Kd α where
  sz := 1
  E := []
  K := fun _ x cs => cs = [enc x]
  M := fun _ _ _ x cs => cs = [enc x]
  K_len := fun h => by rw [h]; rfl
  K_one := fun h u hu => by
    rw [h] at hu
    rw [List.mem_singleton.1 hu]
    exact h1 _
  K_below := fun _ h => h
  K_of_M := fun h => h
  M_mono := fun _ h => h
  M_bound := fun h => h
  M_move := fun _ h => h
  M_lower := fun _ h => h
def int (k : IntKind) : Kd Int := scalar (Value.int k) (fun _ => rfl)
def bool : Kd Bool := scalar Value.bool (fun _ => rfl)
def bot {α : Type} (sz : Nat) (E : List Nat) : Kd α where
  sz := sz
  E := E
  K := fun _ _ _ => False
  M := fun _ _ _ _ _ => False
  K_len := fun h => h.elim
  K_one := fun h => h.elim
  K_below := fun _ h => h
  K_of_M := fun h => h
  M_mono := fun _ h => h
  M_bound := fun h => h
  M_move := fun _ h => h
  M_lower := fun _ h => h
def upto {α : Type} (F : Kd α → Kd α) (sz : Nat) (E : List Nat) : Nat → Kd α
  | 0 => bot sz E
  | n + 1 => F (upto F sz E n)
theorem R_appended {α : Type} {d : Kd α} {e base : Nat} {ok okp : Nat → Prop} {W w1 : World} {v v1 : Value} {xs : List α} {p : α} {inner cs : List Value} (h0 : ∀ k, v.ownBlock = some k → ok k) (hr : Reps (d.M W base (fun k => ok k ∧ some k ≠ v.ownBlock)) d.sz xs inner) (hp : d.M W base okp p cs) (hokp : ∀ k, okp k → ok k ∧ some k ≠ v.ownBlock) (hfresh : ∀ k, W.heap.size ≤ k → ok k)
    (hown : w1.ownsRow base e d.sz v1 (xs.length + 1) (inner ++ cs)) (hg : W.grownBy w1 v.ownBlock) (hat : v1.ownBlock = v.ownBlock ∨ ∃ b, v1.ownBlock = some b ∧ W.heap.size ≤ b) : d.R e w1 base ok v1 (xs ++ [p]) := by
  have hne : ∀ k, some k ≠ v.ownBlock → k < W.heap.size → some k ≠ v1.ownBlock := by
    intro k hk hlt
    rcases hat with hat | ⟨b, hb, hle⟩
    · rw [hat]; exact hk
    · rw [hb]
      intro he
      injection he with he
      omega
  have step : ∀ {q : α} {c : List Value} {o : Nat → Prop}, d.M W base o q c → (∀ k, o k → ok k ∧ some k ≠ v.ownBlock) → d.M w1 base (fun k => ok k ∧ some k ≠ v1.ownBlock) q c := by
    intro q c o hq ho
    have h1 := d.M_move (w1 := w1) (fun k hk => hg.block k hk.2.2.1 (ho k hk.1).2) (d.M_bound hq)
    exact d.M_mono (fun k hk => ⟨(ho k hk.1).1, hne k (ho k hk.1).2 hk.2.2.1⟩) h1
  refine ⟨fun k hk => ?_, inner ++ cs, by rw [List.length_append, List.length_singleton]; exact hown, ?_⟩
  · rcases hat with hat | ⟨b, hb, hle⟩
    · exact h0 k (hat ▸ hk)
    · rw [hb] at hk
      injection hk with hk
      exact hfresh k (by omega)
  · exact (hr.imp_ (fun _ _ hq => step hq (fun _ hk => hk))).snoc (step hp hokp) (d.K_len (d.K_of_M hp))
section
variable {P : Program} {ops : Array Oper} {rest : List Oper} {o : Oper} {a : Act} {Q : Exit → Act → World → Prop} {α : Type}
theorem R_append (d : Kd α) {w0 W : World} (base : Nat) (hgd : o.guard = none) (s x : Operand) (t e : TypeId) (z : Value) (bytes : Nat)
    (ho : o.op = .call { callee := .builtin .append, args := #[s, x], argTypes := #[t, t] })
    (ht : P.underlying t = some (.slice e)) (hinfo : (P.info? e).map (fun i => (i.zero, i.size, i.bytes)) = some (some z, d.sz, bytes)) (hz : z.cells.size = d.sz) (hs0 : 0 < d.sz) (hb0 : 0 < bytes)
    (v : Value) (xs : List α) (p : α) (cs : List Value) (ok okp : Nat → Prop) (hs : a.eval s = v) (hx : a.eval x = .slice (some ⟨W.heap.size, 0, none⟩) 1 1) (hp : d.M W base okp p cs) (hokp : ∀ k, okp k → ok k ∧ some k ≠ v.ownBlock) (hfresh : ∀ k, W.heap.size ≤ k → ok k)
    (HO : d.R e W base ok v xs) (HB : Below base w0 W) (hbase : base ≤ W.heap.size) (hl : (xs.length + 1) * bytes ≤ 140737488355328)
    (h : ∀ v1 w1, d.R e w1 base ok v1 (xs ++ [p]) → Below base w0 w1 → W.grownBy w1 v.ownBlock → (v1.ownBlock = v.ownBlock ∨ ∃ b, v1.ownBlock = some b ∧ W.heap.size ≤ b) → wpList P ops Q rest (a.put o.dst v1) w1) :
    wpList P ops Q (o :: rest) a (W.alloc (.cells cs.toArray e)) := by
  obtain ⟨h0, inner, hown, hr⟩ := HO
  refine print_append_cells base hgd s x t e z d.sz bytes ho ht hinfo hz hs0 hb0 v xs.length inner cs hs hx (d.K_len (d.K_of_M hp)) (d.K_one (d.K_of_M hp)) hown HB hbase hl ?_
  intro v1 w1 hown1 hb1 hg1 hat1
  exact h v1 w1 (R_appended h0 hr hp hokp hfresh hown1 hg1 hat1) hb1 hg1 hat1
end
theorem reps_scalar {α : Type} {enc : α → Value} (xs : List α) : Reps (fun (x : α) (cs : List Value) => cs = [enc x]) 1 xs (encs enc xs) := by
  refine ⟨by simp [encs], fun j p hj => ?_⟩
  obtain ⟨hl, hp⟩ := List.getElem?_eq_some_iff.1 hj
  have hl' : j < (encs enc xs).length := by rw [encs_length]; exact hl
  rw [Nat.mul_one, List.drop_eq_getElem_cons hl']
  simp [encs, hp]
theorem R_of_own {α : Type} {enc : α → Value} {h1 : ∀ x, (enc x).oneCell' = true} {e : Nat} {w : World} {base : Nat} {ok : Nat → Prop} {v : Value} {xs : List α} (ho : w.ownsRow base e 1 v xs.length (encs enc xs)) (hok : ∀ k, v.ownBlock = some k → ok k) : (scalar enc h1).R e w base ok v xs := ⟨hok, encs enc xs, ho, reps_scalar xs⟩
theorem own_of_R {α : Type} {enc : α → Value} {h1 : ∀ x, (enc x).oneCell' = true} {e : Nat} {w : World} {base : Nat} {ok : Nat → Prop} {v : Value} {xs : List α} (h : (scalar enc h1).R e w base ok v xs) : w.ownsRow base e 1 v xs.length (encs enc xs) := by
  obtain ⟨_, inner, ho, hr⟩ := h
  have : inner = encs enc xs := by
    apply List.ext_getElem?
    intro j
    rcases Nat.lt_or_ge j xs.length with hj | hj
    · have h2 := hr.2 j _ (List.getElem?_eq_getElem hj)
      have hl : j < inner.length := by have := hr.1; simp [scalar] at this; omega
      have h3 : (inner.drop (j * 1)).take 1 = [enc xs[j]] := h2
      rw [Nat.mul_one, List.drop_eq_getElem_cons hl] at h3
      have h4 : inner[j] = enc xs[j] := by
        have h5 := congrArg List.head? h3
        rw [List.take_succ_cons] at h5
        exact Option.some.inj h5
      rw [List.getElem?_eq_getElem hl, h4]
      simp [encs, List.getElem?_eq_getElem hj]
    · have h3 : inner.length = xs.length := by have := hr.1; simp [scalar] at this; omega
      rw [List.getElem?_eq_none (by omega), List.getElem?_eq_none (by rw [encs_length]; omega)]
  rw [← this]
  exact ho
theorem C_of_reads {α : Type} {enc : α → Value} {d : α} {h1 : ∀ x, (enc x).oneCell' = true} {w : World} {A : Option Addr} {n : Nat} {xs : List α} (h : ReadsOf enc d w A n xs) : (scalar enc h1).C w A n xs := by
  refine ⟨h.1, h.2.1, fun hn => ?_⟩
  obtain ⟨ad, e, hc⟩ := h.2.2 hn
  refine ⟨ad, e, fun j p hj => ⟨[enc p], rfl, rfl, fun i u hu => ?_⟩⟩
  obtain ⟨hl, hp⟩ := List.getElem?_eq_some_iff.1 hj
  have h2 := hc j (by have := h.1; omega)
  rw [List.getD_eq_getElem?_getD, hj] at h2
  cases i with
  | zero =>
    have : enc p = u := by simpa using hu
    subst this
    simpa [scalar] using h2
  | succ i => simp at hu
theorem reads_of_C {α : Type} {enc : α → Value} {d : α} {h1 : ∀ x, (enc x).oneCell' = true} {w : World} {A : Option Addr} {n : Nat} {xs : List α} (h : (scalar enc h1).C w A n xs) : ReadsOf enc d w A n xs := by
  refine ⟨h.1, h.2.1, fun hn => ?_⟩
  obtain ⟨ad, e, hc⟩ := h.2.2 hn
  refine ⟨ad, e, fun j hj => ?_⟩
  have hl : j < xs.length := by have := h.1; omega
  obtain ⟨c, _, hK, hcell⟩ := hc j _ (List.getElem?_eq_getElem hl)
  have hK' : c = [enc xs[j]] := hK
  subst hK'
  have := hcell 0 _ rfl
  simpa [scalar, List.getD_eq_getElem?_getD, List.getElem?_eq_getElem hl] using this
end Kd
namespace Kd
def Sub {α β : Type} (F : Kd α → Kd β) (E : List Nat) : Prop := ∀ d : Kd α, (∀ q, q ∈ d.E → q ∈ E) → ∀ q, q ∈ (F d).E → q ∈ E
end Kd
namespace Kd
theorem R_after {α : Type} {d : Kd α} {e base : Nat} {ok : Nat → Prop} {W w1 : World} {u v v1 : Value} {xs : List α} (h : d.R e W base (fun k => ok k ∧ some k ≠ v.ownBlock) u xs) (hg : W.grownBy w1 v.ownBlock) (hat : v1.ownBlock = v.ownBlock ∨ ∃ b, v1.ownBlock = some b ∧ W.heap.size ≤ b) : d.R e w1 base (fun k => ok k ∧ some k ≠ v1.ownBlock) u xs := by
  refine R_mono (R_move (R_bound h) (fun k hk => hg.block k hk.2.2.1 hk.1.2)) (fun k hk => ⟨hk.1.1, ?_⟩)
  rcases hat with hat | ⟨b, hb, hle⟩
  · rw [hat]; exact hk.1.2
  · rw [hb]
    intro he
    injection he with he
    have := hk.2.2.1
    omega
end Kd
namespace Kd
section
variable {α β : Type} {d : Kd α} {d' : Kd β} {e e' : Nat} {w w1 W : World} {base b b' : Nat} {ok ok' okv oku : Nat → Prop} {v u : Value} {xs : List α} {ys : List β}
theorem R_drew (h : d.R e w base ok v xs) : d.R e w.drew base ok v xs := R_below h (below_drew (Below.refl _ _))
theorem C_alloc {A : Option Addr} {n : Nat} (h : d.C w A n xs) (o : Obj) : d.C (w.alloc o) A n xs := C_below h (below_alloc (Below.refl _ _) o)
theorem C_nil (d : Kd α) (w : World) : d.C w none ([] : List α).length [] := ⟨rfl, by simp, fun h => absurd h (Nat.lt_irrefl 0)⟩
theorem R_reads' {A : Option Addr} {n c : Nat} (h : d.R e w base ok (.slice A n c) xs) : n = xs.length ∧ n ≤ c ∧ d.C w A xs.length xs := by
  obtain ⟨A', c', he, hl, hr⟩ := R_reads h
  injection he with h1 h2 h3
  subst h1
  exact ⟨h2, by omega, hr⟩
theorem R_lt (h : d.R e w base ok v xs) : ∀ k, v.ownBlock = some k → k < w.heap.size := by
  obtain ⟨inner, ho⟩ := R_own h
  exact own_lt ho
theorem R_base (h : d.R e w base ok v xs) : ∀ k, v.ownBlock = some k → base ≤ k := by
  obtain ⟨inner, ho⟩ := R_own h
  exact own_base ho
theorem R_form (h : d.R e w base ok v xs) (hp : 0 < xs.length) : ∃ g cap, v = .slice (some ⟨g, 0, none⟩) xs.length cap ∧ base ≤ g ∧ g < w.heap.size ∧ ∃ cells, w.heap[g]? = some (.cells cells e (0, 0)) := by
  obtain ⟨inner, ho⟩ := R_own h
  obtain ⟨g, cap, he, hb, hl⟩ := ho.form hp
  obtain ⟨cells, hc⟩ := own_typed ho g (by rw [he]; simp [Value.ownBlock])
  exact ⟨g, cap, he, hb, hl, cells, hc⟩
end
section
variable {w W : World} {A : Option Addr} {n : Nat}
theorem at_int {k : IntKind} {xs : List Int} (h : (Kd.int k).C w A n xs) (i : Int) (h0 : 0 ≤ i) (h1 : i < n) : ∃ ad, A = some ad ∧ w.cell? (ad.add i.toNat) = some (.int k (rd xs i)) :=
  ReadsOf.at_ (reads_of_C (enc := Value.int k) (d := (0 : Int)) (h1 := fun _ => rfl) h) i h0 h1
theorem at_bool {xs : List Bool} (h : Kd.bool.C w A n xs) (i : Int) (h0 : 0 ≤ i) (h1 : i < n) : ∃ ad, A = some ad ∧ w.cell? (ad.add i.toNat) = some (.bool (rdOf false xs i)) :=
  ReadsOf.at_ (reads_of_C (enc := Value.bool) (d := false) (h1 := fun _ => rfl) h) i h0 h1
variable {α : Type} {enc : α → Value} {h1 : ∀ x, (enc x).oneCell' = true} {e base g cap : Nat} {ok : Nat → Prop} {xs : List α}
theorem R_cell (d : α) (h : (scalar enc h1).R e W base ok (.slice (some ⟨g, 0, none⟩) xs.length cap) xs) (i : Int) (h0 : 0 ≤ i) (hi : i < xs.length) : W.cell? ⟨g, i.toNat, none⟩ = some (enc (rdOf d xs i)) ∧ W.frozen? ⟨g, i.toNat, none⟩ = false := own_at_of (own_of_R h) i h0 hi
theorem R_put (h : (scalar enc h1).R e W base ok (.slice (some ⟨g, 0, none⟩) xs.length cap) xs) (i : Int) (x : α) : (scalar enc h1).R e (W.setCell ⟨g, i.toNat, none⟩ (enc x)) base ok (.slice (some ⟨g, 0, none⟩) xs.length cap) (xs.set i.toNat x) ∧ W.grownBy (W.setCell ⟨g, i.toNat, none⟩ (enc x)) (some g) := by
  obtain ⟨ho, hg⟩ := own_store_of (own_of_R h) i x
  exact ⟨R_of_own (by rw [List.length_set]; exact ho) h.1, hg⟩
end
section
variable {P : Program} {ops : Array Oper} {rest : List Oper} {o : Oper} {a : Act} {Q : Exit → Act → World → Prop}
theorem event_run {W w1 : World} {v : Value} (hgd : o.guard = none) (hrun : (execOp a.eval o).run P W = .ok (.value v) w1) (h : wpList P ops Q rest (a.put o.dst v) w1) : wpList P ops Q (o :: rest) a W := by
  refine wpList_plain hgd fun K hK => ?_
  unfold Oper.wp
  rw [hrun]
  exact hK _ _ h
variable {α : Type}
theorem R_lit (d : Kd α) {w0 W : World} (base e : Nat) (hgd : o.guard = none) {N : Tmp} (_hd : o.dst = some N) {xs : List α} {inner : List Value} {ok okp : Nat → Prop}
    (hrun : (execOp a.eval o).run P W = .ok (.value (.slice (some ⟨W.heap.size, 0, none⟩) xs.length xs.length)) (W.alloc (.cells inner.toArray e)))
    (hrep : Reps (d.M W base okp) d.sz xs inner) (hok : ∀ k, okp k → ok k) (hfresh : ok W.heap.size) (HB : Below base w0 W) (hbase : base ≤ W.heap.size) (hm : xs.length ≤ 9223372036854775807)
    (h : ∀ v1 w1, d.R e w1 base ok v1 xs → Below base w0 w1 → W.grownBy w1 none → (∃ b, v1.ownBlock = some b ∧ W.heap.size ≤ b) → wpList P ops Q rest (a.put o.dst v1) w1) : wpList P ops Q (o :: rest) a W := by
  refine event_run hgd hrun (h _ _ ⟨fun k hk => ?_, inner, ?_, ?_⟩ (HB.alloc hbase _) (World.grownBy_alloc W _ none) ⟨W.heap.size, by simp [Value.ownBlock], Nat.le_refl _⟩)
  · have : W.heap.size = k := by simpa [Value.ownBlock] using hk
    subst this
    exact hfresh
  · have h2 := World.ownsRow_lit (base := base) (e := e) (size := d.sz) W inner.toArray xs.length hbase (by simpa [maxLen] using hm) (by simpa using hrep.1)
    simpa using h2
  · refine hrep.imp_ (fun p c hp => d.M_mono (fun k hk => ⟨hok k hk.1, fun he => ?_⟩) (M_below (d.M_bound hp) (below_alloc (Below.refl _ _) _)))
    have h3 : k = W.heap.size := by simpa [Value.ownBlock] using he
    have := hk.2.2.1
    omega
theorem reps_made {α : Type} {R : α → List Value → Prop} {z : Value} {size : Nat} {z0 : α} (hz : z.cells.size = size) (hs : 0 < size) (h0 : R z0 z.cells.toList) (m : Nat) : Reps R size (List.replicate m z0) (madeCells z.cells (m * size)).toList := by
  refine ⟨by simp [size_madeCells], fun j p hj => ?_⟩
  obtain ⟨hjl, hp⟩ := List.getElem?_eq_some_iff.1 hj
  have hjm : j < m := by simpa using hjl
  have hp' : z0 = p := by simpa using hp
  subst hp'
  have hle : j * size + size ≤ m * size := by rw [← Nat.succ_mul]; exact Nat.mul_le_mul_right _ hjm
  have : ((madeCells z.cells (m * size)).toList.drop (j * size)).take size = z.cells.toList := by
    apply List.ext_getElem
    · simp [size_madeCells, hz]
      omega
    · intro i h1 h2
      have hi : i < size := by rw [Array.length_toList, hz] at h2; exact h2
      have hmod : (j * size + i) % size = i := by
        rw [Nat.mul_comm, Nat.mul_add_mod]
        exact Nat.mod_eq_of_lt hi
      simp [madeCells, hz, hmod]
      rw [getElem!_pos z.cells i (by omega)]
  rw [this]
  exact h0
theorem R_make (d : Kd α) {w0 W : World} (base e : Nat) (hgd : o.guard = none) {N : Tmp} (hd : o.dst = some N) (t : TypeId) (x y : Operand) (ho : o.op = .makeSlice t x y) (n : Int) (hx : a.eval x = .int .i64 n) (hy : a.eval y = .int .i64 n)
    (ht : P.underlying t = some (.slice e)) (z : Value) (bytes : Nat) (hinfo : (P.info? e).map (fun i => (i.zero, i.size, i.bytes)) = some (some z, d.sz, bytes)) (hz : z.cells.size = d.sz) (hs0 : 0 < d.sz) (hb0 : 0 < bytes)
    (z0 : α) {ok okp : Nat → Prop} (hzero : d.M W base okp z0 z.cells.toList) (hok : ∀ k, okp k → ok k) (hfresh : ok W.heap.size) (h0 : 0 ≤ n) (hl : n.toNat * bytes ≤ 281474976710656) (HB : Below base w0 W) (hbase : base ≤ W.heap.size)
    (h : ∀ v1 w1, d.R e w1 base ok v1 (List.replicate n.toNat z0) → Below base w0 w1 → W.grownBy w1 none → (∃ b, v1.ownBlock = some b ∧ W.heap.size ≤ b) → wpList P ops Q rest (a.put o.dst v1) w1) : wpList P ops Q (o :: rest) a W := by
  obtain ⟨m, rfl⟩ := Int.eq_ofNat_of_zero_le h0
  simp only [Int.toNat_natCast] at hl h
  obtain ⟨i0, hi, hzz⟩ := Option.map_eq_some_iff.1 hinfo
  simp only [Prod.mk.injEq] at hzz
  obtain ⟨hz0, hz1, hz2⟩ := hzz
  have hm : m ≤ 281474976710656 := Nat.le_trans (Nat.le_mul_of_pos_right _ hb0) hl
  have hr := run_make (P := P) W t e i0 z ht hi hz0 .i64 .i64 (m : Int) (m : Int) (by omega) (by omega)
    (by
      have h3 : ((i0.bytes * m : Nat) : Int) ≤ 281474976710656 := by rw [hz2, Nat.mul_comm]; omega
      rwa [Int.natCast_mul] at h3) (by omega)
  simp only [Int.toNat_natCast] at hr
  rw [hz1] at hr
  refine R_lit d base e hgd hd (xs := List.replicate m z0) (inner := (madeCells z.cells (m * d.sz)).toList) (okp := okp) (ok := ok) ?_ (reps_made hz hs0 hzero m) hok hfresh HB hbase (by simp; omega) h
  simp [execOp, ho, hx, hy, hr]
end
end Kd
theorem own_take {w : World} {base n m c size : Nat} {e : TypeId} {A : Option Addr} {xs : List Value} (h : w.ownsRow base e size (.slice A n c) n xs) (hm : m ≤ n) : w.ownsRow base e size (.slice A m c) m (xs.take (m * size)) := by
  obtain ⟨h1, h2⟩ := h
  refine ⟨by rw [List.length_take, h1]; exact Nat.min_eq_left (Nat.mul_le_mul_right _ hm), ?_⟩
  rcases h2 with ⟨he, h0⟩ | ⟨g, cap, cur, he, hb, hh, hnc, hcm, hcs, ht⟩
  · injection he with ha _ hc
    subst ha; subst hc
    exact .inl ⟨by rw [show m = 0 by omega], by omega⟩
  · injection he with ha _ hc
    subst ha; subst hc
    refine .inr ⟨g, c, cur, rfl, hb, hh, by omega, hcm, hcs, ?_⟩
    rw [← ht, List.take_take, Nat.min_eq_left (Nat.mul_le_mul_right _ hm)]
section
variable {P : Program}
theorem cut_to (t e : TypeId) (kh : IntKind) {i : TypeInfo} (ht : P.underlying t = some (.slice e)) (hi : P.info? e = some i) (A : Option Addr) (n c : Nat) (j : Int) (h0 : 0 ≤ j) (hm : j ≤ n) (hc : n ≤ c) :
    ∀ W : World, (Instr.slice t (.slice A n c) none (some (.int kh j)) none).run P W = .ok (.slice A j.toNat c) W := by
  intro W
  have hel : P.elem t = e := by simp [Program.elem, ht]
  have hu : P.underlying t = some (.slice (P.elem t)) := by rw [hel]; exact ht
  have ha : (A.map fun x => x.add 0) = A := by cases A <;> simp [Addr.add]
  rw [run_slice_h W t A n c hu kh j h0 (by omega), hel]
  simp [sizeOf, typeInfo, hi, sliced, Result.andThen, ha]
end
def QRow (w : World) (base : Nat) (e : TypeId) (size : Nat) (v : Value) (n : Nat) (xs : List Value) : Prop :=
  xs.length = n * size ∧
  ((n = 0 ∧ ∃ A, v = .slice A 0 0 ∧ ∀ a, A = some a → base ≤ a.block ∧ ∃ cur, w.heap[a.block]? = some (.cells cur e (0, 0))) ∨
   ∃ g off cap cur, v = .slice (some ⟨g, off * size, none⟩) n cap ∧ base ≤ g ∧ w.heap[g]? = some (.cells cur e (0, 0)) ∧ n ≤ cap ∧ off + cap ≤ maxLen ∧ cur.size = (off + cap) * size ∧ (cur.toList.drop (off * size)).take (n * size) = xs)
section
variable {w w1 : World} {base n size : Nat} {e : TypeId} {v : Value} {xs : List Value}
theorem add_at (g o j : Nat) : (⟨g, o, none⟩ : Addr).add j = ⟨g, o + j, none⟩ := by unfold Addr.add; split <;> simp_all
end
namespace Kd
theorem reps_take {α : Type} {R : α → List Value → Prop} {size m : Nat} {ps : List α} {cs : List Value} (h : Reps R size ps cs) (hm : m ≤ ps.length) : Reps R size (ps.take m) (cs.take (m * size)) := by
  refine ⟨by rw [List.length_take, List.length_take, h.1, Nat.min_eq_left hm, Nat.min_eq_left (Nat.mul_le_mul_right _ hm)], fun j p hj => ?_⟩
  rw [List.getElem?_take] at hj
  split at hj
  · rename_i hjm
    have := h.2 j p hj
    have hle : j * size + size ≤ m * size := by rw [← Nat.succ_mul]; exact Nat.mul_le_mul_right _ hjm
    rw [List.drop_take, List.take_take, Nat.min_eq_left (by omega)]
    exact this
  · cases hj
theorem R_take {α : Type} {d : Kd α} {e m n c : Nat} {w : World} {base : Nat} {ok : Nat → Prop} {A : Option Addr} {xs : List α} (h : d.R e w base ok (.slice A n c) xs) (hm : m ≤ xs.length) : d.R e w base ok (.slice A m c) (xs.take m) := by
  obtain ⟨h0, inner, ho, hr⟩ := h
  have hn : n = xs.length := by
    obtain ⟨A', c', he⟩ := own_slice ho
    injection he
  subst hn
  have hb : ∀ x y : Nat, (Value.slice A x c).ownBlock = (Value.slice A y c).ownBlock := by
    intro x y
    cases A <;> rfl
  refine ⟨fun k hk => h0 k (by rw [hb _ m]; exact hk), inner.take (m * d.sz), ?_, ?_⟩
  · rw [List.length_take, Nat.min_eq_left hm]
    exact own_take ho hm
  · rw [hb m xs.length]
    exact reps_take hr hm
def Q {α : Type} (d : Kd α) (e : Nat) (w : World) (base : Nat) (ok : Nat → Prop) (v : Value) (xs : List α) : Prop :=
  (∀ k, v.ownBlock = some k → ok k) ∧ ∃ inner, QRow w base e d.sz v xs.length inner ∧ Reps (d.M w base (fun k => ok k ∧ some k ≠ v.ownBlock)) d.sz xs inner
end Kd
namespace Kd
section
variable {α : Type} {d : Kd α} {e e' : Nat} {w w1 W : World} {base : Nat} {ok : Nat → Prop} {u v : Value} {xs : List α}
theorem R_typed (h : d.R e w base ok v xs) : ∀ k, v.ownBlock = some k → ∃ cells, w.heap[k]? = some (.cells cells e (0, 0)) := by
  obtain ⟨inner, ho⟩ := R_own h
  exact fun k hk => own_typed ho k hk
theorem R_over' (h : d.R e W base ok u xs) (hty : ∀ k, v.ownBlock = some k → ∃ cells, W.heap[k]? = some (.cells cells e' (0, 0))) (ht : ∀ q, q ∈ e :: d.E → q ≠ e') (hg : W.grownBy w1 v.ownBlock) : d.R e w1 base ok u xs := by
  refine R_mono (R_move (R_bound h) (fun k hk => hg.block k hk.2.2.1 (fun he => ?_))) (fun _ hk => hk.1)
  obtain ⟨_, _, _, q, hq, cells, hc⟩ := hk
  obtain ⟨cells', hc'⟩ := hty k he.symm
  rw [hc] at hc'
  injection hc' with hc'
  injection hc' with _ hc'
  exact ht q hq hc'
theorem R_elder' (hu : d.R e W base ok u xs) (hbase : ∀ k, v.ownBlock = some k → W.heap.size ≤ k) (hb : Below W.heap.size W w1) : d.R e w1 base (fun k => ok k ∧ some k ≠ v.ownBlock) u xs :=
  R_mono (R_move (R_bound hu) (fun k hk => hb.block k hk.2.2.1)) (fun k hk => ⟨hk.1, fun he => by have := hbase k he.symm; have := hk.2.2.1; omega⟩)
theorem R_new' (h : d.R e w1 W.heap.size ok v xs) (hlt : ∀ k, u.ownBlock = some k → k < W.heap.size) : d.R e w1 W.heap.size (fun k => ok k ∧ some k ≠ u.ownBlock) v xs :=
  R_mono (R_bound h) (fun k hk => ⟨hk.1, fun he => by have := hlt k he.symm; have := hk.2.1; omega⟩)
theorem fresh' (hlt : ∀ k, u.ownBlock = some k → k < W.heap.size) : ∀ k, W.heap.size ≤ k → some k ≠ u.ownBlock := fun k hk he => by have := hlt k he.symm; omega
end
end Kd
theorem far_slice {n c g : Nat} {A : Option Addr} (hne : some g ≠ (Value.slice A n c).ownBlock) : ∀ ad, A = some ad → 0 < n → ad.block ≠ g := by
  rintro ad rfl _ rfl
  exact hne (by simp [Value.ownBlock])
namespace Kd
theorem reps_append {α : Type} {R : α → List Value → Prop} {size : Nat} {ps qs : List α} {cs ds : List Value} (h : Reps R size ps cs) (h' : Reps R size qs ds) : Reps R size (ps ++ qs) (cs ++ ds) := by
  refine ⟨by rw [List.length_append, List.length_append, h.1, h'.1, Nat.add_mul], fun j p hj => ?_⟩
  rcases Nat.lt_or_ge j ps.length with hlt | hge
  · rw [List.getElem?_append_left hlt] at hj
    have hle : j * size + size ≤ cs.length := by rw [h.1, ← Nat.succ_mul]; exact Nat.mul_le_mul_right _ hlt
    rw [List.drop_append_of_le_length (by omega), List.take_append_of_le_length (by rw [List.length_drop]; omega)]
    exact h.2 j p hj
  · rw [List.getElem?_append_right hge] at hj
    have h2 := h'.2 (j - ps.length) p hj
    have hle : ps.length * size ≤ j * size := Nat.mul_le_mul_right _ hge
    rw [List.drop_append, List.drop_eq_nil_of_le (by rw [h.1]; exact hle), List.nil_append, h.1, ← Nat.sub_mul]
    exact h2
section
variable {P : Program} {ops : Array Oper} {rest : List Oper} {o : Oper} {a : Act} {Q : Exit → Act → World → Prop} {α : Type}
theorem R_append_rows (d : Kd α) {Rr : α → List Value → Prop} {w0 W : World} (base : Nat) (hgd : o.guard = none) (s x : Operand) (t e : TypeId) (z : Value) (bytes : Nat)
    (ho : o.op = .call { callee := .builtin .append, args := #[s, x], argTypes := #[t, t] })
    (ht : P.underlying t = some (.slice e)) (hinfo : (P.info? e).map (fun i => (i.zero, i.size, i.bytes)) = some (some z, d.sz, bytes)) (hz : z.cells.size = d.sz) (hs0 : 0 < d.sz) (hb0 : 0 < bytes)
    (v : Value) (xs ys : List α) (A : Option Addr) (m c : Nat) (ok okp : Nat → Prop) (hs : a.eval s = v) (hx : a.eval x = .slice A m c)
    (HO : d.R e W base ok v xs) (HR : ReadsRow Rr d.sz W A m ys) (hKM : ∀ x cs, Rr x cs → d.M W base okp x cs) (hokp : ∀ k, okp k → ok k ∧ some k ≠ v.ownBlock) (hfresh : ∀ k, W.heap.size ≤ k → ok k)
    (HB : Below base w0 W) (hbase : base ≤ W.heap.size) (hl : (xs.length + m) * bytes ≤ 140737488355328)
    (h : ∀ v1 w1, d.R e w1 base ok v1 (xs ++ ys) → Below base w0 w1 → W.grownBy w1 v.ownBlock → (v1.ownBlock = v.ownBlock ∨ ∃ b, v1.ownBlock = some b ∧ W.heap.size ≤ b) → wpList P ops Q rest (a.put o.dst v1) w1) :
    wpList P ops Q (o :: rest) a W := by
  obtain ⟨i0, hi, hzz⟩ := Option.map_eq_some_iff.1 hinfo
  simp only [Prod.mk.injEq] at hzz
  obtain ⟨hz0, hz1, hz2⟩ := hzz
  have hm : ys.length = m := HR.1
  have hlen : xs.length + m ≤ 140737488355328 := Nat.le_trans (Nat.le_mul_of_pos_right _ hb0) hl
  obtain ⟨hok, inner, hown, hr⟩ := HO
  have hrun : ∃ v1 w1, (Builtin.append_ #[t, t] o.type #[v, .slice A m c]).run P W = .ok v1 w1 ∧ d.R e w1 base ok v1 (xs ++ ys) ∧ W.grownBy w1 v.ownBlock ∧ (v1.ownBlock = v.ownBlock ∨ ∃ b, v1.ownBlock = some b ∧ W.heap.size ≤ b) := by
    rcases A with _ | ad
    · have h0 : m = 0 := by
        rcases Nat.eq_zero_or_pos m with h0 | h0
        · exact h0
        · obtain ⟨ad, h, _⟩ := HR.2.2 h0
          cases h
      subst h0
      obtain rfl : ys = [] := List.eq_nil_of_length_eq_zero hm
      refine ⟨v, W, ?_, by rw [List.append_nil]; exact ⟨hok, inner, hown, hr⟩, World.grownBy.refl W _, .inl rfl⟩
      rcases hown.2 with ⟨rfl, hn⟩ | ⟨g, cap, cur, rfl, _, _, hnc, _⟩
      · simp [Builtin.append_, run_underlying ht, sizeOf, typeInfo, hi, Builtin.lenOf, Builtin.firstCells]
      · simp [Builtin.append_, run_underlying ht, sizeOf, typeInfo, hi, Builtin.lenOf, Builtin.firstCells, hnc, storeCells]
    · obtain ⟨news, hnr, hnc⟩ := ReadsRow.inner_ HR
      have hnM : Reps (d.M W base okp) d.sz ys news := hnr.imp_ (fun p c hp => hKM p c hp)
      have hone : ∀ u ∈ news, u.oneCell' = true := by
        intro u hu
        obtain ⟨q, hq, rfl⟩ := List.mem_iff_getElem.1 hu
        have hql : q / d.sz < ys.length := by
          rw [Nat.div_lt_iff_lt_mul hs0]
          rw [← hnM.1]
          exact hq
        have hc := hnM.2 (q / d.sz) _ (List.getElem?_eq_getElem hql)
        refine d.K_one (d.K_of_M hc) _ ?_
        rw [List.mem_iff_getElem?]
        refine ⟨q % d.sz, ?_⟩
        rw [List.getElem?_take, if_pos (Nat.mod_lt _ hs0), List.getElem?_drop, Nat.mul_comm, Nat.div_add_mod, List.getElem?_eq_getElem hq]
      obtain ⟨v1, w1, hrun, h2, hg, _, hat⟩ := run_append_own_at (P := P) W base t o.type e i0 z d.sz bytes ht hi hz0 hz1 hz2 hz hs0 v xs.length inner hown ad m c news (by rw [hnM.1, hm]) hnc hone (by simp only [maxLen]; omega) hl hbase
      have hat' : v1.ownBlock = v.ownBlock ∨ ∃ b, v1.ownBlock = some b ∧ W.heap.size ≤ b := by
        rcases hat with hat | hat
        · exact .inl hat
        · exact .inr ⟨_, hat, Nat.le_refl _⟩
      have hne : ∀ k, some k ≠ v.ownBlock → k < W.heap.size → some k ≠ v1.ownBlock := by
        intro k hk hlt
        rcases hat' with hat | ⟨b, hb, hle⟩
        · rw [hat]; exact hk
        · rw [hb]
          intro he
          injection he with he
          omega
      have step : ∀ {q : α} {c : List Value} {o : Nat → Prop}, d.M W base o q c → (∀ k, o k → ok k ∧ some k ≠ v.ownBlock) → d.M w1 base (fun k => ok k ∧ some k ≠ v1.ownBlock) q c := by
        intro q c o hq ho
        have h1 := d.M_move (w1 := w1) (fun k hk => hg.block k hk.2.2.1 (ho k hk.1).2) (d.M_bound hq)
        exact d.M_mono (fun k hk => ⟨(ho k hk.1).1, hne k (ho k hk.1).2 hk.2.2.1⟩) h1
      refine ⟨v1, w1, hrun, ⟨fun k hk => ?_, inner ++ news, by rw [List.length_append, hm]; exact h2, reps_append (hr.imp_ (fun _ _ hq => step hq (fun _ hk => hk))) (hnM.imp_ (fun _ _ hq => step hq hokp))⟩, hg, hat'⟩
      rcases hat' with hat | ⟨b, hb, hle⟩
      · exact hok k (hat ▸ hk)
      · rw [hb] at hk
        injection hk with hk
        exact hfresh k (by omega)
  obtain ⟨v1, w1, hr1, h1, hg, hat⟩ := hrun
  refine wpList_plain hgd fun K hK => ?_
  unfold Oper.wp execOp
  simp only [ho, resolve, invoke, builtin, Sem.run_bind, Sem.run_pure, Result.andThen_ok, List.map_toArray, List.map_cons, List.map_nil, hs, hx, hr1]
  exact hK _ _ (h v1 w1 h1 (HB.grown hg hbase (own_base hown)) hg hat)
end
end Kd
namespace Kd
section
variable {α : Type} {k : Kd α} {w : World} {A : Option Addr} {xs : List α} {m c : Nat}
theorem C_take (h : k.C w A xs.length xs) (hm : m ≤ xs.length) : k.C w A (xs.take m).length (xs.take m) := by
  have hl : (xs.take m).length = m := by rw [List.length_take]; omega
  refine ⟨rfl, by rw [hl]; have := h.2.1; omega, fun hp => ?_⟩
  obtain ⟨ad, e, hc⟩ := h.2.2 (by omega)
  refine ⟨ad, e, fun j p hj => hc j p ?_⟩
  rw [List.getElem?_take] at hj
  split at hj
  · exact hj
  · cases hj
end
end Kd
theorem below_size {w W : World} (h : Below w.heap.size w W) : w.heap.size ≤ W.heap.size := h.size
theorem below_step {w W w2 : World} (h : Below w.heap.size w W) (k : Below W.heap.size W w2) : Below w.heap.size w w2 := below_then h h.size k
theorem ReadsInt.nil (W : World) (k : IntKind) : ReadsInt W k none ([] : List Int).length [] := ⟨rfl, by simp, fun h => absurd h (Nat.lt_irrefl 0)⟩
theorem ReadsInt.ofRow {k : IntKind} {w : World} {a : Option Addr} {len cap : Nat} {zs : List Int} (h : (a = none ∧ len = 0 ∧ cap = 0 ∧ zs = []) ∨ ∃ x, a = some x ∧ len ≤ cap ∧ cap ≤ maxLen ∧ zs.length = cap ∧ (∀ i, i < zs.length → w.cell? (x.add i) = some (.int k (zs.getD i 0))) ∧ ∀ n ∈ zs, (Lit.int k n).wf = true) :
    ∃ l : List Int, len = l.length ∧ ReadsInt w k a l.length l ∧ l.length ≤ maxLen ∧ ∀ x ∈ l, (Lit.int k x).wf = true := by
  rcases h with ⟨rfl, rfl, rfl, rfl⟩ | ⟨x, rfl, hl, hm, hz, hc, hw⟩
  · exact ⟨[], rfl, ReadsInt.nil _ _, Nat.zero_le _, fun x hx => by simp at hx⟩
  · have e : (zs.take len).length = len := by simp; omega
    have hm' : len ≤ maxLen := Nat.le_trans hl hm
    refine ⟨zs.take len, e.symm, ⟨rfl, by rw [e]; simpa [maxLen] using hm', fun _ => ⟨x, rfl, fun j hj => ?_⟩⟩, by rw [e]; exact hm', fun y hy => hw y (List.mem_of_mem_take hy)⟩
    rw [e] at hj
    rw [hc j (by omega)]
    simp [List.getD, List.getElem?_take, hj]
theorem below_set {w W : World} {g j : Nat} {v : Value} (h : Below w.heap.size w W) (hg : w.heap.size ≤ g) : Below w.heap.size w (W.setCell ⟨g, j, none⟩ v) := h.setCell hg _
theorem keep_drewN {w W : World} {g : Nat} {row : Option Nat} (h : KeepBut w W g row) (m : Nat) : KeepBut w (W.drewN m) g row := h
theorem keep_alloc {w W : World} {g : Nat} (h : KeepBut w W g none) (o : Obj) : KeepBut w (W.alloc o) g none := h.trans (KeepBut.of_grown (World.grownBy_alloc W o none) g) (.inl rfl)
theorem keep_cell {w W : World} {g : Nat} (h : KeepBut w W g none) {a : Addr} {v : Value} (hc : w.cell? a = some v) (hne : a.block ≠ g) : W.cell? a = some v := by
  have := h.2 a.block (World.block_lt_of_cell? w a hc) hne (by simp)
  simpa [World.cell?, this] using hc
theorem add_block (a : Addr) (i : Nat) : (a.add i).block = a.block := by unfold Addr.add; split <;> rfl
theorem below_weaken {w0 w w1 : World} {B : Nat} (h : Below w0.heap.size w0 w) (hB : w0.heap.size ≤ B) (k : Below B w w1) : Below w0.heap.size w0 w1 :=
  h.trans ⟨k.os, k.tape, k.output, k.size, fun i hi => k.block i (Nat.lt_of_lt_of_le hi hB)⟩
theorem own_base' {w : World} {base : Nat} {e : TypeId} {size n : Nat} {v : Value} {xs : List Value} (h : w.ownsRow base e size v n xs) : v.ownBlock = none ∨ ∃ b, v.ownBlock = some b ∧ base ≤ b := by
  cases hv : v.ownBlock with
  | none => exact .inl rfl
  | some b => exact .inr ⟨b, rfl, own_base h b hv⟩
theorem keep_size {w W : World} {g : Nat} {row : Option Nat} (h : KeepBut w W g row) : w.heap.size ≤ W.heap.size := h.1
theorem ReadsOf.keep {α : Type} {enc : α → Value} {d : α} {w W : World} {A : Option Addr} {n g : Nat} {xs : List α} (h : ReadsOf enc d w A n xs) (hk : KeepBut w W g none) (hf : ∀ ad, A = some ad → 0 < n → ad.block ≠ g) : ReadsOf enc d W A n xs :=
  ⟨h.1, h.2.1, fun hn => by
    obtain ⟨ad, e, hc⟩ := h.2.2 hn
    exact ⟨ad, e, fun j hj => keep_cell hk (hc j hj) (by rw [add_block]; exact hf ad e hn)⟩⟩
theorem keep_far {w W : World} {g : Nat} {row : Option Nat} (h : KeepBut w W g row) {p : Addr} (hp : w.heap.size ≤ p.block) (u : Value) : KeepBut w (W.setCell p u) g row :=
  ⟨by simpa [World.setCell] using h.1, fun i hi hg hr => (Below.heap_setCell W p u i (by omega)).trans (h.2 i hi hg hr)⟩
theorem own_blk {W : World} {base n c : Nat} {e : TypeId} {size g : Nat} {ad : Addr} {xs : List Value} (_ : W.ownsRow base e size (.slice (some ad) n c) n xs) (hne : some g ≠ (Value.slice (some ad) n c).ownBlock) : ad.block ≠ g := by
  rintro rfl
  exact hne (by simp [Value.ownBlock])
theorem ReadsInt.ofRowC {k : IntKind} {w : World} {a : Option Addr} {len cap : Nat} {zs : List Int} (h : (a = none ∧ len = 0 ∧ cap = 0 ∧ zs = []) ∨ ∃ x, a = some x ∧ len ≤ cap ∧ cap ≤ maxLen ∧ zs.length = cap ∧ (∀ i, i < zs.length → w.cell? (x.add i) = some (.int k (zs.getD i 0))) ∧ ∀ n ∈ zs, (Lit.int k n).wf = true) :
    ∃ l : List Int, len = l.length ∧ ReadsInt w k a l.length l ∧ l.length ≤ maxLen ∧ (∀ x ∈ l, (Lit.int k x).wf = true) ∧ l.length ≤ cap := by
  have hl : len ≤ cap := by
    rcases h with ⟨_, rfl, rfl, _⟩ | ⟨_, _, h, _⟩
    · exact Nat.le_refl _
    · exact h
  obtain ⟨l, e, h1, h2, h3⟩ := ReadsInt.ofRow h
  exact ⟨l, e, h1, h2, h3, e ▸ hl⟩
theorem print_make_int {P : Program} (t e : TypeId) (z : Value) (bytes : Nat) (ht : P.underlying t = some (.slice e)) (hinfo : (P.info? e).map (fun i => (i.zero, i.size, i.bytes)) = some (some z, 1, bytes)) (hz : z.cells = #[z]) (hb0 : 0 < bytes)
    (n : Int) (h0 : 0 ≤ n) (hn : n.toNat * bytes ≤ 281474976710656) :
    ∀ W : World, (Instr.makeSlice t (.int .i64 n) (.int .i64 n)).run P W = .ok (.slice (some ⟨W.heap.size, 0, none⟩) n.toNat n.toNat) (W.alloc (.cells (madeCells #[z] n.toNat) e)) := by
  intro W
  have h := print_make_of (P := P) t e z bytes ht hinfo hz hb0 n.toNat hn W
  rwa [Int.toNat_of_nonneg h0] at h
theorem below_drew1 {base : Nat} {w W : World} (h : Below base w W) : Below base w W.drew := h.drew
theorem keep_drew {w W : World} {g : Nat} {row : Option Nat} (h : KeepBut w W g row) : KeepBut w W.drew g row := h
namespace Kd
section
variable {α β : Type} {d : Kd α} {d' : Kd β} {e e' base base' n : Nat} {ok ok' : Nat → Prop} {w W w1 W1 : World} {v u : Value} {xs : List α} {ys : List β} {A : Option Addr} {c : Nat}
theorem own_blk {ad : Addr} {g : Nat} (hne : some g ≠ (Value.slice (some ad) n c).ownBlock) : ad.block ≠ g := by
  rintro rfl
  exact hne (by simp [Value.ownBlock])
theorem R_base2 (h : d.R e w base ok v xs) : v.ownBlock = none ∨ ∃ k, v.ownBlock = some k ∧ base ≤ k := by
  obtain ⟨inner, ho⟩ := R_own h
  exact own_base' ho
end
section
variable {α : Type} {enc : α → Value} {h1 : ∀ x, (enc x).oneCell' = true} {w W : World} {A : Option Addr} {n g : Nat} {xs : List α}
theorem C_keep (d : α) (h : (scalar enc h1).C w A n xs) (hk : KeepBut w W g none) (hf : ∀ ad, A = some ad → 0 < n → ad.block ≠ g) : (scalar enc h1).C W A n xs := C_of_reads (ReadsOf.keep (reads_of_C (d := d) h) hk hf)
end
end Kd
section
variable {P : Program} {ops : Array Oper} {rest : List Oper} {o : Oper} {a : Act} {Q : Exit → Act → World → Prop}
theorem box_event {W : World} (hgd : o.guard = none) {N : Tmp} (_hd : o.dst = some N) {cs : Array Value} {t : TypeId}
    (hrun : (execOp a.eval o).run P W = .ok (.value (.pointer (some ⟨W.heap.size, 0, none⟩))) (W.alloc (.cells cs t (0, 0))))
    (h : ∀ g, g = W.heap.size → ∀ w1, w1.heap[g]? = some (.cells cs t (0, 0)) → Below W.heap.size W w1 → wpList P ops Q rest (a.put o.dst (.pointer (some ⟨g, 0, none⟩))) w1) : wpList P ops Q (o :: rest) a W :=
  Kd.event_run hgd hrun (h _ rfl _ (blk_new W _) (below_alloc (Below.refl _ _) _))
end
namespace Kd
section
variable {α : Type} {enc : α → Value} {h1 : ∀ x, (enc x).oneCell' = true} {e base g n cap : Nat} {ok : Nat → Prop} {W : World} {xs : List α}
theorem R_celln (d : α) (h : (scalar enc h1).R e W base ok (.slice (some ⟨g, 0, none⟩) n cap) xs) (i : Int) (h0 : 0 ≤ i) (hi : i < n) : W.cell? ⟨g, i.toNat, none⟩ = some (enc (rdOf d xs i)) ∧ W.frozen? ⟨g, i.toNat, none⟩ = false := by
  obtain ⟨rfl, _⟩ := R_reads' h
  exact R_cell d h i h0 hi
theorem R_putn (h : (scalar enc h1).R e W base ok (.slice (some ⟨g, 0, none⟩) n cap) xs) (i : Int) (x : α) : (scalar enc h1).R e (W.setCell ⟨g, i.toNat, none⟩ (enc x)) base ok (.slice (some ⟨g, 0, none⟩) n cap) (xs.set i.toNat x) := by
  obtain ⟨rfl, _⟩ := R_reads' h
  exact (R_put h i x).1
end
end Kd
section
variable {P : Program} {ops : Array Oper} {rest : List Oper} {o : Oper} {a : Act} {Q : Exit → Act → World → Prop}
theorem store_event {W w1 : World} (hgd : o.guard = none) {t : TypeId} {p : Tmp} {v : Operand} (_ho : o.op = .store t (.tmp p) v) (hN : o.dst = none)
    (hrun : (execOp a.eval o).run P W = .ok .skip w1) (h : ∀ w', w' = w1 → wpList P ops Q rest a w') : wpList P ops Q (o :: rest) a W := by
  refine wpList_plain hgd fun K hK => ?_
  unfold Oper.wp
  rw [hrun]
  show K (a.put o.dst undef) w1
  rw [hN]
  exact hK _ _ (h _ rfl)
end
namespace Kd
section
variable {α : Type} {enc : α → Value} {h1 : ∀ x, (enc x).oneCell' = true} {e base g n cap : Nat} {ok : Nat → Prop} {W : World} {xs : List α}
theorem R_putg (h : (scalar enc h1).R e W base ok (.slice (some ⟨g, 0, none⟩) n cap) xs) (i : Int) (x : α) : (scalar enc h1).R e (W.setCell ⟨g, i.toNat, none⟩ (enc x)) base ok (.slice (some ⟨g, 0, none⟩) n cap) (xs.set i.toNat x) ∧ W.grownBy (W.setCell ⟨g, i.toNat, none⟩ (enc x)) (some g) := by
  obtain ⟨rfl, _⟩ := R_reads' h
  exact R_put h i x
end
end Kd
section
variable {P : Program} {ops : Array Oper} {rest : List Oper} {o : Oper} {a : Act} {Q : Exit → Act → World → Prop} {W : World}
theorem gate_dst {N : Tmp} (_hN : o.dst = some N) (h : wpList P ops Q (o :: rest) a W) : wpList P ops Q (o :: rest) a W := h
theorem gate_store {t : TypeId} {p : Tmp} {v : Operand} (_ho : o.op = .store t (.tmp p) v) (h : wpList P ops Q (o :: rest) a W) : wpList P ops Q (o :: rest) a W := h
end
section
variable {P : Program} {ops : Array Oper} {o : Oper} {a : Act} {Q : Exit → Act → World → Prop} {Kc : Act → World → Prop}
namespace Kd
variable {α : Type}
theorem R_append_rows_step (d : Kd α) {Rr : α → List Value → Prop} {w0 W : World} (base : Nat) (hw : Region.wanted o (yielded ops a.tmps) = true) (s x : Operand) (t e : TypeId) (z : Value) (bytes : Nat)
    (ho : o.op = .call { callee := .builtin .append, args := #[s, x], argTypes := #[t, t] })
    (ht : P.underlying t = some (.slice e)) (hinfo : (P.info? e).map (fun i => (i.zero, i.size, i.bytes)) = some (some z, d.sz, bytes)) (hz : z.cells.size = d.sz) (hs0 : 0 < d.sz) (hb0 : 0 < bytes)
    (v : Value) (xs ys : List α) (A : Option Addr) (m c : Nat) (ok okp : Nat → Prop) (hs : a.eval s = v) (hx : a.eval x = .slice A m c)
    (HO : d.R e W base ok v xs) (HR : ReadsRow Rr d.sz W A m ys) (hKM : ∀ x cs, Rr x cs → d.M W base okp x cs) (hokp : ∀ k, okp k → ok k ∧ some k ≠ v.ownBlock) (hfresh : ∀ k, W.heap.size ≤ k → ok k)
    (HB : Below base w0 W) (hbase : base ≤ W.heap.size) (hl : (xs.length + m) * bytes ≤ 140737488355328)
    (h : ∀ v1 w1, d.R e w1 base ok v1 (xs ++ ys) → Below base w0 w1 → W.grownBy w1 v.ownBlock → (v1.ownBlock = v.ownBlock ∨ ∃ b, v1.ownBlock = some b ∧ W.heap.size ≤ b) → Kc (a.put o.dst v1) w1) :
    if Region.wanted o (yielded ops a.tmps) = true then Oper.wp P o a W Kc Q else Kc (a.put o.dst undef) W := by
  obtain ⟨i0, hi, hzz⟩ := Option.map_eq_some_iff.1 hinfo
  simp only [Prod.mk.injEq] at hzz
  obtain ⟨hz0, hz1, hz2⟩ := hzz
  have hm : ys.length = m := HR.1
  have hlen : xs.length + m ≤ 140737488355328 := Nat.le_trans (Nat.le_mul_of_pos_right _ hb0) hl
  obtain ⟨hok, inner, hown, hr⟩ := HO
  have hrun : ∃ v1 w1, (Builtin.append_ #[t, t] o.type #[v, .slice A m c]).run P W = .ok v1 w1 ∧ d.R e w1 base ok v1 (xs ++ ys) ∧ W.grownBy w1 v.ownBlock ∧ (v1.ownBlock = v.ownBlock ∨ ∃ b, v1.ownBlock = some b ∧ W.heap.size ≤ b) := by
    rcases A with _ | ad
    · have h0 : m = 0 := by
        rcases Nat.eq_zero_or_pos m with h0 | h0
        · exact h0
        · obtain ⟨ad, h, _⟩ := HR.2.2 h0
          cases h
      subst h0
      obtain rfl : ys = [] := List.eq_nil_of_length_eq_zero hm
      refine ⟨v, W, ?_, by rw [List.append_nil]; exact ⟨hok, inner, hown, hr⟩, World.grownBy.refl W _, .inl rfl⟩
      rcases hown.2 with ⟨rfl, hn⟩ | ⟨g, cap, cur, rfl, _, _, hnc, _⟩
      · simp [Builtin.append_, run_underlying ht, sizeOf, typeInfo, hi, Builtin.lenOf, Builtin.firstCells]
      · simp [Builtin.append_, run_underlying ht, sizeOf, typeInfo, hi, Builtin.lenOf, Builtin.firstCells, hnc, storeCells]
    · obtain ⟨news, hnr, hnc⟩ := ReadsRow.inner_ HR
      have hnM : Reps (d.M W base okp) d.sz ys news := hnr.imp_ (fun p c hp => hKM p c hp)
      have hone : ∀ u ∈ news, u.oneCell' = true := by
        intro u hu
        obtain ⟨q, hq, rfl⟩ := List.mem_iff_getElem.1 hu
        have hql : q / d.sz < ys.length := by
          rw [Nat.div_lt_iff_lt_mul hs0]
          rw [← hnM.1]
          exact hq
        have hc := hnM.2 (q / d.sz) _ (List.getElem?_eq_getElem hql)
        refine d.K_one (d.K_of_M hc) _ ?_
        rw [List.mem_iff_getElem?]
        refine ⟨q % d.sz, ?_⟩
        rw [List.getElem?_take, if_pos (Nat.mod_lt _ hs0), List.getElem?_drop, Nat.mul_comm, Nat.div_add_mod, List.getElem?_eq_getElem hq]
      obtain ⟨v1, w1, hrun, h2, hg, _, hat⟩ := run_append_own_at (P := P) W base t o.type e i0 z d.sz bytes ht hi hz0 hz1 hz2 hz hs0 v xs.length inner hown ad m c news (by rw [hnM.1, hm]) hnc hone (by simp only [maxLen]; omega) hl hbase
      have hat' : v1.ownBlock = v.ownBlock ∨ ∃ b, v1.ownBlock = some b ∧ W.heap.size ≤ b := by
        rcases hat with hat | hat
        · exact .inl hat
        · exact .inr ⟨_, hat, Nat.le_refl _⟩
      have hne : ∀ k, some k ≠ v.ownBlock → k < W.heap.size → some k ≠ v1.ownBlock := by
        intro k hk hlt
        rcases hat' with hat | ⟨b, hb, hle⟩
        · rw [hat]; exact hk
        · rw [hb]
          intro he
          injection he with he
          omega
      have step : ∀ {q : α} {c : List Value} {o : Nat → Prop}, d.M W base o q c → (∀ k, o k → ok k ∧ some k ≠ v.ownBlock) → d.M w1 base (fun k => ok k ∧ some k ≠ v1.ownBlock) q c := by
        intro q c o hq ho
        have h1 := d.M_move (w1 := w1) (fun k hk => hg.block k hk.2.2.1 (ho k hk.1).2) (d.M_bound hq)
        exact d.M_mono (fun k hk => ⟨(ho k hk.1).1, hne k (ho k hk.1).2 hk.2.2.1⟩) h1
      refine ⟨v1, w1, hrun, ⟨fun k hk => ?_, inner ++ news, by rw [List.length_append, hm]; exact h2, reps_append (hr.imp_ (fun _ _ hq => step hq (fun _ hk => hk))) (hnM.imp_ (fun _ _ hq => step hq hokp))⟩, hg, hat'⟩
      rcases hat' with hat | ⟨b, hb, hle⟩
      · exact hok k (hat ▸ hk)
      · rw [hb] at hk
        injection hk with hk
        exact hfresh k (by omega)
  obtain ⟨v1, w1, hr1, h1, hg, hat⟩ := hrun
  rw [if_pos hw]
  unfold Oper.wp execOp
  simp only [ho, resolve, invoke, builtin, Sem.run_bind, Sem.run_pure, Result.andThen_ok, List.map_toArray, List.map_cons, List.map_nil, hs, hx, hr1]
  exact h v1 w1 h1 (HB.grown hg hbase (own_base hown)) hg hat
end Kd
end
end Go.Proofs.YtkdakjlopheefaaW.PrintWords
end
section
namespace Go.Proofs.YtkdakjlopheefaaW.PrintLast
section
variable {P : Program} {ops : Array Oper} {Q : Exit → Act → World → Prop} {md : Region.Mode} {S : World → Prop} {ds : List Nat}
def Region.reachB (md : Region.Mode) (ops : Array Oper) (i : Nat) : Nat → Nat → Bool
  | 0, _ => false
  | fuel + 1, d => match ops[d]? with
    | some o => o.after.any fun e => Region.binds md e && (e.on == i || Region.reachB md ops i fuel e.on)
    | none => false
def Region.closedB (md : Region.Mode) (ops : Array Oper) (listed : Array Bool) : Bool :=
  (List.range ops.size).all fun j => !listed.getD j false || match ops[j]? with
    | some o => o.after.all fun e => !Region.binds md e || listed.getD e.on false
    | none => true
def Region.lastB (md : Region.Mode) (ops : Array Oper) (listed : Array Bool) (ds : List Nat) (i : Nat) : Bool :=
  ds.all fun d => listed.getD d true || Region.reachB md ops i ops.size d
def ListedClosed (md : Region.Mode) (ops : Array Oper) (listed : Array Bool) : Prop :=
  ∀ j oj, ops[j]? = some oj → listed.getD j false = true → ∀ e ∈ oj.after, Region.binds md e = true → listed.getD e.on false = true
theorem Region.closedB_spec {listed : Array Bool} (h : Region.closedB md ops listed = true) : ListedClosed md ops listed := by
  intro j oj hj hl e he hb
  have hlt : j < ops.size := (Array.getElem?_eq_some_iff.1 hj).1
  have h1 := List.all_eq_true.1 h j (List.mem_range.2 hlt)
  simp only [hl, hj, Bool.not_true, Bool.false_or] at h1
  have h2 := Array.all_eq_true_iff_forall_mem.1 h1 e he
  simpa [hb] using h2
theorem ListedClosed.set {listed : Array Bool} {i : Nat} (h : ListedClosed md ops listed) (hi : i ∈ Region.ready md ops listed) : ListedClosed md ops (listed.setIfInBounds i true) := by
  obtain ⟨_, oi, hoi, hall⟩ := mem_ready.1 hi
  intro j oj hj hl e he hb
  by_cases hij : i = j
  · subst hij
    have : oj = oi := Option.some.inj (hj.symm.trans hoi)
    subst this
    exact getD_set_true (hall e he hb)
  · rw [getD_set_ne false hij] at hl
    exact getD_set_true (h j oj hj hl e he hb)
theorem Region.reach_listed {listed : Array Bool} {i : Nat} (hc : ListedClosed md ops listed) : ∀ (fuel d : Nat), Region.reachB md ops i fuel d = true → listed.getD d false = true → listed.getD i false = true
  | 0, _, h, _ => by simp [Region.reachB] at h
  | fuel + 1, d, h, hl => by
    unfold Region.reachB at h
    cases ho : ops[d]? with
    | none => rw [ho] at h; simp at h
    | some o =>
      rw [ho] at h
      obtain ⟨e, he, h1⟩ := Array.any_eq_true'.1 h
      simp only [Bool.and_eq_true, Bool.or_eq_true, beq_iff_eq] at h1
      have hle := hc d o ho hl e he h1.1
      rcases h1.2 with h2 | h2
      · rw [← h2]; exact hle
      · exact Region.reach_listed hc fuel e.on h2 hle
theorem Region.reach_not_ready {listed : Array Bool} {i d fuel : Nat} (hc : ListedClosed md ops listed) (hr : Region.reachB md ops i fuel d = true) (hun : listed.getD i true = false) : d ∉ Region.ready md ops listed := by
  intro hd
  obtain ⟨_, o, ho, hall⟩ := mem_ready.1 hd
  have hi : listed.getD i false = true := by
    cases fuel with
    | zero => simp [Region.reachB] at hr
    | succ n =>
      unfold Region.reachB at hr
      rw [ho] at hr
      obtain ⟨e, he, h1⟩ := Array.any_eq_true'.1 hr
      simp only [Bool.and_eq_true, Bool.or_eq_true, beq_iff_eq] at h1
      have hle := hall e he h1.1
      rcases h1.2 with h2 | h2
      · rw [← h2]; exact hle
      · exact Region.reach_listed hc n e.on h2 hle
  rcases Nat.lt_or_ge i listed.size with h' | h'
  · simp [h'] at hun hi
    rw [hun] at hi
    cases hi
  · simp [Array.getElem?_eq_none h'] at hun
def wpAnyLast (P : Program) (md : Region.Mode) (ops : Array Oper) (Q : Exit → Act → World → Prop) (S : World → Prop) (ds : List Nat) : Nat → Array Bool → Act → World → Prop
  | 0, listed, a, w => Region.ready md ops listed = [] ∧ Q .normal a w
  | fuel + 1, listed, a, w =>
    (Region.ready md ops listed = [] → Q .normal a w) ∧
    ∀ i ∈ Region.ready md ops listed, wpOp P ops Q i (fun a' w' => (i ∉ ds → S w → S w') ∧ wpAnyLast P md ops Q S ds fuel (listed.setIfInBounds i true) a' w') a w
theorem wpAny_of_last : ∀ (fuel : Nat) (listed : Array Bool) (a : Act) (w : World), wpAnyLast P md ops Q S ds fuel listed a w → wpAny P md ops Q fuel listed a w
  | 0, _, _, _, h => h
  | fuel + 1, _, _, _, h => ⟨h.1, fun i hi => wpOp_mono (fun a' w' h' => wpAny_of_last fuel _ a' w' h'.2) (h.2 i hi)⟩
theorem wpAnyLast_first {i : Nat} {oi : Oper} {v : Value} (hi : ops[i]? = some oi) (hsel : ∀ (j : Nat) (o : Oper) cs b, ops[j]? = some o → o.op ≠ .select cs b)
    (hQ : ∀ c a w, Q (.panic c) (a.put oi.dst v) w → Q (.panic c) a w) (n : Nat) :
    ∀ (fuel : Nat) (listed : Array Bool) (a : Act) (w : World),
      (∀ j oj, ops[j]? = some oj → j ≠ i → listed.getD j true = false → (∀ e ∈ oj.after, Region.binds md e = true → e.on ≠ i) → oi.apart ops oj = true) →
      ListedClosed md ops listed → (∀ d ∈ ds, listed.getD d true = false → Region.reachB md ops i n d = true) →
      i ∈ Region.ready md ops listed → YieldsIf P ops S oi v a → S w →
      wpAnyLast P md ops Q S ds fuel (listed.setIfInBounds i true) (a.put oi.dst v) w → wpAnyLast P md ops Q S ds (fuel + 1) listed a w := by
  intro fuel
  induction fuel with
  | zero =>
    intro listed a w _ _ _ hr hy hS H
    refine ⟨fun h => (by rw [h] at hr; cases hr), fun j hj => ?_⟩
    by_cases hji : j = i
    · subst hji; exact hy.wpOp hi hS ⟨fun _ h => h, H⟩
    · have := ready_mono hj hji
      rw [H.1] at this
      cases this
  | succ fuel ih =>
    intro listed a w hfree hc hd hr hy hS H
    refine ⟨fun h => (by rw [h] at hr; cases hr), fun j hj => ?_⟩
    by_cases hji : j = i
    · subst hji; exact hy.wpOp hi hS ⟨fun _ h => h, H⟩
    · have h1 := H.2 j (ready_mono hj hji)
      obtain ⟨hjun, oj, hoj, hall⟩ := mem_ready.1 hj
      have hiun := (mem_ready.1 hr).1
      have hnot : ∀ e ∈ oj.after, Region.binds md e = true → e.on ≠ i := fun e he hb heq => by
        have h1 := hall e he hb
        rw [heq] at h1
        rcases Nat.lt_or_ge i listed.size with h' | h'
        · simp [h'] at hiun h1; rw [hiun] at h1; cases h1
        · simp [Array.getElem?_eq_none h'] at h1
      have hjd : j ∉ ds := fun hm => Region.reach_not_ready hc (hd j hm hjun) hiun hj
      have h2 := wpOp_putIf hoj (hfree j oj hoj hji hjun hnot) (fun cs b => hsel i oi cs b hi) (fun cs b => hsel j oj cs b hoj) hQ hy h1
      have hfree' : ∀ k ok, ops[k]? = some ok → k ≠ i → (listed.setIfInBounds j true).getD k true = false →
          (∀ e ∈ ok.after, Region.binds md e = true → e.on ≠ i) → oi.apart ops ok = true := fun k ok hk hki hun hno => by
        refine hfree k ok hk hki ?_ hno
        by_cases hjk : j = k
        · subst hjk; exact hjun
        · rw [getD_set_ne true hjk] at hun; exact hun
      have hd' : ∀ d ∈ ds, (listed.setIfInBounds j true).getD d true = false → Region.reachB md ops i n d = true := fun d hm hun => by
        refine hd d hm ?_
        by_cases hjk : j = d
        · subst hjk; exact hjun
        · rw [getD_set_ne true hjk] at hun; exact hun
      refine wpOp_mono (fun a' w' h3 => ⟨h3.2.1, ih (listed.setIfInBounds j true) a' w' hfree' (hc.set hj) hd' (ready_mono hr (Ne.symm hji)) h3.1 (h3.2.1 hjd hS) ?_⟩) h2
      rw [Array.setIfInBounds_comm _ _ hji]
      exact h3.2.2
theorem wpAnyLast_any {i : Nat} {oi : Oper} {v : Value} (hi : ops[i]? = some oi) (hsel : ∀ (j : Nat) (o : Oper) cs b, ops[j]? = some o → o.op ≠ .select cs b)
    (hQ : ∀ c a w, Q (.panic c) (a.put oi.dst v) w → Q (.panic c) a w) :
    ∀ (fuel : Nat) (listed : Array Bool) (a : Act) (w : World),
      (∀ j oj, ops[j]? = some oj → j ≠ i → listed.getD j true = false → (∀ e ∈ oj.after, Region.binds md e = true → e.on ≠ i) → oi.apart ops oj = true) →
      i ∈ Region.ready md ops listed → Yields P ops oi v a →
      wpAnyLast P md ops Q S ds fuel (listed.setIfInBounds i true) (a.put oi.dst v) w → wpAnyLast P md ops Q S ds (fuel + 1) listed a w := by
  intro fuel
  induction fuel with
  | zero =>
    intro listed a w _ hr hy H
    refine ⟨fun h => (by rw [h] at hr; cases hr), fun j hj => ?_⟩
    by_cases hji : j = i
    · subst hji; exact (hy.yieldsIf (S := fun _ => True)).wpOp hi trivial ⟨fun _ h => h, H⟩
    · have := ready_mono hj hji
      rw [H.1] at this
      cases this
  | succ fuel ih =>
    intro listed a w hfree hr hy H
    refine ⟨fun h => (by rw [h] at hr; cases hr), fun j hj => ?_⟩
    by_cases hji : j = i
    · subst hji; exact (hy.yieldsIf (S := fun _ => True)).wpOp hi trivial ⟨fun _ h => h, H⟩
    · have h1 := H.2 j (ready_mono hj hji)
      obtain ⟨hjun, oj, hoj, hall⟩ := mem_ready.1 hj
      have hiun := (mem_ready.1 hr).1
      have hnot : ∀ e ∈ oj.after, Region.binds md e = true → e.on ≠ i := fun e he hb heq => by
        have h1 := hall e he hb
        rw [heq] at h1
        rcases Nat.lt_or_ge i listed.size with h' | h'
        · simp [h'] at hiun h1; rw [hiun] at h1; cases h1
        · simp [Array.getElem?_eq_none h'] at h1
      have h2 := wpOp_put hoj (hfree j oj hoj hji hjun hnot) (fun cs b => hsel i oi cs b hi) (fun cs b => hsel j oj cs b hoj) hQ hy h1
      have hfree' : ∀ k ok, ops[k]? = some ok → k ≠ i → (listed.setIfInBounds j true).getD k true = false →
          (∀ e ∈ ok.after, Region.binds md e = true → e.on ≠ i) → oi.apart ops ok = true := fun k ok hk hki hun hno => by
        refine hfree k ok hk hki ?_ hno
        by_cases hjk : j = k
        · subst hjk; exact hjun
        · rw [getD_set_ne true hjk] at hun; exact hun
      refine wpOp_mono (fun a' w' h3 => ⟨h3.2.1, ih (listed.setIfInBounds j true) a' w' hfree' (ready_mono hr (Ne.symm hji)) h3.1 ?_⟩) h2
      rw [Array.setIfInBounds_comm _ _ hji]
      exact h3.2.2
theorem wpAnyLast_take {i : Nat} {oi : Oper} {v : Value} {fuel : Nat} {listed : Array Bool} {a : Act} {w : World} (hi : ops[i]? = some oi)
    (hs : Region.noSelect ops = true) (hf : Region.free md ops listed i = true) (hr : (Region.ready md ops listed).contains i = true)
    (hc : Region.closedB md ops listed = true) (hl : Region.lastB md ops listed ds i = true)
    (hQ : ∀ c a w, Q (.panic c) (a.put oi.dst v) w → Q (.panic c) a w) (hy : YieldsIf P ops S oi v a) (hS : S w)
    (h : wpAnyLast P md ops Q S ds fuel (listed.setIfInBounds i true) (a.put oi.dst v) w) : wpAnyLast P md ops Q S ds (fuel + 1) listed a w :=
  wpAnyLast_first hi (Region.noSelect_spec hs) hQ ops.size fuel listed a w (Region.free_spec hi hf) (Region.closedB_spec hc)
    (fun d hm hun => by have := List.all_eq_true.1 hl d hm; rw [hun] at this; simpa using this) (by simpa using hr) hy hS h
theorem wpAnyLast_all {rs : List Nat} {fuel : Nat} {listed : Array Bool} {a : Act} {w : World} (hr : Region.ready md ops listed = rs) (hne : rs ≠ [])
    (h : ∀ i ∈ rs, wpOp P ops Q i (fun a' w' => (i ∉ ds → S w → S w') ∧ wpAnyLast P md ops Q S ds fuel (listed.setIfInBounds i true) a' w') a w) : wpAnyLast P md ops Q S ds (fuel + 1) listed a w :=
  ⟨fun h0 => absurd (hr ▸ h0) hne, hr ▸ h⟩
theorem wpAnyLast_done {listed : Array Bool} {a : Act} {w : World} (hr : Region.ready md ops listed = []) (h : Q .normal a w) :
    ∀ fuel, wpAnyLast P md ops Q S ds fuel listed a w
  | 0 => ⟨hr, h⟩
  | _ + 1 => ⟨fun _ => h, by rw [hr]; simp⟩
theorem wp_region_last {id : Nat} {a : Act} {w : World} (hm : P.follows .mixedOrders = true)
    (h : wpAnyLast P .any ops Q S ds ops.size (Array.replicate ops.size false) a { w with drawn := w.drawn + 1 }) : (Code.region id ops true).wp P Q a w :=
  wp_region_any hm (wpAny_of_last _ _ _ _ h)
end
section
variable {P : Program} {ops : Array Oper} {Q : Exit → Act → World → Prop} {md : Region.Mode} {S : World → Prop} {ds : List Nat}
def AllReadyL (P : Program) (md : Region.Mode) (ops : Array Oper) (Q : Exit → Act → World → Prop) (S : World → Prop) (ds : List Nat) (fuel : Nat) (listed : Array Bool) (a : Act) (w : World) (rs : List Nat) : Prop :=
  ∀ i ∈ rs, wpOp P ops Q i (fun a' w' => (i ∉ ds → S w → S w') ∧ wpAnyLast P md ops Q S ds fuel (listed.setIfInBounds i true) a' w') a w
theorem AllReadyL.nil {fuel : Nat} {listed : Array Bool} {a : Act} {w : World} : AllReadyL P md ops Q S ds fuel listed a w [] := fun _ h => by cases h
theorem AllReadyL.cons {fuel : Nat} {listed : Array Bool} {a : Act} {w : World} {i : Nat} {o : Oper} {rs : List Nat} (ho : ops[i]? = some o) (hd : i ∉ ds)
    (h : ∀ K' : Act → World → Prop, Shut (∀ a w, S w → (S w → wpAnyLast P md ops Q S ds fuel (listed.setIfInBounds i true) a w) → K' a w) → if Region.wanted o (yielded ops a.tmps) = true then Oper.wp P o a w K' Q else K' (a.put o.dst undef) w)
    (hs : AllReadyL P md ops Q S ds fuel listed a w rs) : AllReadyL P md ops Q S ds fuel listed a w (i :: rs) := fun j hj => by
  rcases List.mem_cons.1 hj with rfl | hj
  · exact wpOp_step ho (fun K' hK => h K' (fun a w hS hW => hK a w ⟨fun _ _ => hS, hW hS⟩))
  · exact hs j hj
theorem AllReadyL.cons_last {fuel : Nat} {listed : Array Bool} {a : Act} {w : World} {i : Nat} {o : Oper} {rs : List Nat} (ho : ops[i]? = some o) (hd : i ∈ ds)
    (h : ∀ K' : Act → World → Prop, Shut (∀ a w, wpAnyLast P md ops Q S ds fuel (listed.setIfInBounds i true) a w → K' a w) → if Region.wanted o (yielded ops a.tmps) = true then Oper.wp P o a w K' Q else K' (a.put o.dst undef) w)
    (hs : AllReadyL P md ops Q S ds fuel listed a w rs) : AllReadyL P md ops Q S ds fuel listed a w (i :: rs) := fun j hj => by
  rcases List.mem_cons.1 hj with rfl | hj
  · exact wpOp_step ho (fun K' hK => h K' (fun a w hW => hK a w ⟨fun hn => absurd hd hn, hW⟩))
  · exact hs j hj
theorem wpAnyLast_ready {rs : List Nat} {fuel : Nat} {listed : Array Bool} {a : Act} {w : World} (hr : Region.ready md ops listed = rs) (hne : rs ≠ [])
    (h : AllReadyL P md ops Q S ds fuel listed a w rs) : wpAnyLast P md ops Q S ds (fuel + 1) listed a w := wpAnyLast_all hr hne h
theorem start_ {id n : Nat} {a : Act} {w : World} (l : Array Bool) (hm : P.follows .mixedOrders = true) (hn : ops.size = n) (hl : Array.replicate n false = l) (hS : S w.drew)
    (h : S w.drew → wpAnyLast P .any ops Q S ds n l a w.drew) : (Code.region id ops true).wp P Q a w := by
  subst hn
  subst hl
  exact wp_region_last hm (h hS)
def takeB (md : Region.Mode) (ops : Array Oper) (ds : List Nat) (l l' : Array Bool) (i : Nat) : Bool :=
  Region.noSelect ops && Region.free md ops l i && (Region.ready md ops l).contains i && Region.closedB md ops l && Region.lastB md ops l ds i && (l.setIfInBounds i true == l')
theorem take_ {i : Nat} {N : Option Tmp} {oi : Oper} {v : Value} {fuel : Nat} {l : Array Bool} {a : Act} {w : World} (l' : Array Bool) (hi : ops[i]? = some oi) (hN : oi.dst = N) (hc : takeB md ops ds l l' i = true)
    (hQ : ∀ c a w, Q (.panic c) (a.put oi.dst v) w → Q (.panic c) a w) (hy : YieldsIf P ops S oi v a) (hS : S w) {a' : Act} (ha : a.put N v = a')
    (h : wpAnyLast P md ops Q S ds fuel l' a' w) : wpAnyLast P md ops Q S ds (fuel + 1) l a w := by
  subst ha
  subst hN
  simp only [takeB, Bool.and_eq_true, beq_iff_eq] at hc
  obtain ⟨⟨⟨⟨⟨h1, h2⟩, h3⟩, h4⟩, h5⟩, h6⟩ := hc
  subst h6
  exact wpAnyLast_take hi h1 h2 h3 h4 h5 hQ hy hS h
def anyB (md : Region.Mode) (ops : Array Oper) (l l' : Array Bool) (i : Nat) : Bool :=
  Region.noSelect ops && Region.free md ops l i && (Region.ready md ops l).contains i && (l.setIfInBounds i true == l')
theorem pure_ {i : Nat} {N : Option Tmp} {oi : Oper} {v : Value} {fuel : Nat} {l : Array Bool} {a : Act} {w : World} (l' : Array Bool) (hi : ops[i]? = some oi) (hN : oi.dst = N) (hc : anyB md ops l l' i = true)
    (hQ : ∀ c a w, Q (.panic c) (a.put oi.dst v) w → Q (.panic c) a w) (hy : Yields P ops oi v a) {a' : Act} (ha : a.put N v = a')
    (h : wpAnyLast P md ops Q S ds fuel l' a' w) : wpAnyLast P md ops Q S ds (fuel + 1) l a w := by
  subst ha
  subst hN
  simp only [anyB, Bool.and_eq_true, beq_iff_eq] at hc
  obtain ⟨⟨⟨h1, h2⟩, h3⟩, h6⟩ := hc
  subst h6
  exact wpAnyLast_any hi (Region.noSelect_spec h1) hQ fuel l a w (Region.free_spec hi h2) (by simpa using h3) hy h
def readyB (md : Region.Mode) (ops : Array Oper) (l l' : Array Bool) (i : Nat) : Bool := (Region.ready md ops l == [i]) && (l.setIfInBounds i true == l')
theorem one_ {i : Nat} {N : Option Tmp} {oi : Oper} {fuel : Nat} {l : Array Bool} {a : Act} {w : World} (l' : Array Bool) (hi : ops[i]? = some oi) (hN : oi.dst = N) (hc : readyB md ops l l' i = true) (hd : i ∉ ds)
    (h : ∀ K : Act → World → Prop, Shut (∀ a' w', S w' → (S w' → wpAnyLast P md ops Q S ds fuel l' a' w') → K a' w') → if Region.wanted oi (yielded ops a.tmps) = true then Oper.wp P oi a w K Q else K (a.put N undef) w) :
    wpAnyLast P md ops Q S ds (fuel + 1) l a w := by
  subst hN
  simp only [readyB, Bool.and_eq_true, beq_iff_eq] at hc
  obtain ⟨h1, h2⟩ := hc
  subst h2
  exact wpAnyLast_ready h1 (by simp) (AllReadyL.cons hi hd (fun K hK => h K hK) AllReadyL.nil)
theorem last_ {i : Nat} {N : Option Tmp} {oi : Oper} {fuel : Nat} {l : Array Bool} {a : Act} {w : World} (l' : Array Bool) (hi : ops[i]? = some oi) (hN : oi.dst = N) (hc : readyB md ops l l' i = true) (hd : i ∈ ds)
    (h : ∀ K : Act → World → Prop, Shut (∀ a' w', wpAnyLast P md ops Q S ds fuel l' a' w' → K a' w') → if Region.wanted oi (yielded ops a.tmps) = true then Oper.wp P oi a w K Q else K (a.put N undef) w) :
    wpAnyLast P md ops Q S ds (fuel + 1) l a w := by
  subst hN
  simp only [readyB, Bool.and_eq_true, beq_iff_eq] at hc
  obtain ⟨h1, h2⟩ := hc
  subst h2
  exact wpAnyLast_ready h1 (by simp) (AllReadyL.cons_last hi hd (fun K hK => h K hK) AllReadyL.nil)
theorem done_ {l : Array Bool} {a : Act} {w : World} {n : Nat} (hr : (Region.ready md ops l == []) = true) (h : Q .normal a w) : wpAnyLast P md ops Q S ds n l a w := wpAnyLast_done (by simpa using hr) h n
theorem norm_ {fuel : Nat} {l : Array Bool} {a a' : Act} {w : World} (ha : a = a') (h : wpAnyLast P md ops Q S ds fuel l a' w) : wpAnyLast P md ops Q S ds fuel l a w := by
  subst ha
  exact h
theorem call_ {oi : Oper} {N : Option Tmp} {a : Act} {w : World} {K : Act → World → Prop} (f : FuncId) (args : Array Value) (hw : Region.wanted oi (yielded ops a.tmps) = true) (hN : oi.dst = N) (hrun : (execOp a.eval oi).run P w = .ok (.enter f args) w)
    (h : Calls P f args w fun e w' => ∃ v, e = .returned v ∧ K (a.put N v) w') : if Region.wanted oi (yielded ops a.tmps) = true then Oper.wp P oi a w K Q else K (a.put N undef) w := by
  rw [if_pos hw]
  subst hN
  unfold Oper.wp
  rw [hrun, Oper.upon_enter]
  refine h.mono fun e w'' hh => ?_
  obtain ⟨v, rfl, hk⟩ := hh
  exact hk
theorem enters_ {f : FuncId} {fn : Func} (hf : P.funcs[f]? = some fn) (hname : (fn.name == "runtime.NumGoroutine") = false) (hb : fn.body.isSome = true) (args : Array Value) (w : World) : (callFunc f args).run P w = .ok (.enter f args) w := by
  have h1 : fn.name ≠ "runtime.NumGoroutine" := by simpa using hname
  obtain ⟨c, hc⟩ := Option.isSome_iff_exists.1 hb
  simp [callFunc, hf, h1, hc]
theorem goes_ {oi : Oper} {N : Option Tmp} {a : Act} {w : World} {K : Act → World → Prop} {f : FuncId} {fn : Func} {as : Array Operand} {ts : Array TypeId} (hf : P.funcs[f]? = some fn) (hname : (fn.name == "runtime.NumGoroutine") = false) (hb : fn.body.isSome = true) (args : Array Value)
    (hw : Region.wanted oi (yielded ops a.tmps) = true) (hN : oi.dst = N) (hop : oi.op = .call { callee := .value (.func f), args := as, argTypes := ts }) (hargs : as.map a.eval = args)
    (h : Calls P f args w fun e w' => ∃ v, e = .returned v ∧ K (a.put N v) w') : if Region.wanted oi (yielded ops a.tmps) = true then Oper.wp P oi a w K Q else K (a.put N undef) w := by
  refine call_ f args hw hN ?_ h
  have he := enters_ hf hname hb args w
  unfold execOp
  simp [hop, resolve, Deferred.ofValue, invoke, Act.eval, hargs, he]
theorem goesL_ {rest : List Oper} {oi : Oper} {a : Act} {w : World} (N : Option Tmp) (hd : oi.dst = N) (hg : oi.guard = none) {f : FuncId} {fn : Func} {as : Array Operand} {ts : Array TypeId} (hf : P.funcs[f]? = some fn) (hname : (fn.name == "runtime.NumGoroutine") = false) (hb : fn.body.isSome = true) (args : Array Value)
    (hop : oi.op = .call { callee := .value (.func f), args := as, argTypes := ts }) (hargs : as.map a.eval = args)
    (h : Calls P f args w fun e w' => ∃ v, e = .returned v ∧ wpList P ops Q rest (a.put N v) w') : wpList P ops Q (oi :: rest) a w := by
  refine wpList_plain hg fun K hK => ?_
  have he := enters_ hf hname hb args w
  have hrun : (execOp a.eval oi).run P w = .ok (.enter f args) w := by
    unfold execOp
    simp [hop, resolve, Deferred.ofValue, invoke, Act.eval, hargs, he]
  unfold Oper.wp
  rw [hrun, Oper.upon_enter]
  refine h.mono fun e w'' hh => ?_
  obtain ⟨v, rfl, hk⟩ := hh
  subst hd
  exact hK _ _ hk
theorem skip_ {oi : Oper} {a : Act} {w w1 : World} {K : Act → World → Prop} (hw : Region.wanted oi (yielded ops a.tmps) = true) (hN : oi.dst = none) (hrun : (execOp a.eval oi).run P w = .ok .skip w1)
    (h : K a w1) : if Region.wanted oi (yielded ops a.tmps) = true then Oper.wp P oi a w K Q else K (a.put none undef) w := by
  rw [if_pos hw]
  unfold Oper.wp
  rw [hrun]
  show K (a.put oi.dst undef) w1
  rw [hN]
  exact h
theorem i64_w (n : Int) : IntKind.i64.wrap n = Go.RowKit.wrap64 n := by unfold Go.RowKit.wrap64; exact IntKind.wrap_i64 n
theorem i32_w (n : Int) : IntKind.i32.wrap n = Go.RowKit.wrap32 n := by unfold Go.RowKit.wrap32; exact IntKind.wrap_i32 n
end
end Go.Proofs.YtkdakjlopheefaaW.PrintLast
end
section
namespace Go.Proofs.YtkdakjlopheefaaW.PrintLast
open Go.Proofs.YtkdakjlopheefaaW.PrintWords (Aside0)
def needsOf (md : Region.Mode) (o : Oper) : List Nat := (o.after.toList.filter (fun e => Region.binds md e)).map (fun e => e.on)
def clashOf (md : Region.Mode) (ops : Array Oper) (i : Nat) (oi : Oper) : List Nat := (List.range ops.size).filter fun j => !(j == i) && match ops[j]? with
  | some oj => !(oj.after.any (fun e => Region.binds md e && e.on == i) || oi.apart ops oj)
  | none => false
def rtab (md : Region.Mode) (ops : Array Oper) : Bool × List (List Nat × List Nat) := (Region.noSelect ops, (List.range ops.size).map fun i => match ops[i]? with
  | some o => (needsOf md o, clashOf md ops i o)
  | none => ([], []))
def readyAt (T : List (List Nat × List Nat)) (l : List Bool) (i : Nat) : Bool := !l.getD i true && match T[i]? with
  | some r => r.1.all (fun j => l.getD j false)
  | none => false
def readyT (T : List (List Nat × List Nat)) (l : List Bool) : List Nat := (List.range T.length).filter (readyAt T l)
def freeT (T : List (List Nat × List Nat)) (l : List Bool) (i : Nat) : Bool := match T[i]? with
  | some r => r.2.all (fun j => l.getD j true)
  | none => false
def closedT (T : List (List Nat × List Nat)) (l : List Bool) : Bool := (List.range T.length).all fun j => !l.getD j false || match T[j]? with
  | some r => r.1.all (fun k => l.getD k false)
  | none => true
def reachT (T : List (List Nat × List Nat)) (i : Nat) : Nat → Nat → Bool
  | 0, _ => false
  | fuel + 1, d => match T[d]? with
    | some r => r.1.any fun j => j == i || reachT T i fuel j
    | none => false
def lastT (T : List (List Nat × List Nat)) (l : List Bool) (ds : List Nat) (i : Nat) : Bool := ds.all fun d => l.getD d true || reachT T i T.length d
section
variable {md : Region.Mode} {ops : Array Oper} {T : Bool × List (List Nat × List Nat)} {l l' li lj lk : Array Bool} {ds : List Nat} {i j k : Nat}
theorem gd (l : Array Bool) (j : Nat) (b : Bool) : l.getD j b = l.toList.getD j b := by simp [Array.getD_eq_getD_getElem?, List.getD_eq_getElem?_getD]
theorem needs_all (o : Oper) (p : Nat → Bool) : o.after.all (fun e => !Region.binds md e || p e.on) = (needsOf md o).all p := by
  unfold needsOf
  rw [← Array.all_toList]
  induction o.after.toList with
  | nil => rfl
  | cons e r ih =>
    rw [List.all_cons, ih, List.filter_cons]
    cases h : Region.binds md e <;> simp
theorem needs_any (o : Oper) (p : Nat → Bool) : o.after.any (fun e => Region.binds md e && p e.on) = (needsOf md o).any p := by
  unfold needsOf
  rw [← Array.any_toList]
  induction o.after.toList with
  | nil => rfl
  | cons e r ih =>
    rw [List.any_cons, ih, List.filter_cons]
    cases h : Region.binds md e <;> simp
theorem rtab_length : (rtab md ops).2.length = ops.size := by simp [rtab]
theorem rtab_some {o : Oper} (h : ops[i]? = some o) : (rtab md ops).2[i]? = some (needsOf md o, clashOf md ops i o) := by
  have hi := (Array.getElem?_eq_some_iff.1 h).1
  unfold rtab
  rw [List.getElem?_map, List.getElem?_range hi, Option.map_some, h]
theorem rtab_none (h : ops[i]? = none) : (rtab md ops).2[i]? = none := by
  have hi : ops.size ≤ i := Array.getElem?_eq_none_iff.1 h
  exact List.getElem?_eq_none (by rw [rtab_length]; exact hi)
theorem readyAt_eq : readyAt (rtab md ops).2 l.toList i = (!l.getD i true && ((ops[i]?).map (·.after.all fun e => !Region.binds md e || l.getD e.on false)).getD false) := by
  unfold readyAt
  rw [gd]
  cases h : ops[i]? with
  | none => rw [rtab_none h]; rfl
  | some o =>
    rw [rtab_some h]
    simp only [Option.map_some, Option.getD_some]
    rw [← needs_all]
    simp only [gd]
theorem ready_eq : Region.ready md ops l = readyT (rtab md ops).2 l.toList := by
  unfold Region.ready readyT
  rw [rtab_length]
  refine List.filter_congr (fun i _ => ?_)
  rw [readyAt_eq]
theorem free_eq : Region.free md ops l i = freeT (rtab md ops).2 l.toList i := by
  unfold Region.free freeT
  cases h : ops[i]? with
  | none => rw [rtab_none h]
  | some oi =>
    rw [rtab_some h]
    simp only [clashOf]
    rw [List.all_filter]
    congr 1
    funext j
    rw [gd]
    cases hj : ops[j]? with
    | none => cases (j == i) <;> cases (l.toList.getD j true) <;> simp
    | some oj =>
      cases (j == i) <;> cases (l.toList.getD j true) <;> cases (oj.after.any (fun e => Region.binds md e && e.on == i) || oi.apart ops oj) <;> simp_all
theorem closed_eq : Region.closedB md ops l = closedT (rtab md ops).2 l.toList := by
  unfold Region.closedB closedT
  rw [rtab_length]
  congr 1
  funext j
  rw [gd]
  cases h : ops[j]? with
  | none => rw [rtab_none h]
  | some o =>
    rw [rtab_some h]
    simp only
    rw [← needs_all]
    simp only [gd]
theorem reach_eq : ∀ (fuel d : Nat), Region.reachB md ops i fuel d = reachT (rtab md ops).2 i fuel d
  | 0, _ => rfl
  | fuel + 1, d => by
    unfold Region.reachB reachT
    cases h : ops[d]? with
    | none => rw [rtab_none h]
    | some o =>
      rw [rtab_some h]
      simp only
      rw [← needs_any]
      congr 1
      funext e
      rw [reach_eq fuel]
theorem last_eq : Region.lastB md ops l ds i = lastT (rtab md ops).2 l.toList ds i := by
  unfold Region.lastB lastT
  rw [rtab_length]
  congr 1
  funext d
  rw [gd, reach_eq]
theorem readyAt_mem (h : readyAt T.2 l.toList i = true) (hT : rtab md ops = T) : (Region.ready md ops l).contains i = true := by
  subst hT
  rw [ready_eq]
  unfold readyT
  rw [List.contains_iff_mem, List.mem_filter, List.mem_range]
  refine ⟨?_, h⟩
  unfold readyAt at h
  rw [Bool.and_eq_true] at h
  cases hq : (rtab md ops).2[i]? with
  | none => rw [hq] at h; simp at h
  | some r => exact (List.getElem?_eq_some_iff.1 hq).1
theorem set_of (h : (l.toList.set i true == l'.toList) = true) : (l.setIfInBounds i true == l') = true := by
  rw [beq_iff_eq] at h ⊢
  apply Array.ext'
  rw [Array.toList_setIfInBounds]
  exact h
def anyT (T : Bool × List (List Nat × List Nat)) (l l' : List Bool) (i : Nat) : Bool := T.1 && freeT T.2 l i && readyAt T.2 l i && (l.set i true == l')
theorem any_of (hT : rtab md ops = T) (h : anyT T l.toList l'.toList i = true) : anyB md ops l l' i = true := by
  simp only [anyT, Bool.and_eq_true] at h
  obtain ⟨⟨⟨h1, h2⟩, h3⟩, h4⟩ := h
  have h5 := readyAt_mem h3 hT
  have h6 := set_of h4
  subst hT
  simp only [anyB, Bool.and_eq_true]
  exact ⟨⟨⟨h1, by rw [free_eq]; exact h2⟩, h5⟩, h6⟩
def takeT (T : Bool × List (List Nat × List Nat)) (ds : List Nat) (l l' : List Bool) (i : Nat) : Bool := T.1 && freeT T.2 l i && readyAt T.2 l i && closedT T.2 l && lastT T.2 l ds i && (l.set i true == l')
theorem take_of (hT : rtab md ops = T) (h : takeT T ds l.toList l'.toList i = true) : takeB md ops ds l l' i = true := by
  simp only [takeT, Bool.and_eq_true] at h
  obtain ⟨⟨⟨⟨⟨h1, h2⟩, h3⟩, h4⟩, h5⟩, h6⟩ := h
  have h7 := readyAt_mem h3 hT
  have h8 := set_of h6
  subst hT
  simp only [takeB, Bool.and_eq_true]
  exact ⟨⟨⟨⟨⟨h1, by rw [free_eq]; exact h2⟩, h7⟩, by rw [closed_eq]; exact h4⟩, by rw [last_eq]; exact h5⟩, h8⟩
theorem one_of (hT : rtab md ops = T) (h : (readyT T.2 l.toList == [i] && l.toList.set i true == l'.toList) = true) : readyB md ops l l' i = true := by
  simp only [Bool.and_eq_true] at h
  obtain ⟨h1, h2⟩ := h
  subst hT
  simp only [readyB, Bool.and_eq_true]
  exact ⟨by rw [ready_eq]; exact h1, set_of h2⟩
theorem done_of (hT : rtab md ops = T) (h : (readyT T.2 l.toList == []) = true) : (Region.ready md ops l == []) = true := by
  subst hT
  rw [ready_eq]
  exact h
def upM (B : List Nat) (d : Nat) : List Nat → Nat
  | [] => 0
  | n :: r => (2 ^ n ||| (if n < d then B.getD n 0 else 0)) ||| upM B d r
def waitsOk (T : List (List Nat × List Nat)) (B : List Nat) : Bool := (List.range T.length).all fun d => match T[d]? with
  | some r => (B.getD d 0 ||| upM B d r.1) == upM B d r.1
  | none => false
theorem upM_bit {B : List Nat} {d i : Nat} : ∀ {ns : List Nat}, (upM B d ns).testBit i = true → ∃ n ∈ ns, n = i ∨ (n < d ∧ (B.getD n 0).testBit i = true)
  | [], h => by simp [upM] at h
  | n :: r, h => by
    unfold upM at h
    rw [Nat.testBit_or, Nat.testBit_or, Bool.or_eq_true, Bool.or_eq_true] at h
    rcases h with (h | h) | h
    · rw [Nat.testBit_two_pow] at h
      exact ⟨n, List.mem_cons_self, .inl (by simpa using h)⟩
    · by_cases hn : n < d
      · rw [if_pos hn] at h
        exact ⟨n, List.mem_cons_self, .inr ⟨hn, h⟩⟩
      · rw [if_neg hn] at h
        simp at h
    · obtain ⟨m, hm, h2⟩ := upM_bit h
      exact ⟨m, List.mem_cons_of_mem _ hm, h2⟩
theorem reach_bit {T : List (List Nat × List Nat)} {B : List Nat} (hB : waitsOk T B = true) : ∀ (fuel d : Nat), d < fuel → d < T.length → (B.getD d 0).testBit i = true → reachT T i fuel d = true
  | 0, d, h, _, _ => by omega
  | fuel + 1, d, h, hd, hb => by
    have h1 := List.all_eq_true.1 hB d (List.mem_range.2 hd)
    cases hr : T[d]? with
    | none => rw [hr] at h1; simp at h1
    | some r =>
      rw [hr] at h1
      simp only [beq_iff_eq] at h1
      have h2 : (upM B d r.1).testBit i = true := by rw [← h1, Nat.testBit_or, hb, Bool.true_or]
      obtain ⟨n, hn, h3⟩ := upM_bit h2
      unfold reachT
      rw [hr]
      simp only
      rw [List.any_eq_true]
      refine ⟨n, hn, ?_⟩
      rcases h3 with rfl | ⟨h4, h5⟩
      · simp
      · rw [reach_bit hB fuel n (by omega) (by omega) h5, Bool.or_true]
def lastW (T : List (List Nat × List Nat)) (B : List Nat) (l : List Bool) (ds : List Nat) (i : Nat) : Bool := ds.all fun d => l.getD d true || (decide (d < T.length) && (B.getD d 0).testBit i)
def takeW (T : Bool × List (List Nat × List Nat)) (B : List Nat) (ds : List Nat) (l l' : List Bool) (i : Nat) : Bool := T.1 && freeT T.2 l i && readyAt T.2 l i && closedT T.2 l && lastW T.2 B l ds i && (l.set i true == l')
theorem take_ofW {B : List Nat} (hT : rtab md ops = T) (hB : waitsOk T.2 B = true) (h : takeW T B ds l.toList l'.toList i = true) : takeB md ops ds l l' i = true := by
  refine take_of hT ?_
  simp only [takeW, takeT, Bool.and_eq_true] at h ⊢
  obtain ⟨⟨⟨⟨⟨h1, h2⟩, h3⟩, h4⟩, h5⟩, h6⟩ := h
  refine ⟨⟨⟨⟨⟨h1, h2⟩, h3⟩, h4⟩, ?_⟩, h6⟩
  unfold lastW at h5
  unfold lastT
  rw [List.all_eq_true] at h5 ⊢
  intro d hd
  have h7 := h5 d hd
  rw [Bool.or_eq_true, Bool.and_eq_true, decide_eq_true_eq] at h7
  rcases h7 with h7 | ⟨h8, h9⟩
  · rw [h7, Bool.true_or]
  · rw [reach_bit hB _ d h8 h8 h9, Bool.or_true]
theorem with_tabW {P : Program} {Q : Exit → Act → World → Prop} {S : World → Prop} {n : Nat} {a : Act} {w : World} {B : List Nat} (hT : rtab md ops = T) (hB : waitsOk T.2 B = true) (h : Aside0 (rtab md ops = T) → Aside0 (waitsOk T.2 B = true) → wpAnyLast P md ops Q S ds n l a w) : wpAnyLast P md ops Q S ds n l a w := h ⟨hT⟩ ⟨hB⟩
end
def opsIn : Code → Nat → Option (Array Oper)
  | .region id ops _, k => if id == k then some ops else none
  | .seq a b, k => match opsIn a k with
    | some o => some o
    | none => opsIn b k
  | .cond _ a b, k => match opsIn a k with
    | some o => some o
    | none => opsIn b k
  | .block _ c, k => opsIn c k
  | .loop c, k => opsIn c k
  | .scope c, k => opsIn c k
  | .rangeFunc _ _ a b, k => match opsIn a k with
    | some o => some o
    | none => opsIn b k
  | _, _ => none
def opsOf (f : Func) (k : Nat) : Array Oper := ((f.body.bind fun c => opsIn c k)).getD #[]
end Go.Proofs.YtkdakjlopheefaaW.PrintLast
end
section
namespace Go.Proofs.YtkdakjlopheefaaW.PrintWords
open Go.RowKit
namespace Kd
def tag {α : Type} (f : Nat → Nat) (d : Kd α) : Kd (α × Nat) where
  sz := d.sz
  E := d.E
  K := fun w x cs => d.K w x.1 cs
  M := fun w base ok x cs => d.M w base (fun k => ok k ∧ f k = x.2) x.1 cs
  K_len := fun h => d.K_len h
  K_one := fun h => d.K_one h
  K_below := fun hb h => d.K_below hb h
  K_of_M := fun h => d.K_of_M h
  M_mono := fun hok h => d.M_mono (fun k hk => ⟨hok k hk.1, hk.2⟩) h
  M_bound := fun h => d.M_mono (fun _ hk => ⟨⟨hk.1.1, hk.2⟩, hk.1.2⟩) (d.M_bound h)
  M_move := fun hm h => d.M_move (fun k hk => hm k hk.1) h
  M_lower := fun hb h => d.M_lower hb h
def raw (sz : Nat) : Kd (List Value) where
  sz := sz
  E := []
  K := fun _ x cs => cs = x ∧ cs.length = sz ∧ ∀ u ∈ cs, u.oneCell' = true
  M := fun _ _ _ x cs => cs = x ∧ cs.length = sz ∧ ∀ u ∈ cs, u.oneCell' = true
  K_len := fun h => h.2.1
  K_one := fun h => h.2.2
  K_below := fun _ h => h
  K_of_M := fun h => h
  M_mono := fun _ h => h
  M_bound := fun h => h
  M_move := fun _ h => h
  M_lower := fun _ h => h
def S {α : Type} (d : Kd α) (e : Nat) (w : World) (base : Nat) (ok : Nat → Prop) (v : Value) (xs : List α) : Prop := ∃ f, (tag f d).R e w base ok v xs.zipIdx
section
variable {α β : Type} {d : Kd α} {d' : Kd β} {e e' : Nat} {w w1 W : World} {base b : Nat} {ok ok' okv oku : Nat → Prop} {u v : Value} {xs : List α} {ys : List β}
theorem R_tight (hE : d.E = []) (h : d.R e w base ok v xs) : d.R e w base (fun k => some k = v.ownBlock) v xs := by
  obtain ⟨h0, inner, ho, hr⟩ := h
  refine ⟨fun k hk => hk.symm, inner, ho, hr.imp_ (fun p c hp => d.M_mono (fun k hk => ?_) (d.M_bound hp))⟩
  obtain ⟨_, _, _, q, hq, _⟩ := hk
  rw [hE] at hq
  cases hq
end
def gap {α : Type} (f : Nat → Nat) (d : Kd α) (i : Nat) (c : List Value) : Kd (α × Nat) where
  sz := d.sz
  E := d.E
  K := fun w x cs => (x.2 = i → cs = c ∧ cs.length = d.sz ∧ ∀ u ∈ cs, u.oneCell' = true) ∧ (x.2 ≠ i → d.K w x.1 cs)
  M := fun w base ok x cs => (x.2 = i → cs = c ∧ cs.length = d.sz ∧ ∀ u ∈ cs, u.oneCell' = true) ∧ (x.2 ≠ i → d.M w base (fun k => ok k ∧ f k = x.2) x.1 cs)
  K_len := fun {w x cs} h => by
    by_cases hx : x.2 = i
    · exact (h.1 hx).2.1
    · exact d.K_len (h.2 hx)
  K_one := fun {w x cs} h => by
    by_cases hx : x.2 = i
    · exact (h.1 hx).2.2
    · exact d.K_one (h.2 hx)
  K_below := fun hb h => ⟨h.1, fun hx => d.K_below hb (h.2 hx)⟩
  K_of_M := fun h => ⟨h.1, fun hx => d.K_of_M (h.2 hx)⟩
  M_mono := fun hok h => ⟨h.1, fun hx => d.M_mono (fun k hk => ⟨hok k hk.1, hk.2⟩) (h.2 hx)⟩
  M_bound := fun h => ⟨h.1, fun hx => d.M_mono (fun _ hk => ⟨⟨hk.1.1, hk.2⟩, hk.1.2⟩) (d.M_bound (h.2 hx))⟩
  M_move := fun hm h => ⟨h.1, fun hx => d.M_move (fun k hk => hm k hk.1) (h.2 hx)⟩
  M_lower := fun hb h => ⟨h.1, fun hx => d.M_lower hb (h.2 hx)⟩
def H {α : Type} (d : Kd α) (e : Nat) (w : World) (base : Nat) (ok : Nat → Prop) (v : Value) (xs : List α) (i : Int) (oki : Nat → Prop) (c : List Value) : Prop :=
  (∀ k, oki k → ok k) ∧ ∃ f, (gap f d i.toNat c).R e w base (fun k => ok k ∧ ¬ oki k) v xs.zipIdx
end Kd
end Go.Proofs.YtkdakjlopheefaaW.PrintWords
end
section
namespace Go.Proofs.YtkdakjlopheefaaW.PrintWords
open Go.RowKit
def Kept (w W : World) (S : Nat → Prop) : Prop := w.heap.size ≤ W.heap.size ∧ ∀ i, i < w.heap.size → ¬ S i → W.heap[i]? = w.heap[i]?
section
variable {w W W2 : World} {S S2 S' : Nat → Prop}
theorem Kept.refl (w : World) (S : Nat → Prop) : Kept w w S := ⟨Nat.le_refl _, fun _ _ _ => rfl⟩
theorem blk_kept {g : Nat} {o : Obj} (hb : W.heap[g]? = some o) (hk : Kept W W2 S) (hne : ¬ S g) : W2.heap[g]? = some o := (hk.2 g (blk_lt hb) hne).trans hb
end
namespace Kd
section
variable {α : Type} {d : Kd α} {e base n c : Nat} {ok oki S S2 : Nat → Prop} {w w0 W W1 W2 : World} {v : Value} {A : Option Addr} {xs : List α} {i : Int} {cs : List Value}
theorem R_kept (h : d.R e W base ok v xs) (hk : Kept W W2 S) (hne : ∀ k, ok k → ¬ S k) : d.R e W2 base ok v xs := R_step h (fun k ho hlt => hk.2 k hlt (hne k ho))
end
end Kd
end Go.Proofs.YtkdakjlopheefaaW.PrintWords
end
section
namespace Go.Proofs.YtkdakjlopheefaaW.PrintWords
open Go.RowKit
def Foot (P : World → Prop) (W : World) (ok : Nat → Prop) : Prop := ∀ W' : World, (∀ k, ok k → k < W.heap.size → W'.heap[k]? = W.heap[k]?) → P W'
theorem heap_lt {W W1 : World} {k : Nat} (h : W1.heap[k]? = W.heap[k]?) (hlt : k < W.heap.size) : k < W1.heap.size := by
  rw [Array.getElem?_eq_getElem hlt] at h
  exact (Array.getElem?_eq_some_iff.1 h).1
namespace Foot
variable {P Q : World → Prop} {W W1 : World} {ok ok' : Nat → Prop}
theorem bound (h : Foot P W ok) : Foot P W (fun k => ok k ∧ k < W.heap.size) := fun W' hW => h W' (fun k hk hlt => hW k ⟨hk, hlt⟩ hlt)
theorem step (h : Foot P W ok) (hm : ∀ k, ok k → k < W.heap.size → W1.heap[k]? = W.heap[k]?) : Foot P W1 ok := fun W' hW => h W' (fun k hk hlt => (hW k hk (heap_lt (hm k hk hlt) hlt)).trans (hm k hk hlt))
theorem old (h : Foot P W ok) (hb : Below W.heap.size W W1) : Foot P W1 (fun k => ok k ∧ k < W.heap.size) := (h.bound).step (fun k _ hlt => hb.block k hlt)
end Foot
namespace Kd
def F {α : Type} (d : Kd α) (W : World) (ok : Nat → Prop) (A : Option Addr) (n : Nat) (xs : List α) : Prop := Foot (fun W => d.C W A n xs) W ok
def FK {α : Type} (d : Kd α) (W : World) (ok : Nat → Prop) (x : α) (c : List Value) : Prop := Foot (fun W => d.K W x c) W ok
end Kd
end Go.Proofs.YtkdakjlopheefaaW.PrintWords
end
section
namespace Go.Proofs.YtkdakjlopheefaaW.PrintWords
open Go.RowKit
namespace Kd
section
variable {α : Type} {d : Kd α} {e base n cc g : Nat} {ok ok' okp S : Nat → Prop} {w w1 W W1 : World} {A : Option Addr} {u v v1 : Value} {xs : List α} {x : α} {c : List Value}
def N {α : Type} (d : Kd α) (e : Nat) (w : World) (base : Nat) (ok : Nat → Prop) (v : Value) (xs : List α) : Prop :=
  (∀ k, v.ownBlock = some k → ok k) ∧ ∃ rows : List (List Value), rows.length = xs.length ∧ (raw d.sz).R e w base (fun k => some k = v.ownBlock) v rows ∧ ∀ (j : Nat) (x : α) (c : List Value), xs[j]? = some x → rows[j]? = some c → FK d w (fun k => ok k ∧ some k ≠ v.ownBlock) x c
end
end Kd
end Go.Proofs.YtkdakjlopheefaaW.PrintWords
end
section
namespace Go.Proofs.YtkdakjlopheefaaW.PrintWords
open Go.RowKit
namespace Kd
theorem emptied_at (W : World) (g : Nat) : ∃ W' : World, W'.heap.size = W.heap.size ∧ (∀ k, k ≠ g → W'.heap[k]? = W.heap[k]?) ∧ ∀ a : Addr, a.block = g → W'.cell? a = none := by
  refine ⟨{ W with heap := W.heap.setIfInBounds g (.cells #[] 0) }, by simp, fun k hk => by simp [Ne.symm hk], fun a ha => ?_⟩
  subst ha
  by_cases hlt : a.block < W.heap.size
  · simp [World.cell?, hlt]
  · simp [World.cell?, hlt]
section
variable {α : Type} {d : Kd α} {W : World} {g n : Nat} {S ok : Nat → Prop} {A : Option Addr} {ad : Addr} {xs : List α}
theorem C_not_empty (h : d.C W (some ad) n xs) (hn : 0 < n) (hs : 0 < d.sz) : W.cell? ad ≠ none := by
  obtain ⟨ad', he, hc⟩ := h.2.2 hn
  injection he with he
  subst he
  obtain ⟨c, hcl, _, hcell⟩ := hc 0 _ (List.getElem?_eq_getElem (by rw [h.1]; exact hn))
  have h1 := hcell 0 _ (List.getElem?_eq_getElem (by omega))
  rw [Nat.zero_mul, Nat.zero_add, Addr.add_zero'] at h1
  rw [h1]
  exact Option.some_ne_none _
theorem foot_ne (h : ∀ W', KeepBut W W' g none → d.C W' (some ad) n xs) (hn : 0 < n) (hs : 0 < d.sz) : ad.block ≠ g := by
  intro he
  obtain ⟨W', h1, h2, h3⟩ := emptied_at W g
  exact C_not_empty (h W' ⟨Nat.le_of_eq h1.symm, fun i _ hi _ => h2 i hi⟩) hn hs (h3 ad he)
theorem C_lt (h : d.C W (some ad) n xs) (hn : 0 < n) (hs : 0 < d.sz) : ad.block < W.heap.size := by
  cases hc : W.cell? ad with
  | none => exact absurd hc (C_not_empty h hn hs)
  | some v => exact World.block_lt_of_cell? W ad hc
end
end Kd
end Go.Proofs.YtkdakjlopheefaaW.PrintWords
end
section
namespace Go.Proofs.YtkdakjlopheefaaW.PrintWords
theorem Reps.one {α : Type} {R : α → List Value → Prop} {ps : List α} {cs : List Value} {p : α} {v : Value} (hp : R p [v]) (h : Reps R 1 ps cs) : Reps R 1 (p :: ps) (v :: cs) := by
  refine ⟨by simp [h.1], fun j q hq => ?_⟩
  cases j with
  | zero =>
    simp only [List.getElem?_cons_zero, Option.some.injEq] at hq
    subst hq
    simpa using hp
  | succ j =>
    simp only [List.getElem?_cons_succ] at hq
    have h1 := h.2 j q hq
    simpa [Nat.mul_one] using h1
end Go.Proofs.YtkdakjlopheefaaW.PrintWords
end
section
namespace Go.Proofs.YtkdakjlopheefaaW.PrintWords
open Go.RowKit
section
variable {P : Program} {ops : Array Oper} {rest : List Oper} {o : Oper} {a : Act} {Q : Exit → Act → World → Prop} {W : World}
theorem gate_guard (hw : Region.wanted o (yielded ops a.tmps) = true) (h : wpList P ops Q ({ o with guard := none } :: rest) a W) : wpList P ops Q (o :: rest) a W := by
  have h1 : Region.wanted { o with guard := none } (yielded ops a.tmps) = true := rfl
  unfold wpList at h ⊢
  rw [if_pos h1] at h
  rw [if_pos hw]
  exact h
end
end Go.Proofs.YtkdakjlopheefaaW.PrintWords
end
section
namespace Go.Proofs.YtkdakjlopheefaaW.PrintMore
open Go.RowKit Go.Proofs.YtkdakjlopheefaaW.PrintWords
namespace Kd
open Go.Proofs.YtkdakjlopheefaaW.PrintWords.Kd
section
variable {α : Type} {d : Kd α} {e base g N : Nat} {ok : Nat → Prop} {W w1 : World} {u v : Value} {xs : List α}
theorem R_oldK (hu : d.R e W base (fun k => ok k ∧ k ≠ g) u xs) (hk : KeepBut W w1 g none) : d.R e w1 base (fun k => ok k ∧ k < W.heap.size) u xs :=
  R_mono (R_keep (R_bound hu) hk (fun _ h => h.1.2)) (fun _ h => ⟨h.1.1, h.2.2.1⟩)
theorem R_told (h : d.R e w1 base (fun k => ok k ∧ k < N) u xs) (hbase : ∀ k, v.ownBlock = some k → N ≤ k) : d.R e w1 base (fun k => (ok k ∧ some k ≠ v.ownBlock) ∧ k < N) u xs :=
  R_mono h (fun k hk => ⟨⟨hk.1, fun e => Nat.lt_irrefl _ (Nat.lt_of_lt_of_le hk.2 (hbase k e.symm))⟩, hk.2⟩)
end
end Kd
theorem max2_int (k k' : IntKind) (x y : Int) : Builtin.max2 (.int k x) (.int k' y) = pure (.int k (if x < y then y else x)) := by simp only [Builtin.max2, gt_iff_lt]
theorem min2_int (k k' : IntKind) (x y : Int) : Builtin.min2 (.int k x) (.int k' y) = pure (.int k (if y < x then y else x)) := by simp only [Builtin.min2]
theorem max_two (ats : Array TypeId) (ty : TypeId) (a b : Value) : Builtin.max_ ats ty #[a, b] = (Builtin.max2 a b >>= fun s => pure s) := by simp only [Builtin.max_, List.foldlM_cons, List.foldlM_nil]
theorem min_two (ats : Array TypeId) (ty : TypeId) (a b : Value) : Builtin.min_ ats ty #[a, b] = (Builtin.min2 a b >>= fun s => pure s) := by simp only [Builtin.min_, List.foldlM_cons, List.foldlM_nil]
theorem max_three (ats : Array TypeId) (ty : TypeId) (a b c : Value) : Builtin.max_ ats ty #[a, b, c] = (Builtin.max2 a b >>= fun s => Builtin.max2 s c >>= fun s => pure s) := by simp only [Builtin.max_, List.foldlM_cons, List.foldlM_nil]
theorem min_three (ats : Array TypeId) (ty : TypeId) (a b c : Value) : Builtin.min_ ats ty #[a, b, c] = (Builtin.min2 a b >>= fun s => Builtin.min2 s c >>= fun s => pure s) := by simp only [Builtin.min_, List.foldlM_cons, List.foldlM_nil]
theorem max_four (ats : Array TypeId) (ty : TypeId) (a b c d : Value) : Builtin.max_ ats ty #[a, b, c, d] = (Builtin.max2 a b >>= fun s => Builtin.max2 s c >>= fun s => Builtin.max2 s d >>= fun s => pure s) := by simp only [Builtin.max_, List.foldlM_cons, List.foldlM_nil]
theorem min_four (ats : Array TypeId) (ty : TypeId) (a b c d : Value) : Builtin.min_ ats ty #[a, b, c, d] = (Builtin.min2 a b >>= fun s => Builtin.min2 s c >>= fun s => Builtin.min2 s d >>= fun s => pure s) := by simp only [Builtin.min_, List.foldlM_cons, List.foldlM_nil]
end Go.Proofs.YtkdakjlopheefaaW.PrintMore
namespace Go.Proofs.YtkdakjlopheefaaW.PrintWords
open Go.RowKit
section
variable {P : Program} {ops : Array Oper} {rest : List Oper} {o : Oper} {a : Act} {Q : Exit → Act → World → Prop} {W : World}
theorem gate_callee {f : FuncId} {as : Array Operand} {ts : Array TypeId} (_ho : o.op = .call { callee := .value (.func f), args := as, argTypes := ts }) (h : wpList P ops Q (o :: rest) a W) : wpList P ops Q (o :: rest) a W := h
theorem gate_builtin {b : Builtin} {xs : Array Operand} {ts : Array TypeId} (_ho : o.op = .call { callee := .builtin b, args := xs, argTypes := ts }) (h : wpList P ops Q (o :: rest) a W) : wpList P ops Q (o :: rest) a W := h
end
def mx (a b : Int) : Int := if a < b then b else a
namespace Kd
section
variable {α : Type} {d : Kd α} {e base b b' g N : Nat} {ok ok1 : Nat → Prop} {W W2 w1 : World} {u v : Value} {xs ys : List α} {S : Nat → Prop}
theorem own_raise {n size : Nat} {cs : List Value} (h : W.ownsRow b e size v n cs) (hb : ∀ k, v.ownBlock = some k → b' ≤ k) : W.ownsRow b' e size v n cs := by
  obtain ⟨h1, h2⟩ := h
  refine ⟨h1, ?_⟩
  rcases h2 with h2 | ⟨g, cap, cur, rfl, _, r⟩
  · exact .inl h2
  · exact .inr ⟨g, cap, cur, rfl, hb g (by simp [Value.ownBlock]), r⟩
theorem R_raise (hM : ∀ w ok x cs, d.M w b ok x cs → d.M w b' ok x cs) (h : d.R e W b ok v xs) (hb : ∀ k, v.ownBlock = some k → b' ≤ k) : d.R e W b' ok v xs := by
  obtain ⟨h0, inner, ho, hr⟩ := h
  exact ⟨h0, inner, own_raise ho hb, hr.imp_ (fun _ _ hp => hM _ _ _ _ hp)⟩
theorem R_keptB (h : d.R e W base ok v xs) (hk : Kept W W2 S) (hne : ∀ k, ok k → ¬ S k) : d.R e W2 base (fun k => ok k ∧ (¬ S k ∧ k < W.heap.size)) v xs :=
  R_kept (R_mono (R_bound h) (fun k hk => ⟨hk.1, hne k hk.1, hk.2.2.1⟩)) hk (fun _ hk => hk.2.1)
end
end Kd
end Go.Proofs.YtkdakjlopheefaaW.PrintWords
namespace Go.Proofs.YtkdakjlopheefaaW.PrintWords
open Go.RowKit
theorem Kept.keepG {w W W2 : World} {S2 : Nat → Prop} {g : Nat} (h : KeepBut w W g none) (k : Kept W W2 S2) (hs : ∀ k, S2 k → k = g ∨ w.heap.size ≤ k) : KeepBut w W2 g none :=
  ⟨Nat.le_trans h.1 k.1, fun i hi hg hr => (k.2 i (Nat.lt_of_lt_of_le hi h.1) (fun h2 => (hs i h2).elim hg (fun h3 => by omega))).trans (h.2 i hi hg hr)⟩
namespace Kd
def V {α : Type} (d : Kd α) (_e : Nat) (W : World) (_base : Nat) (ok : Nat → Prop) (v : Value) (xs : List α) : Prop := ∃ A c, v = .slice A xs.length c ∧ xs.length ≤ c ∧ F d W ok A xs.length xs
end Kd
end Go.Proofs.YtkdakjlopheefaaW.PrintWords
end
section
namespace Alg
class CR (R : Type) extends Zero R, One R, Add R, Mul R, Neg R where
  add_comm : ∀ a b : R, a + b = b + a
  add_assoc : ∀ a b c : R, a + b + c = a + (b + c)
  zero_add : ∀ a : R, 0 + a = a
  neg_add : ∀ a : R, -a + a = 0
  mul_comm : ∀ a b : R, a * b = b * a
  mul_assoc : ∀ a b c : R, a * b * c = a * (b * c)
  one_mul : ∀ a : R, 1 * a = a
  add_mul : ∀ a b c : R, (a + b) * c = a * c + b * c
section
variable {R : Type} [CR R]
instance : Sub R := ⟨fun a b => a + -b⟩
theorem sub_eq (a b : R) : a - b = a + -b := rfl
theorem add_comm (a b : R) : a + b = b + a := CR.add_comm a b
theorem add_assoc (a b c : R) : a + b + c = a + (b + c) := CR.add_assoc a b c
theorem zero_add (a : R) : 0 + a = a := CR.zero_add a
theorem add_zero (a : R) : a + 0 = a := by rw [add_comm, zero_add]
theorem neg_add (a : R) : -a + a = 0 := CR.neg_add a
theorem add_neg (a : R) : a + -a = 0 := by rw [add_comm, neg_add]
theorem mul_comm (a b : R) : a * b = b * a := CR.mul_comm a b
theorem mul_assoc (a b c : R) : a * b * c = a * (b * c) := CR.mul_assoc a b c
theorem one_mul (a : R) : 1 * a = a := CR.one_mul a
theorem mul_one (a : R) : a * 1 = a := by rw [mul_comm, one_mul]
theorem add_mul (a b c : R) : (a + b) * c = a * c + b * c := CR.add_mul a b c
theorem mul_add (a b c : R) : a * (b + c) = a * b + a * c := by rw [mul_comm, add_mul, mul_comm b, mul_comm c]
theorem add_left_cancel {a b c : R} (h : a + b = a + c) : b = c := by
  have : -a + (a + b) = -a + (a + c) := by rw [h]
  rwa [← add_assoc, ← add_assoc, neg_add, zero_add, zero_add] at this
theorem zero_mul (a : R) : 0 * a = 0 := by
  have : 0 * a + 0 * a = 0 * a + 0 := by rw [← add_mul, zero_add, add_zero]
  exact add_left_cancel this
theorem mul_zero (a : R) : a * 0 = 0 := by rw [mul_comm, zero_mul]
theorem neg_mul (a b : R) : -a * b = -(a * b) := by
  have : a * b + -a * b = a * b + -(a * b) := by rw [← add_mul, add_neg, add_neg, zero_mul]
  exact add_left_cancel this
theorem mul_neg (a b : R) : a * -b = -(a * b) := by rw [mul_comm, neg_mul, mul_comm]
theorem neg_neg (a : R) : - -a = a := by
  have : -a + - -a = -a + a := by rw [add_neg, neg_add]
  exact add_left_cancel this
theorem neg_zero : -(0 : R) = 0 := by have := neg_add (0 : R); rwa [add_zero] at this
theorem neg_add_rev (a b : R) : -(a + b) = -a + -b := by
  have : (a + b) + -(a + b) = (a + b) + (-a + -b) := by
    rw [add_neg, add_comm (-a), ← add_assoc, add_assoc a b, add_neg, add_zero, add_neg]
  exact add_left_cancel this
theorem eq_of_sub {a b : R} (h : a - b = 0) : a = b := by
  have : a + -b + b = 0 + b := by rw [← sub_eq, h]
  rwa [add_assoc, neg_add, add_zero, zero_add] at this
theorem sub_self (a : R) : a - a = 0 := add_neg a
theorem add_left_comm (a b c : R) : a + (b + c) = b + (a + c) := by rw [← add_assoc, add_comm a, add_assoc]
theorem mul_left_comm (a b c : R) : a * (b * c) = b * (a * c) := by rw [← mul_assoc, mul_comm a, mul_assoc]
theorem neg_eq {a b : R} (h : a + b = 0) : b = -a := by
  have : a + b = a + -a := by rw [h, add_neg]
  exact add_left_cancel this
def nc : Nat → R
  | 0 => 0
  | n + 1 => nc n + 1
theorem nc_add (m n : Nat) : (nc (m + n) : R) = nc m + nc n := by
  induction n with
  | zero => simp [nc, add_zero]
  | succ n ih => rw [Nat.add_succ, nc, ih, nc, add_assoc]
theorem nc_mul (m n : Nat) : (nc (m * n) : R) = nc m * nc n := by
  induction n with
  | zero => simp [nc, mul_zero]
  | succ n ih => rw [Nat.mul_succ, nc_add, ih, nc, mul_add, mul_one]
theorem nc_one : (nc 1 : R) = 1 := by simp [nc, zero_add]
def ic : Int → R
  | .ofNat n => nc n
  | .negSucc n => -nc (n + 1)
theorem ic_sub (m n : Nat) : (ic (Int.subNatNat m n) : R) = nc m + -nc n := by
  by_cases h : n ≤ m
  · obtain ⟨k, rfl⟩ := Nat.exists_eq_add_of_le h
    rw [Int.subNatNat_of_le h]
    show nc (n + k - n) = _
    rw [Nat.add_sub_cancel_left, nc_add, add_comm (nc n), add_assoc, add_neg, add_zero]
  · obtain ⟨k, rfl⟩ := Nat.exists_eq_add_of_lt (Nat.lt_of_not_le h)
    rw [Int.subNatNat_of_lt (by omega)]
    have e : m + k + 1 - m = k + 1 := by omega
    rw [e]
    show -nc (k + 1) = _
    rw [show m + k + 1 = m + (k + 1) from by omega, nc_add m, neg_add_rev, ← add_assoc, add_neg, zero_add]
theorem ic_add (a b : Int) : (ic (a + b) : R) = ic a + ic b := by
  cases a with
  | ofNat m => cases b with
    | ofNat n => exact nc_add m n
    | negSucc n => exact ic_sub m (n + 1)
  | negSucc m => cases b with
    | ofNat n => rw [add_comm (ic _)]; exact ic_sub n (m + 1)
    | negSucc n =>
      show -nc (m + n + 1 + 1) = -nc (m + 1) + -nc (n + 1)
      rw [← neg_add_rev, ← nc_add]; congr 2; omega
theorem ic_neg (a : Int) : (ic (-a) : R) = -ic a := by
  have h : (ic a : R) + ic (-a) = 0 := by rw [← ic_add, Int.add_right_neg]; rfl
  exact neg_eq h
theorem ic_mul (a b : Int) : (ic (a * b) : R) = ic a * ic b := by
  have key : ∀ (m : Nat) (b : Int), (ic ((m : Int) * b) : R) = ic (m : Int) * ic b := by
    intro m b
    cases b with
    | ofNat n => exact nc_mul m n
    | negSucc n =>
      rw [Int.negSucc_eq, Int.mul_neg, ic_neg, ic_neg, mul_neg]
      congr 1; exact nc_mul m (n + 1)
  cases a with
  | ofNat m => exact key m b
  | negSucc m =>
    rw [Int.negSucc_eq, Int.neg_mul, ic_neg, ic_neg, neg_mul]
    congr 1; exact key (m + 1) b
theorem ic_zero : (ic 0 : R) = 0 := rfl
theorem ic_one : (ic 1 : R) = 1 := nc_one
end
inductive E where
  | v (n : Nat) | zero | one
  | add (a b : E) | mul (a b : E) | neg (a : E) | sub (a b : E)
section
variable {R : Type} [CR R]
def at0 (l : List R) (n : Nat) : R := l.getD n 0
def E.ev (l : List R) : E → R
  | .v n => at0 l n
  | .zero => 0
  | .one => 1
  | .add a b => a.ev l + b.ev l
  | .mul a b => a.ev l * b.ev l
  | .neg a => -a.ev l
  | .sub a b => a.ev l - b.ev l
abbrev Mon := List Nat
abbrev Nf := List (Mon × Int)
def Mon.ev (l : List R) : Mon → R
  | [] => 1
  | n :: m => at0 l n * Mon.ev l m
def Nf.ev (l : List R) : Nf → R
  | [] => 0
  | (m, c) :: p => ic c * Mon.ev l m + Nf.ev l p
def ins (n : Nat) : Mon → Mon
  | [] => [n]
  | k :: m => if n ≤ k then n :: k :: m else k :: ins n m
def mmul : Mon → Mon → Mon
  | [], b => b
  | n :: a, b => ins n (mmul a b)
def mlt : Mon → Mon → Bool
  | [], [] => false
  | [], _ => true
  | _, [] => false
  | a :: x, b :: y => if a < b then true else if a = b then mlt x y else false
def put (m : Mon) (c : Int) : Nf → Nf
  | [] => if c = 0 then [] else [(m, c)]
  | (k, d) :: p => if m = k then (if c + d = 0 then p else (k, c + d) :: p) else if mlt m k then (if c = 0 then (k, d) :: p else (m, c) :: (k, d) :: p) else (k, d) :: put m c p
def padd : Nf → Nf → Nf
  | [], q => q
  | (m, c) :: p, q => put m c (padd p q)
def pmul1 (m : Mon) (c : Int) : Nf → Nf
  | [] => []
  | (k, d) :: q => put (mmul m k) (c * d) (pmul1 m c q)
def pmul : Nf → Nf → Nf
  | [], _ => []
  | (m, c) :: p, q => padd (pmul1 m c q) (pmul p q)
def E.nf : E → Nf
  | .v n => [([n], 1)]
  | .zero => []
  | .one => [([], 1)]
  | .add a b => padd a.nf b.nf
  | .mul a b => pmul a.nf b.nf
  | .neg a => pmul1 [] (-1) a.nf
  | .sub a b => padd a.nf (pmul1 [] (-1) b.nf)
theorem ins_ev (l : List R) (n : Nat) (m : Mon) : Mon.ev l (ins n m) = at0 l n * Mon.ev l m := by
  induction m with
  | nil => rfl
  | cons k m ih =>
    unfold ins; split
    · rfl
    · simp only [Mon.ev, ih]; rw [mul_left_comm]
theorem mmul_ev (l : List R) (a b : Mon) : Mon.ev l (mmul a b) = Mon.ev l a * Mon.ev l b := by
  induction a with
  | nil => simp only [mmul, Mon.ev, one_mul]
  | cons n a ih => simp only [mmul, ins_ev, ih, Mon.ev, mul_assoc]
theorem put_ev (l : List R) (m : Mon) (c : Int) (p : Nf) : Nf.ev l (put m c p) = ic c * Mon.ev l m + Nf.ev l p := by
  induction p with
  | nil =>
    unfold put; split
    · rename_i h; subst h; simp only [Nf.ev, ic_zero, zero_mul, zero_add]
    · rfl
  | cons x p ih =>
    obtain ⟨k, d⟩ := x
    unfold put
    by_cases h1 : m = k
    · subst h1; rw [if_pos rfl]
      have hz : (ic (c + d) : R) * Mon.ev l m = ic c * Mon.ev l m + ic d * Mon.ev l m := by rw [ic_add, add_mul]
      split
      · rename_i h2; rw [h2, ic_zero, zero_mul] at hz
        simp only [Nf.ev]; rw [← add_assoc, ← hz, zero_add]
      · simp only [Nf.ev]; rw [hz, add_assoc]
    · rw [if_neg h1]; split
      · split
        · rename_i h2; subst h2; simp only [ic_zero, zero_mul, zero_add]
        · rfl
      · simp only [Nf.ev, ih]; rw [add_left_comm]
theorem padd_ev (l : List R) (p q : Nf) : Nf.ev l (padd p q) = Nf.ev l p + Nf.ev l q := by
  induction p with
  | nil => simp only [padd, Nf.ev, zero_add]
  | cons x p ih => obtain ⟨m, c⟩ := x; simp only [padd, put_ev, ih, Nf.ev, add_assoc]
theorem pmul1_ev (l : List R) (m : Mon) (c : Int) (q : Nf) : Nf.ev l (pmul1 m c q) = ic c * Mon.ev l m * Nf.ev l q := by
  induction q with
  | nil => simp only [pmul1, Nf.ev, mul_zero]
  | cons x q ih =>
    obtain ⟨k, d⟩ := x
    simp only [pmul1, put_ev, ih, Nf.ev, mmul_ev, ic_mul, mul_add]
    congr 1
    rw [mul_assoc, mul_assoc, mul_left_comm (ic d)]
theorem pmul_ev (l : List R) (p q : Nf) : Nf.ev l (pmul p q) = Nf.ev l p * Nf.ev l q := by
  induction p with
  | nil => simp only [pmul, Nf.ev, zero_mul]
  | cons x p ih => obtain ⟨m, c⟩ := x; simp only [pmul, padd_ev, pmul1_ev, ih, Nf.ev, add_mul]
theorem neg_ev (l : List R) (p : Nf) : Nf.ev l (pmul1 [] (-1) p) = -Nf.ev l p := by
  rw [pmul1_ev]; simp only [Mon.ev, mul_one]
  rw [ic_neg, ic_one, neg_mul, one_mul]
theorem nf_ev (l : List R) (e : E) : Nf.ev l e.nf = e.ev l := by
  induction e with
  | v n => simp only [E.nf, E.ev, Nf.ev, Mon.ev, ic_one, one_mul, mul_one, add_zero]
  | zero => rfl
  | one => simp only [E.nf, E.ev, Nf.ev, Mon.ev, ic_one, one_mul, add_zero]
  | add a b iha ihb => simp only [E.nf, E.ev, padd_ev, iha, ihb]
  | mul a b iha ihb => simp only [E.nf, E.ev, pmul_ev, iha, ihb]
  | neg a iha => simp only [E.nf, E.ev, neg_ev, iha]
  | sub a b iha ihb => simp only [E.nf, E.ev, padd_ev, neg_ev, iha, ihb]; rfl
class Idx (l : List R) (x : R) (n : outParam Nat) : Prop where
  eq : at0 l n = x
instance (priority := high) idx0 (l : List R) (x : R) : Idx (x :: l) x 0 := ⟨rfl⟩
instance (priority := low) idxS (l : List R) (x y : R) (n : Nat) [h : Idx l x n] : Idx (y :: l) x (n + 1) := ⟨h.eq⟩
class Rei (l : List R) (x : R) (e : outParam E) : Prop where
  eq : e.ev l = x
instance (priority := low) reiV (l : List R) (x : R) (n : Nat) [h : Idx l x n] : Rei l x (.v n) := ⟨h.eq⟩
instance reiZ (l : List R) : Rei l (0 : R) .zero := ⟨rfl⟩
instance reiO (l : List R) : Rei l (1 : R) .one := ⟨rfl⟩
instance reiA (l : List R) (x y : R) (a b : E) [h : Rei l x a] [k : Rei l y b] : Rei l (x + y) (.add a b) := ⟨by rw [E.ev, h.eq, k.eq]⟩
instance reiM (l : List R) (x y : R) (a b : E) [h : Rei l x a] [k : Rei l y b] : Rei l (x * y) (.mul a b) := ⟨by rw [E.ev, h.eq, k.eq]⟩
instance reiN (l : List R) (x : R) (a : E) [h : Rei l x a] : Rei l (-x) (.neg a) := ⟨by rw [E.ev, h.eq]⟩
instance reiS (l : List R) (x y : R) (a b : E) [h : Rei l x a] [k : Rei l y b] : Rei l (x - y) (.sub a b) := ⟨by rw [E.ev, h.eq, k.eq]⟩
theorem ring_of (l : List R) {x y : R} {a b : E} [h : Rei l x a] [k : Rei l y b] (e : a.nf = b.nf) : x = y := by
  rw [← h.eq, ← k.eq, ← nf_ev, ← nf_ev, e]
end
example {R : Type} [CR R] (a b c : R) : (a + b) * (a - b) - c = a * a - b * b - c * 1 := ring_of [a, b, c] (by decide +kernel)
end Alg
end
section
namespace Alg
variable {R : Type} [CR R]
def sum : Nat → (Nat → R) → R
  | 0, _ => 0
  | n + 1, f => sum n f + f n
theorem sum_zero (f : Nat → R) : sum 0 f = 0 := rfl
theorem sum_succ (n : Nat) (f : Nat → R) : sum (n + 1) f = sum n f + f n := rfl
theorem sum_congr {n : Nat} {f g : Nat → R} (h : ∀ i, i < n → f i = g i) : sum n f = sum n g := by
  induction n with
  | zero => rfl
  | succ n ih => rw [sum_succ, sum_succ, ih fun i hi => h i (by omega), h n (by omega)]
theorem sum_const_zero (n : Nat) : sum n (fun _ => (0 : R)) = 0 := by
  induction n with
  | zero => rfl
  | succ n ih => rw [sum_succ, ih, add_zero]
theorem sum_eq_zero {n : Nat} {f : Nat → R} (h : ∀ i, i < n → f i = 0) : sum n f = 0 := by
  rw [sum_congr h, sum_const_zero]
theorem sum_add (n : Nat) (f g : Nat → R) : sum n (fun i => f i + g i) = sum n f + sum n g := by
  induction n with
  | zero => simp only [sum_zero, add_zero]
  | succ n ih => simp only [sum_succ, ih]; exact ring_of [sum n f, sum n g, f n, g n] (by decide +kernel)
theorem sum_mul (n : Nat) (f : Nat → R) (c : R) : sum n (fun i => f i * c) = sum n f * c := by
  induction n with
  | zero => simp only [sum_zero, zero_mul]
  | succ n ih => simp only [sum_succ, ih, add_mul]
theorem mul_sum (n : Nat) (f : Nat → R) (c : R) : sum n (fun i => c * f i) = c * sum n f := by
  rw [mul_comm c, ← sum_mul]; exact sum_congr fun i _ => mul_comm _ _
theorem sum_first (n : Nat) (f : Nat → R) : sum (n + 1) f = f 0 + sum n (fun i => f (i + 1)) := by
  induction n with
  | zero => rw [sum_succ, sum_zero, sum_zero, add_comm]
  | succ n ih => rw [sum_succ, ih, sum_succ, add_assoc]
theorem sum_split (m n : Nat) (f : Nat → R) : sum (m + n) f = sum m f + sum n (fun i => f (m + i)) := by
  induction n with
  | zero => rw [Nat.add_zero, sum_zero, add_zero]
  | succ n ih => rw [← Nat.add_assoc, sum_succ, ih, sum_succ, add_assoc]
theorem sum_rev (n : Nat) (f : Nat → R) : sum (n + 1) f = sum (n + 1) (fun i => f (n - i)) := by
  induction n with
  | zero => rfl
  | succ n ih =>
    rw [sum_succ, ih, sum_first (n + 1) (fun i => f (n + 1 - i)), add_comm]
    simp only [Nat.sub_zero]
    congr 1
    exact sum_congr fun i hi => by rw [Nat.add_sub_add_right]
theorem sum_tri (n : Nat) (f : Nat → Nat → R) : sum n (fun i => sum (i + 1) (fun j => f j (i - j))) = sum n (fun j => sum (n - j) (fun i => f j i)) := by
  induction n with
  | zero => rfl
  | succ n ih =>
    rw [sum_succ, ih, sum_succ n (fun j => sum (n + 1 - j) (fun i => f j i)), sum_succ n (fun j => f j (n - j))]
    have : sum n (fun j => sum (n + 1 - j) (fun i => f j i)) = sum n (fun j => sum (n - j) (fun i => f j i)) + sum n (fun j => f j (n - j)) := by
      rw [← sum_add]; exact sum_congr fun j hj => by rw [show n + 1 - j = (n - j) + 1 from by omega, sum_succ]
    rw [this, add_assoc]; congr 2
    rw [show n + 1 - n = 0 + 1 from by omega, sum_succ, sum_zero, zero_add, Nat.sub_self]
theorem sum_one {n : Nat} {f : Nat → R} (k : Nat) (hk : k < n) (h : ∀ i, i < n → i ≠ k → f i = 0) : sum n f = f k := by
  induction n with
  | zero => omega
  | succ n ih =>
    rw [sum_succ]
    by_cases e : k = n
    · subst e; rw [sum_eq_zero fun i hi => h i (by omega) (by omega), zero_add]
    · rw [ih (by omega) fun i hi => h i (by omega), h n (by omega) (by omega), add_zero]
theorem sum_shrink {m n : Nat} {f : Nat → R} (hm : m ≤ n) (h : ∀ i, m ≤ i → i < n → f i = 0) : sum n f = sum m f := by
  obtain ⟨k, rfl⟩ := Nat.exists_eq_add_of_le hm
  rw [sum_split, sum_eq_zero (n := k) fun i hi => h _ (by omega) (by omega), add_zero]
def S (R : Type) : Type := Nat → R
namespace S
omit [CR R] in
@[ext] theorem ext {a b : S R} (h : ∀ i, a i = b i) : a = b := funext h
def C (c : R) : S R := fun i => if i = 0 then c else 0
def X : S R := fun i => if i = 1 then 1 else 0
def tl (a : S R) : S R := fun i => a (i + 1)
def sh (a : S R) : S R := fun i => match i with | 0 => 0 | i + 1 => a i
def conv (a b : S R) : S R := fun n => sum (n + 1) (fun i => a i * b (n - i))
instance : Zero (S R) := ⟨fun _ => 0⟩
instance : One (S R) := ⟨C 1⟩
instance : Add (S R) := ⟨fun a b i => a i + b i⟩
instance : Neg (S R) := ⟨fun a i => -a i⟩
instance : Mul (S R) := ⟨conv⟩
theorem add_at (a b : S R) (i : Nat) : (a + b) i = a i + b i := rfl
theorem neg_at (a : S R) (i : Nat) : (-a) i = -a i := rfl
theorem mul_at (a b : S R) (n : Nat) : (a * b) n = sum (n + 1) (fun i => a i * b (n - i)) := rfl
theorem one_at (i : Nat) : (1 : S R) i = if i = 0 then 1 else 0 := rfl
theorem C_zero (c : R) : C c 0 = c := rfl
theorem C_succ (c : R) (i : Nat) : C c (i + 1) = 0 := rfl
theorem C_mul_at (c : R) (a : S R) (n : Nat) : (C c * a) n = c * a n := by
  rw [mul_at, sum_one 0 (by omega)]
  · rfl
  · intro i _ h; show (if i = 0 then c else 0) * _ = _; rw [if_neg h, zero_mul]
instance : CR (S R) where
  add_comm a b := by ext i; exact Alg.add_comm _ _
  add_assoc a b c := by ext i; exact Alg.add_assoc _ _ _
  zero_add a := by ext i; exact Alg.zero_add _
  neg_add a := by ext i; exact Alg.neg_add _
  mul_comm a b := by
    ext n; rw [mul_at, mul_at, sum_rev]
    exact sum_congr fun i hi => by rw [Nat.sub_sub_self (by omega), Alg.mul_comm]
  mul_assoc a b c := by
    ext n
    have h1 : (a * b * c) n = sum (n + 1) (fun i => sum (i + 1) (fun j => a j * b (i - j) * c (n - j - (i - j)))) := by
      rw [mul_at]; exact sum_congr fun i hi => by
        rw [mul_at, ← sum_mul]; exact sum_congr fun j hj => by rw [show n - j - (i - j) = n - i from by omega]
    have h2 : (a * (b * c)) n = sum (n + 1) (fun j => sum (n + 1 - j) (fun i => a j * b i * c (n - j - i))) := by
      rw [mul_at]; exact sum_congr fun j hj => by
        rw [mul_at, ← mul_sum, show n - j + 1 = n + 1 - j from by omega]; exact sum_congr fun i hi => by rw [Alg.mul_assoc]
    rw [h1, h2, ← sum_tri (n + 1) (fun j i => a j * b i * c (n - j - i))]
  one_mul a := by ext n; exact (C_mul_at 1 a n).trans (Alg.one_mul _)
  add_mul a b c := by
    ext n; rw [add_at, mul_at, mul_at, mul_at, ← sum_add]
    exact sum_congr fun i _ => by rw [add_at, Alg.add_mul]
theorem sub_at (a b : S R) (i : Nat) : (a - b) i = a i - b i := rfl
theorem mul_C_at (c : R) (a : S R) (n : Nat) : (a * C c) n = a n * c := by rw [Alg.mul_comm, C_mul_at, Alg.mul_comm]
theorem C_mul (a b : R) : C (a * b) = C a * C b := by
  ext n; rw [C_mul_at]; cases n with
  | zero => rfl
  | succ n => rw [C_succ, C_succ, mul_zero]
theorem C_add (a b : R) : C (a + b) = C a + C b := by
  ext n; rw [add_at]; cases n with
  | zero => rfl
  | succ n => rw [C_succ, C_succ, C_succ, add_zero]
theorem C_neg (a : R) : C (-a) = -C a := by
  ext n; rw [neg_at]; cases n with
  | zero => rfl
  | succ n => rw [C_succ, C_succ, neg_zero]
theorem C_0 : C (0 : R) = 0 := by
  ext n; cases n <;> rfl
theorem C_1 : C (1 : R) = 1 := rfl
theorem mul_zero_at (a b : S R) : (a * b) 0 = a 0 * b 0 := by rw [mul_at, sum_succ, sum_zero, Alg.zero_add]
theorem X_mul_zero (a : S R) : (X * a : S R) 0 = 0 := by
  rw [mul_zero_at]; exact zero_mul (a 0)
theorem X_mul_succ (a : S R) (n : Nat) : (X * a : S R) (n + 1) = a n := by
  rw [mul_at, sum_one 1 (by omega)]
  · show (1 : R) * _ = _; rw [Alg.one_mul, Nat.add_sub_cancel]
  · intro i _ h; show (if i = 1 then (1 : R) else 0) * _ = _; rw [if_neg h, zero_mul]
theorem split (a : S R) : a = C (a 0) + X * tl a := by
  ext n; rw [add_at]; cases n with
  | zero => rw [X_mul_zero, C_zero, add_zero]
  | succ n => rw [X_mul_succ, C_succ, Alg.zero_add]; rfl
def pw : Nat → S R
  | 0 => 1
  | n + 1 => X * pw n
theorem pw_zero : (pw 0 : S R) = 1 := rfl
theorem pw_succ (n : Nat) : (pw (n + 1) : S R) = X * pw n := rfl
theorem pw_mul_lt (n : Nat) (a : S R) : ∀ i, i < n → (pw n * a : S R) i = 0 := by
  induction n with
  | zero => intro i h; omega
  | succ n ih =>
    intro i h; rw [pw_succ, Alg.mul_assoc]; cases i with
    | zero => exact X_mul_zero _
    | succ i => rw [X_mul_succ]; exact ih i (by omega)
theorem pw_mul_add (n : Nat) (a : S R) (i : Nat) : (pw n * a : S R) (n + i) = a i := by
  induction n with
  | zero => rw [pw_zero, Alg.one_mul, Nat.zero_add]
  | succ n ih => rw [pw_succ, Alg.mul_assoc, show n + 1 + i = (n + i) + 1 from by omega, X_mul_succ, ih]
theorem pw_mul_at (n : Nat) (a : S R) (i : Nat) : (pw n * a : S R) i = if i < n then 0 else a (i - n) := by
  split
  · exact pw_mul_lt n a i ‹_›
  · obtain ⟨k, rfl⟩ := Nat.exists_eq_add_of_le (Nat.le_of_not_lt ‹¬ i < n›); rw [pw_mul_add, Nat.add_sub_cancel_left]
theorem pw_at (n i : Nat) : (pw n : S R) i = if i = n then 1 else 0 := by
  have := pw_mul_at n (1 : S R) i
  rw [Alg.mul_one] at this; rw [this]
  by_cases h : i < n
  · rw [if_pos h, if_neg (by omega)]
  · rw [if_neg h, one_at]
    by_cases e : i = n
    · rw [if_pos (by omega), if_pos e]
    · rw [if_neg (by omega), if_neg e]
theorem pw_add (m n : Nat) : (pw (m + n) : S R) = pw m * pw n := by
  induction m with
  | zero => rw [Nat.zero_add, pw_zero, Alg.one_mul]
  | succ m ih => rw [Nat.succ_add, pw_succ, ih, pw_succ, Alg.mul_assoc]
theorem pw_dvd {n : Nat} {a : S R} (h : ∀ i, i < n → a i = 0) : a = pw n * (show S R from fun i => a (n + i)) := by
  ext i; rw [pw_mul_at]; split
  · exact h i ‹_›
  · show _ = a (n + (i - n)); congr 1; omega
def Lt (a : S R) (n : Nat) : Prop := ∀ i, n ≤ i → a i = 0
theorem Lt.mono {a : S R} {m n : Nat} (h : Lt a m) (hn : m ≤ n) : Lt a n := fun i hi => h i (by omega)
theorem Lt.zero (n : Nat) : Lt (0 : S R) n := fun _ _ => rfl
theorem Lt.add {a b : S R} {n : Nat} (ha : Lt a n) (hb : Lt b n) : Lt (a + b) n := fun i hi => by rw [add_at, ha i hi, hb i hi, add_zero]
theorem Lt.neg {a : S R} {n : Nat} (ha : Lt a n) : Lt (-a) n := fun i hi => by rw [neg_at, ha i hi, neg_zero]
theorem Lt.sub {a b : S R} {n : Nat} (ha : Lt a n) (hb : Lt b n) : Lt (a - b) n := ha.add hb.neg
theorem Lt.C (c : R) : Lt (C c) 1 := fun i hi => by cases i with | zero => omega | succ i => rfl
theorem Lt.one : Lt (1 : S R) 1 := Lt.C 1
theorem Lt.pw (n : Nat) : Lt (pw n : S R) (n + 1) := fun i hi => by rw [pw_at, if_neg (by omega)]
theorem Lt.mul {a b : S R} {m n k : Nat} (ha : Lt a (m + 1)) (hb : Lt b n) (hk : m + n ≤ k) : Lt (a * b) k := by
  intro i hi; rw [mul_at]; exact sum_eq_zero fun j hj => by
    by_cases h : j < m + 1
    · rw [hb (i - j) (by omega), mul_zero]
    · rw [ha j (by omega), zero_mul]
theorem Lt.mul' {a b : S R} {m n k : Nat} (ha : Lt a m) (hb : Lt b (n + 1)) (hk : m + n ≤ k) : Lt (a * b) k := by
  rw [Alg.mul_comm]; exact hb.mul ha (by omega)
theorem lead_mul {a b : S R} {m n : Nat} (ha : Lt a (m + 1)) (hb : Lt b (n + 1)) : (a * b) (m + n) = a m * b n := by
  rw [mul_at, sum_one m (by omega)]
  · rw [Nat.add_sub_cancel_left]
  · intro i hi hm
    by_cases h : i < m
    · rw [hb _ (by omega), mul_zero]
    · rw [ha _ (by omega), zero_mul]
theorem lt_zero {a : S R} (h : Lt a 0) : a = 0 := by ext i; exact h i (by omega)
theorem lt_one {a : S R} (h : Lt a 1) : a = S.C (a 0) := by
  ext i; cases i with
  | zero => rfl
  | succ i => rw [C_succ]; exact h _ (by omega)
def val : Nat → S R → R → R
  | 0, _, _ => 0
  | n + 1, a, x => a 0 + x * val n (tl a) x
def npow (x : R) : Nat → R
  | 0 => 1
  | n + 1 => npow x n * x
end S
end Alg
end
section
namespace Alg
class Fld (K : Type) extends CR K where
  inv : K → K
  mul_inv : ∀ a : K, a ≠ 0 → a * inv a = 1
  one_ne : (1 : K) ≠ 0
  dec : DecidableEq K
section
variable {K : Type} [Fld K]
instance : DecidableEq K := Fld.dec
def inv (a : K) : K := Fld.inv a
theorem mul_inv {a : K} (h : a ≠ 0) : a * inv a = 1 := Fld.mul_inv a h
theorem inv_mul {a : K} (h : a ≠ 0) : inv a * a = 1 := by rw [mul_comm, mul_inv h]
theorem one_ne : (1 : K) ≠ 0 := Fld.one_ne
theorem mul_ne {a b : K} (ha : a ≠ 0) (hb : b ≠ 0) : a * b ≠ 0 := by
  intro h
  have : inv a * (a * b) = 0 := by rw [h, mul_zero]
  rw [← mul_assoc, inv_mul ha, one_mul] at this
  exact hb this
theorem mul_eq_zero {a b : K} (h : a * b = 0) : a = 0 ∨ b = 0 := by
  by_cases ha : a = 0
  · exact .inl ha
  · by_cases hb : b = 0
    · exact .inr hb
    · exact absurd h (mul_ne ha hb)
theorem neg_ne {a : K} (h : a ≠ 0) : -a ≠ 0 := by
  intro e; have := add_neg a; rw [e, add_zero] at this; exact h this
theorem inv_unique {a b : K} (h : a * b = 1) : b = inv a := by
  have ha : a ≠ 0 := by intro e; rw [e, zero_mul] at h; exact one_ne h.symm
  calc b = inv a * a * b := by rw [inv_mul ha, one_mul]
    _ = inv a * (a * b) := mul_assoc _ _ _
    _ = inv a := by rw [h, mul_one]
namespace S
theorem first {a : S K} (h : a ≠ 0) : ∃ m, a m ≠ 0 ∧ ∀ i, i < m → a i = 0 := by
  have ⟨m, hm⟩ : ∃ m, a m ≠ 0 := by
    apply Classical.byContradiction; intro hn
    exact h (by ext i; exact Classical.byContradiction fun hi => hn ⟨i, hi⟩)
  induction m using Nat.strongRecOn with
  | _ m ih =>
    by_cases hall : ∀ i, i < m → a i = 0
    · exact ⟨m, hm, hall⟩
    · have ⟨i, hi⟩ := Classical.not_forall.1 hall
      have ⟨h1, h2⟩ := Classical.not_imp.1 hi
      exact ih i h1 h2
theorem mul_ne {a b : S K} (ha : a ≠ 0) (hb : b ≠ 0) : a * b ≠ 0 := by
  obtain ⟨m, hm, hm0⟩ := first ha
  obtain ⟨n, hn, hn0⟩ := first hb
  intro h
  have : (a * b) (m + n) = a m * b n := by
    rw [mul_at, sum_one m (by omega)]
    · rw [Nat.add_sub_cancel_left]
    · intro i hi hne
      by_cases h : i < m
      · rw [hm0 i h, zero_mul]
      · rw [hn0 _ (by omega), mul_zero]
  rw [h] at this
  exact Alg.mul_ne hm hn this.symm
theorem mul_eq_zero {a b : S K} (h : a * b = 0) : a = 0 ∨ b = 0 := by
  by_cases ha : a = 0
  · exact .inl ha
  · by_cases hb : b = 0
    · exact .inr hb
    · exact absurd h (mul_ne ha hb)
theorem mul_cancel {a b c : S K} (ha : a ≠ 0) (h : a * b = a * c) : b = c := by
  have e : a * (b - c) = 0 := by rw [show a * (b - c) = a * b - a * c from ring_of [a, b, c] (by decide +kernel), h, sub_self]
  rcases mul_eq_zero e with h | h
  · exact absurd h ha
  · exact eq_of_sub h
theorem lead {a : S K} {n : Nat} (h : Lt a n) (hz : a ≠ 0) : ∃ m, m < n ∧ Lt a (m + 1) ∧ a m ≠ 0 := by
  induction n with
  | zero => exact absurd (lt_zero h) hz
  | succ n ih =>
    by_cases e : a n = 0
    · obtain ⟨m, h1, h2, h3⟩ := ih fun i hi => if hin : i = n then hin ▸ e else h i (by omega)
      exact ⟨m, by omega, h2, h3⟩
    · exact ⟨n, by omega, h, e⟩
def Deg (a : S K) (m : Nat) : Prop := Lt a (m + 1) ∧ a m ≠ 0
theorem Deg.ne {a : S K} {m : Nat} (h : Deg a m) : a ≠ 0 := by
  rintro rfl; exact h.2 rfl
theorem Deg.of {a : S K} {n : Nat} (h : Lt a n) (hz : a ≠ 0) : ∃ m, m < n ∧ Deg a m := by
  obtain ⟨m, h1, h2, h3⟩ := lead h hz; exact ⟨m, h1, h2, h3⟩
theorem Deg.lt {a : S K} {m n : Nat} (h : Deg a m) (hn : Lt a n) : m < n :=
  Nat.lt_of_not_le fun hle => h.2 (hn m hle)
theorem Deg.unique {a : S K} {m n : Nat} (h : Deg a m) (k : Deg a n) : m = n := by
  have h1 := h.lt k.1; have h2 := k.lt h.1; omega
theorem Deg.mul {a b : S K} {m n : Nat} (ha : Deg a m) (hb : Deg b n) : Deg (a * b) (m + n) :=
  ⟨ha.1.mul hb.1 (by omega), by rw [lead_mul ha.1 hb.1]; exact Alg.mul_ne ha.2 hb.2⟩
theorem Deg.one : Deg (1 : S K) 0 := ⟨Lt.one, one_ne⟩
theorem Deg.pw (n : Nat) : Deg (pw n : S K) n := ⟨Lt.pw n, by rw [pw_at, if_pos rfl]; exact one_ne⟩
theorem pw_ne (n : Nat) : (pw n : S K) ≠ 0 := (Deg.pw n).ne
theorem lt_of_mul {a b : S K} {m n k : Nat} (ha : Deg a m) (hb : Lt b k) (h : Lt (a * b) (m + n)) : Lt b n := by
  by_cases e : b = 0
  · rw [e]; exact Lt.zero _
  · obtain ⟨d, hd, hdeg⟩ := Deg.of hb e
    have := (ha.mul hdeg).lt h
    exact hdeg.1.mono (by omega)
theorem div_unique {q a a' r r' : S K} {d k : Nat} (hq : Deg q d) (ha : Lt a k) (ha' : Lt a' k) (hr : Lt r d) (hr' : Lt r' d) (h : a * q + r = a' * q + r') : a = a' ∧ r = r' := by
  have e : q * (a - a') = r' - r := by
    have : q * (a - a') = (a * q + r) - (a' * q + r') + (r' - r) := ring_of [q, a, a', r, r'] (by decide +kernel)
    rw [this, h, sub_self, zero_add]
  have hz : a - a' = 0 := by
    have := lt_of_mul (n := 0) hq (ha.sub ha') (by rw [e]; exact hr'.sub hr)
    exact lt_zero this
  have h1 := eq_of_sub hz
  subst h1
  exact ⟨rfl, add_left_cancel h⟩
def Dv (c a : S K) : Prop := ∃ b n, Lt b n ∧ a = c * b
theorem Dv.mul {c a b : S K} {n : Nat} (ha : Dv c a) (hb : Lt b n) : Dv c (a * b) := by
  obtain ⟨x, m, hx, rfl⟩ := ha
  exact ⟨x * b, m + n, (hx.mono (Nat.le_succ m)).mul hb (by omega), mul_assoc _ _ _⟩
theorem Dv.mul' {c a b : S K} {n : Nat} (ha : Dv c a) (hb : Lt b n) : Dv c (b * a) := by rw [mul_comm]; exact ha.mul hb
theorem Dv.deg_le {a b : S K} {m n : Nat} (h : Dv a b) (ha : Deg a m) (hb : Deg b n) : m ≤ n := by
  obtain ⟨x, k, hx, rfl⟩ := h
  have hz : x ≠ 0 := by rintro rfl; exact hb.ne (mul_zero _)
  obtain ⟨d, _, hd⟩ := Deg.of hx hz
  have := (ha.mul hd).unique hb
  omega
theorem Dv.antisymm0 {a b : S K} (ha : a 0 = 1) (hb : b 0 = 1) {m n : Nat} (da : Lt a m) (db : Lt b n) (h : Dv a b) (k : Dv b a) : a = b := by
  have za : a ≠ 0 := by rintro rfl; exact one_ne ha.symm
  have zb : b ≠ 0 := by rintro rfl; exact one_ne hb.symm
  obtain ⟨i, _, hi⟩ := Deg.of da za
  obtain ⟨j, _, hj⟩ := Deg.of db zb
  have h1 := h.deg_le hi hj
  have h2 := k.deg_le hj hi
  have e : j = i := by omega
  subst e
  obtain ⟨x, l, hx, rfl⟩ := h
  have hx1 : Lt x 1 := lt_of_mul (n := 1) hi hx hj.1
  have ex := lt_one hx1
  rw [ex] at hb ⊢
  rw [mul_C_at, ha, one_mul] at hb
  rw [hb]; exact (mul_one a).symm
end S
end
end Alg
end
section
namespace Alg
class Two (p : Nat) : Prop where
  le : 2 ≤ p
def Zp (p : Nat) : Type := { x : Int // 0 ≤ x ∧ x < p }
namespace Zp
section
variable {p : Nat} [hp : Two p]
theorem pos : (0 : Int) < p := by have := hp.le; omega
def mk (x : Int) : Zp p := ⟨x % p, Int.emod_nonneg _ (by have := pos (p := p); omega), Int.emod_lt_of_pos _ pos⟩
theorem mk_eq {a b : Int} : (mk a : Zp p) = mk b ↔ a % p = b % p := Subtype.ext_iff
theorem mk_val (a : Zp p) : mk a.1 = a := Subtype.ext (Int.emod_eq_of_lt a.2.1 a.2.2)
theorem val_mk (x : Int) : (mk x : Zp p).1 = x % p := rfl
instance : Zero (Zp p) := ⟨mk 0⟩
instance : One (Zp p) := ⟨mk 1⟩
instance : Add (Zp p) := ⟨fun a b => mk (a.1 + b.1)⟩
instance : Mul (Zp p) := ⟨fun a b => mk (a.1 * b.1)⟩
instance : Neg (Zp p) := ⟨fun a => mk (-a.1)⟩
theorem mk_zero : (mk 0 : Zp p) = 0 := rfl
theorem mk_one : (mk 1 : Zp p) = 1 := rfl
theorem mk_add (a b : Int) : (mk (a + b) : Zp p) = mk a + mk b := by
  show _ = mk (_ + _); rw [mk_eq, val_mk, val_mk]; exact Int.add_emod _ _ _
theorem mk_mul (a b : Int) : (mk (a * b) : Zp p) = mk a * mk b := by
  show _ = mk (_ * _); rw [mk_eq, val_mk, val_mk]; exact Int.mul_emod _ _ _
theorem mk_neg (a : Int) : (mk (-a) : Zp p) = -mk a := by
  show _ = mk (-_); rw [mk_eq, val_mk]
  have h := Int.mul_ediv_add_emod a p
  have : -a = -(a % p) + p * -(a / p) := by rw [Int.mul_neg]; omega
  rw [this, Int.add_mul_emod_self_left]
theorem ind {P : Zp p → Prop} (h : ∀ x : Int, P (mk x)) (a : Zp p) : P a := by have := h a.1; rwa [mk_val] at this
instance : CR (Zp p) where
  add_comm a b := by
    induction a using ind with | _ a => induction b using ind with | _ b => rw [← mk_add, ← mk_add, Int.add_comm]
  add_assoc a b c := by
    induction a using ind with | _ a => induction b using ind with | _ b => induction c using ind with | _ c => simp only [← mk_add, Int.add_assoc]
  zero_add a := by
    induction a using ind with | _ a => rw [← mk_zero, ← mk_add, Int.zero_add]
  neg_add a := by
    induction a using ind with | _ a => rw [← mk_zero, ← mk_neg, ← mk_add, Int.add_left_neg]
  mul_comm a b := by
    induction a using ind with | _ a => induction b using ind with | _ b => rw [← mk_mul, ← mk_mul, Int.mul_comm]
  mul_assoc a b c := by
    induction a using ind with | _ a => induction b using ind with | _ b => induction c using ind with | _ c => simp only [← mk_mul, Int.mul_assoc]
  one_mul a := by
    induction a using ind with | _ a => rw [← mk_one, ← mk_mul, Int.one_mul]
  add_mul a b c := by
    induction a using ind with | _ a => induction b using ind with | _ b => induction c using ind with | _ c => simp only [← mk_mul, ← mk_add, Int.add_mul]
theorem mk_sub (a b : Int) : (mk (a - b) : Zp p) = mk a - mk b := by rw [Int.sub_eq_add_neg, mk_add, mk_neg]; rfl
theorem mk_p : (mk (p : Int) : Zp p) = 0 := by rw [← mk_zero, mk_eq]; simp
theorem mk_emod (x : Int) : (mk (x % p) : Zp p) = mk x := by rw [mk_eq, Int.emod_emod]
theorem nc_eq (n : Nat) : (nc n : Zp p) = mk (n : Int) := by
  induction n with
  | zero => rfl
  | succ n ih => rw [nc, ih, Int.natCast_succ, mk_add, mk_one]
theorem one_ne : (1 : Zp p) ≠ 0 := by
  rw [← mk_one, ← mk_zero]; intro h; rw [mk_eq] at h
  have := hp.le
  rw [Int.emod_eq_of_lt (by omega) (by omega)] at h; simp at h
end
end Zp
namespace S
section
variable {R : Type} [CR R]
def Mo (q : S R) (d : Nat) : Prop := Lt q (d + 1) ∧ q d = 1
theorem mo_lt {q b : S R} {d n k : Nat} (hq : Mo q d) (hb : Lt b k) (h : Lt (q * b) (d + n)) : Lt b n := by
  induction k with
  | zero => rw [lt_zero hb]; exact Lt.zero _
  | succ k ih =>
    by_cases hk : n ≤ k
    · refine ih fun i hi => ?_
      by_cases e : i = k
      · subst e
        have := h (d + i) (by omega)
        rw [lead_mul hq.1 hb, hq.2, one_mul] at this; exact this
      · exact hb i (by omega)
    · exact hb.mono (by omega)
theorem mo_unique {q a a' r r' : S R} {d k : Nat} (hq : Mo q d) (ha : Lt a k) (ha' : Lt a' k) (hr : Lt r d) (hr' : Lt r' d) (h : q * a + r = q * a' + r') : a = a' ∧ r = r' := by
  have e : q * (a - a') = r' - r := by
    have : q * (a - a') = (q * a + r) - (q * a' + r') + (r' - r) := ring_of [q, a, a', r, r'] (by decide +kernel)
    rw [this, h, sub_self, zero_add]
  have hz : a - a' = 0 := lt_zero (mo_lt (n := 0) hq (ha.sub ha') (by rw [e]; exact hr'.sub hr))
  have h1 := eq_of_sub hz
  subst h1
  exact ⟨rfl, add_left_cancel h⟩
theorem mo_div {q : S R} {d : Nat} (hq : Mo q d) (n : Nat) (a : S R) (ha : Lt a n) : ∃ k r : S R, Lt k n ∧ Lt r d ∧ a = q * k + r := by
  induction n generalizing a with
  | zero => exact ⟨0, 0, Lt.zero _, Lt.zero _, by rw [lt_zero ha, mul_zero, add_zero]⟩
  | succ n ih =>
    by_cases h : n < d
    · exact ⟨0, a, Lt.zero _, ha.mono (by omega), by rw [mul_zero, zero_add]⟩
    · have hc : Lt (q * (C (a n) * pw (n - d))) (n + 1) :=
        hq.1.mul ((Lt.C (a n)).mul (Lt.pw (n - d)) (show 0 + (n - d + 1) ≤ n - d + 1 by omega)) (by omega)
      have hl : (q * (C (a n) * pw (n - d)) : S R) n = a n := by
        have h1 := lead_mul hq.1 ((Lt.C (a n)).mul (Lt.pw (n - d)) (show 0 + (n - d + 1) ≤ n - d + 1 by omega))
        rw [show d + (n - d) = n from by omega] at h1
        rw [h1, hq.2, one_mul, C_mul_at, pw_at, if_pos rfl, mul_one]
      obtain ⟨k, r, hk, hr, e⟩ := ih (a - q * (C (a n) * pw (n - d))) fun i hi => by
        rw [sub_at]
        by_cases hin : i = n
        · subst hin; rw [hl, sub_self]
        · rw [ha i (by omega), hc i (by omega), sub_self]
      refine ⟨k + C (a n) * pw (n - d), r, (hk.mono (by omega)).add ((Lt.C (a n)).mul (Lt.pw (n - d)) (by omega)), hr, ?_⟩
      generalize C (a n) * pw (n - d) = t at *
      calc a = (a - q * t) + q * t := ring_of [a, q, t] (by decide +kernel)
        _ = q * k + r + q * t := by rw [e]
        _ = _ := ring_of [q, k, r, t] (by decide +kernel)
def Cg (q a b : S R) : Prop := ∃ k n, Lt k n ∧ a = b + q * k
theorem Cg.refl (q a : S R) : Cg q a a := ⟨0, 0, Lt.zero _, by rw [mul_zero, add_zero]⟩
theorem Cg.symm {q a b : S R} (h : Cg q a b) : Cg q b a := by
  obtain ⟨k, n, hk, rfl⟩ := h; exact ⟨-k, n, hk.neg, ring_of [b, q, k] (by decide +kernel)⟩
theorem Cg.trans {q a b c : S R} (h : Cg q a b) (h' : Cg q b c) : Cg q a c := by
  obtain ⟨k, n, hk, rfl⟩ := h; obtain ⟨j, m, hj, rfl⟩ := h'
  exact ⟨k + j, max m n, (hk.mono (by omega)).add (hj.mono (by omega)), ring_of [c, q, k, j] (by decide +kernel)⟩
theorem Cg.add {q a b c d : S R} (h : Cg q a b) (h' : Cg q c d) : Cg q (a + c) (b + d) := by
  obtain ⟨k, n, hk, rfl⟩ := h; obtain ⟨j, m, hj, rfl⟩ := h'
  exact ⟨k + j, max m n, (hk.mono (by omega)).add (hj.mono (by omega)), ring_of [b, d, q, k, j] (by decide +kernel)⟩
theorem Cg.mul {q a b c : S R} {n : Nat} (h : Cg q a b) (hc : Lt c n) : Cg q (a * c) (b * c) := by
  obtain ⟨k, m, hk, rfl⟩ := h
  exact ⟨k * c, m + n, (hk.mono (Nat.le_succ m)).mul hc (by omega), ring_of [b, c, q, k] (by decide +kernel)⟩
theorem Cg.mul' {q a b c : S R} {n : Nat} (h : Cg q a b) (hc : Lt c n) : Cg q (c * a) (c * b) := by
  rw [mul_comm c, mul_comm c]; exact h.mul hc
theorem Cg.eq {q a b : S R} {d : Nat} (hq : Mo q d) (h : Cg q a b) (ha : Lt a d) (hb : Lt b d) : a = b := by
  obtain ⟨k, n, hk, e⟩ := h
  exact (mo_unique hq (Lt.zero n) hk ha hb (by rw [mul_zero, zero_add, e, add_comm])).2
end
end S
structure Md (R : Type) [CR R] where
  q : S R
  d : Nat
  mo : S.Mo q d
def Rs {R : Type} [CR R] (M : Md R) : Type := { a : S R // S.Lt a M.d }
namespace Rs
section
variable {R : Type} [CR R] {M : Md R}
theorem ex_red {a : S R} (h : ∃ n, S.Lt a n) : ∃ r : Rs M, S.Cg M.q a r.1 := by
  obtain ⟨n, hn⟩ := h
  obtain ⟨k, r, hk, hr, e⟩ := S.mo_div M.mo n a hn
  exact ⟨⟨r, hr⟩, k, n, hk, by rw [e, add_comm]⟩
noncomputable def red (a : S R) (h : ∃ n, S.Lt a n) : Rs M := Classical.choose (ex_red (M := M) h)
theorem red_cg (a : S R) (h : ∃ n, S.Lt a n) : S.Cg M.q a (red (M := M) a h).1 := Classical.choose_spec (ex_red (M := M) h)
theorem eq_of_cg {a b : Rs M} (h : S.Cg M.q a.1 b.1) : a = b := Subtype.ext (h.eq M.mo a.2 b.2)
theorem red_eq {a : S R} {h : ∃ n, S.Lt a n} {r : Rs M} (k : S.Cg M.q a r.1) : red a h = r := eq_of_cg ((red_cg a h).symm.trans k)
theorem mul_ok (a b : Rs M) : ∃ n, S.Lt (a.1 * b.1) n := ⟨M.d + M.d, (a.2.mono (Nat.le_succ _)).mul b.2 (by omega)⟩
theorem one_ok : ∃ n, S.Lt (1 : S R) n := ⟨1, S.Lt.one⟩
noncomputable instance : Zero (Rs M) := ⟨⟨0, S.Lt.zero _⟩⟩
noncomputable instance : One (Rs M) := ⟨red 1 one_ok⟩
noncomputable instance : Add (Rs M) := ⟨fun a b => ⟨a.1 + b.1, a.2.add b.2⟩⟩
noncomputable instance : Neg (Rs M) := ⟨fun a => ⟨-a.1, a.2.neg⟩⟩
noncomputable instance : Mul (Rs M) := ⟨fun a b => red (a.1 * b.1) (mul_ok a b)⟩
theorem mul_cg (a b : Rs M) : S.Cg M.q (a.1 * b.1) (a * b).1 := red_cg _ _
theorem one_cg : S.Cg M.q 1 (1 : Rs M).1 := red_cg _ _
noncomputable instance : CR (Rs M) where
  add_comm a b := Subtype.ext (Alg.add_comm a.1 b.1)
  add_assoc a b c := Subtype.ext (Alg.add_assoc a.1 b.1 c.1)
  zero_add a := Subtype.ext (Alg.zero_add a.1)
  neg_add a := Subtype.ext (Alg.neg_add a.1)
  mul_comm a b := eq_of_cg ((mul_cg a b).symm.trans (by rw [Alg.mul_comm]; exact mul_cg b a))
  mul_assoc a b c := by
    refine eq_of_cg (((mul_cg (a * b) c).symm.trans ((mul_cg a b).symm.mul c.2)).trans ?_)
    rw [Alg.mul_assoc]
    exact ((mul_cg b c).mul' a.2).trans (mul_cg a (b * c))
  one_mul a := by
    refine eq_of_cg ((mul_cg 1 a).symm.trans ((one_cg.symm.mul a.2).trans ?_))
    rw [Alg.one_mul]; exact S.Cg.refl _ _
  add_mul a b c := by
    refine eq_of_cg ((mul_cg (a + b) c).symm.trans ?_)
    show S.Cg M.q ((a.1 + b.1) * c.1) ((a * c).1 + (b * c).1)
    rw [Alg.add_mul]; exact (mul_cg a c).add (mul_cg b c)
theorem add_val (a b : Rs M) : (a + b).1 = a.1 + b.1 := rfl
theorem neg_val (a : Rs M) : (-a).1 = -a.1 := rfl
theorem one_val (h : 1 ≤ M.d) : (1 : Rs M).1 = 1 := by
  have : (1 : Rs M) = ⟨1, S.Lt.one.mono h⟩ := eq_of_cg one_cg.symm
  rw [this]
theorem mul_is {a b c : Rs M} (h : S.Cg M.q (a.1 * b.1) c.1) : a * b = c := red_eq h
theorem nc_val (h : 1 ≤ M.d) (n : Nat) : (nc n : Rs M).1 = S.C (nc n) := by
  induction n with
  | zero => show (0 : S R) = S.C 0; rw [S.C_0]
  | succ n ih => rw [nc, add_val, ih, one_val h, nc, S.C_add]; rfl
end
end Rs
end Alg
end
section
namespace Alg
namespace S
section
variable {K : Type} [Fld K]
structure Eu (n : Nat) (a0 b0 a b old t : S K) (d : Nat) : Prop where
  dn : d ≤ n
  da : Deg a d
  db : Lt b d
  dt : Deg t (n - d)
  dold : Lt old (n - d)
  cf : ∃ y z : S K, (∃ k, Lt y k ∧ Lt z k) ∧ a = old * b0 + y * a0 ∧ b = t * b0 + z * a0 ∧ (old * z - t * y = 1 ∨ old * z - t * y = -1)
theorem Eu.start {n : Nat} {a0 b0 : S K} (ha : Deg a0 n) (hb : Lt b0 n) : Eu n a0 b0 a0 b0 0 1 n where
  dn := Nat.le_refl n
  da := ha
  db := hb
  dt := by rw [Nat.sub_self]; exact Deg.one
  dold := Lt.zero _
  cf := ⟨1, 0, ⟨1, Lt.one, Lt.zero _⟩, ring_of [a0, b0] (by decide +kernel), ring_of [a0, b0] (by decide +kernel), .inr (ring_of ([] : List (S K)) (by decide +kernel))⟩
theorem Deg.add_lt {a b : S K} {m : Nat} (ha : Deg a m) (hb : Lt b m) : Deg (a + b) m :=
  ⟨ha.1.add (hb.mono (by omega)), by rw [add_at, hb m (Nat.le_refl m), add_zero]; exact ha.2⟩
theorem Deg.neg {a : S K} {m : Nat} (ha : Deg a m) : Deg (-a) m := ⟨ha.1.neg, neg_ne ha.2⟩
theorem quo_deg {a b q r : S K} {d e k : Nat} (ha : Deg a d) (hb : Deg b e) (hde : e ≤ d) (hq : Lt q k) (hr : Lt r e) (h : a = q * b + r) : Deg q (d - e) := by
  have hz : q ≠ 0 := by
    rintro rfl; rw [zero_mul, zero_add] at h
    exact absurd (ha.lt (h ▸ hr)) (by omega)
  obtain ⟨m, _, hm⟩ := Deg.of hq hz
  have h1 : Deg (q * b + r) (m + e) := (hm.mul hb).add_lt (hr.mono (by omega))
  have := ha.unique (h ▸ h1)
  rw [show d - e = m from by omega]; exact hm
theorem Eu.step {n d e k : Nat} {a0 b0 a b old t q r : S K} (h : Eu n a0 b0 a b old t d) (hb : Deg b e) (hq : Lt q k) (hr : Lt r e) (e1 : a = q * b + r) : Eu n a0 b0 b r t (old - q * t) e := by
  have hed : e < d := hb.lt h.db
  have hn := h.dn
  have hqd := quo_deg h.da hb (by omega) hq hr e1
  have hqt := hqd.mul h.dt
  refine ⟨by omega, hb, hr, ?_, h.dt.1.mono (by omega), ?_⟩
  · rw [show n - e = d - e + (n - d) from by omega]
    have h1 : old - q * t = -(q * t) + old := ring_of [old, q, t] (by decide +kernel)
    rw [h1]; exact hqt.neg.add_lt (h.dold.mono (by omega))
  · obtain ⟨y, z, ⟨j, hy, hz⟩, ea, eb, hdet⟩ := h.cf
    refine ⟨z, y - q * z, ⟨d - e + j, hz.mono (by omega), (hy.mono (by omega)).sub (hqd.1.mul hz (by omega))⟩, eb, ?_, ?_⟩
    · have : r = a - q * b := by rw [e1]; exact ring_of [q, b, r] (by decide +kernel)
      rw [this, ea, eb]; exact ring_of [a0, b0, q, old, t, y, z] (by decide +kernel)
    · have e2 : t * (y - q * z) - (old - q * t) * z = -(old * z - t * y) := ring_of [t, y, q, z, old] (by decide +kernel)
      rw [e2]; rcases hdet with h | h
      · rw [h]; exact .inr rfl
      · rw [h]; exact .inl (neg_neg _)
theorem Eu.only {n d k : Nat} {a0 b0 a b old t s w m : S K} (h : Eu n a0 b0 a b old t d) (h0 : Deg a0 n) (hs : Lt s k) (hm : Lt m k) (e : s * b0 = w + m * a0) (h1 : Lt (t * w) n) (h2 : Lt (s * b) n) : t * w = s * b ∧ Dv t s := by
  obtain ⟨y, z, ⟨j, hy, hz⟩, ea, eb, hdet⟩ := h.cf
  have ht : Lt t (n - d + 1) := h.dt.1
  have ew : w = s * b0 - m * a0 := by rw [e]; exact ring_of [w, m * a0] (by decide +kernel)
  have e1 : a0 * (-(t * m + s * z)) = t * w - s * b := by rw [ew, eb]; exact ring_of [a0, t, m, s, z, b0] (by decide +kernel)
  have l1 : Lt (-(t * m + s * z)) (n - d + k + j) :=
    ((ht.mul hm (show n - d + k ≤ n - d + k + j by omega)).add ((hs.mono (Nat.le_succ k)).mul hz (by omega))).neg
  have hz0 : -(t * m + s * z) = 0 := lt_zero (lt_of_mul (n := 0) h0 l1 (by rw [e1]; exact h1.sub h2))
  refine ⟨?_, ?_⟩
  · rw [hz0, mul_zero] at e1; exact eq_of_sub e1.symm
  · have esz : s * z = -(t * m) := by
      have : s * z = -(-(t * m + s * z)) - t * m := ring_of [t, m, s, z] (by decide +kernel)
      rw [this, hz0]; exact ring_of [t, m] (by decide +kernel)
    have e3 : s * (old * z - t * y) = t * (-(m * old + s * y)) := by
      calc s * (old * z - t * y) = s * z * old - s * t * y := ring_of [s, old, z, t, y] (by decide +kernel)
        _ = _ := by rw [esz]; exact ring_of [s, old, z, t, y, m] (by decide +kernel)
    have l2 : Lt (-(m * old + s * y)) (k + n + j) :=
      (((hm.mono (Nat.le_succ k)).mul h.dold (show k + (n - d) ≤ k + n + j by omega)).add ((hs.mono (Nat.le_succ k)).mul hy (by omega))).neg
    rcases hdet with hd | hd
    · exact ⟨_, _, l2, by rw [← e3, hd, mul_one]⟩
    · refine ⟨_, _, l2.neg, ?_⟩
      rw [mul_neg, ← e3, hd]; exact ring_of [s] (by decide +kernel)
theorem unit_pw {c w l : S K} {k n : Nat} (hc : c 0 ≠ 0) (hw : Lt w n) (h : c * w = pw k * l) : ∃ w' : S K, Lt w' n ∧ c * w' = l := by
  have hlow : ∀ i, i < k → w i = 0 := by
    intro i
    induction i using Nat.strongRecOn with
    | _ i ih =>
      intro hi
      have h1 : (c * w) i = c 0 * w i := by
        rw [mul_at, sum_one 0 (by omega)]
        · rfl
        · intro j hj hne; rw [ih (i - j) (by omega) (by omega), mul_zero]
      rw [h, pw_mul_lt _ _ _ hi] at h1
      rcases Alg.mul_eq_zero h1.symm with h | h
      · exact absurd h hc
      · exact h
  have e := pw_dvd hlow
  generalize (show S K from fun i => w (k + i)) = w' at e
  refine ⟨w', fun i hi => ?_, mul_cancel (pw_ne k) ?_⟩
  · have := hw (k + i) (by omega)
    rw [e, pw_mul_add] at this; exact this
  · rw [← h, e]; exact ring_of [pw k, c, w'] (by decide +kernel)
def lc (a : K) : S K := 1 - C a * X
def geom (a : K) : S K := fun i => npow a i
theorem lc_geom (a : K) : lc a * geom a = 1 := by
  have e : geom a = 1 + X * (C a * geom a) := by
    ext i; cases i with
    | zero => rw [add_at, X_mul_zero]; exact (add_zero _).symm
    | succ i =>
      rw [add_at, X_mul_succ, C_mul_at]
      show npow a i * a = 0 + a * npow a i
      rw [zero_add, mul_comm]
  have : lc a * geom a = geom a - X * (C a * geom a) := by rw [lc]; exact ring_of [C a, X, geom a] (by decide +kernel)
  rw [this]
  have e2 : geom a - X * (C a * geom a) = (1 + X * (C a * geom a)) - X * (C a * geom a) := by rw [← e]
  rw [e2]; exact ring_of [X * (C a * geom a)] (by decide +kernel)
def loc : List K → S K
  | [] => 1
  | a :: l => lc a * loc l
def om : List (K × K) → S K
  | [] => 0
  | (a, v) :: l => C v * loc (l.map Prod.fst) + lc a * om l
def syn : List (K × K) → S K
  | [] => 0
  | (a, v) :: l => C v * geom a + syn l
theorem key (l : List (K × K)) : loc (l.map Prod.fst) * syn l = om l := by
  induction l with
  | nil => exact mul_zero _
  | cons x l ih =>
    obtain ⟨a, v⟩ := x
    show lc a * loc (l.map Prod.fst) * (C v * geom a + syn l) = _
    rw [om, ← ih]
    calc lc a * loc (l.map Prod.fst) * (C v * geom a + syn l) = (lc a * geom a) * (C v * loc (l.map Prod.fst)) + lc a * (loc (l.map Prod.fst) * syn l) :=
          ring_of [lc a, loc (l.map Prod.fst), C v, geom a, syn l] (by decide +kernel)
      _ = _ := by rw [lc_geom, one_mul]
end
end S
end Alg
end
section
namespace Alg
namespace S
section
variable {K : Type} [Fld K]
theorem low_mul {c e : S K} {k : Nat} (h : ∀ i, i < k → e i = 0) : (∀ i, i < k → (c * e) i = 0) ∧ (c * e) k = c 0 * e k := by
  have e1 := pw_dvd h
  generalize (show S K from fun i => e (k + i)) = f at e1
  have e2 : c * e = pw k * (c * f) := by rw [e1]; exact ring_of [pw k, c, f] (by decide +kernel)
  refine ⟨fun i hi => by rw [e2]; exact pw_mul_lt _ _ _ hi, ?_⟩
  have h1 := pw_mul_add k (c * f) 0
  have h2 := pw_mul_add k f 0
  rw [Nat.add_zero] at h1 h2
  rw [e2, h1, mul_zero_at, e1, h2]
structure Bm (s c old : S K) (gap : K) (j l since : Nat) : Prop where
  c0 : c 0 = 1
  dc : Lt c (l + 1)
  st : (l = 0 ∧ c = 1 ∧ old = 1 ∧ gap = 1 ∧ since = j + 1 ∧ ∀ i, i < j → s i = 0) ∨
    (∃ (k lo : Nat) (w wo : S K), k < j ∧ since = j - k ∧ l + lo = k + 1 ∧ 0 < l ∧ Lt old (lo + 1) ∧ Lt w l ∧ Lt wo lo ∧ (∀ i, i < j → (c * s) i = w i) ∧
      (∀ i, i < k → (old * s) i = wo i) ∧ (old * s) k = gap ∧ gap ≠ 0)
theorem Bm.start (s : S K) : Bm s 1 1 1 0 0 1 := ⟨rfl, Lt.one, .inl ⟨rfl, rfl, rfl, rfl, rfl, fun i hi => by omega⟩⟩
theorem mul_low {c a b : S K} {j : Nat} (h : ∀ i, i < j → a i = b i) : ∀ i, i < j → (c * a) i = (c * b) i := by
  intro i hi; rw [mul_at, mul_at]; exact sum_congr fun x _ => by rw [h (i - x) (by omega)]
theorem Bm.keep {s c old : S K} {g : K} {j l since : Nat} (h : Bm s c old g j l since) (hd : (c * s) j = 0) : Bm s c old g (j + 1) l (since + 1) := by
  obtain ⟨c0, dc, h | ⟨k, lo, w, wo, h1, h2, h3, h4, h5, h6, h7, h8, h9, h10, h11⟩⟩ := h
  · obtain ⟨h1, h2, h3, h4, h5, h6⟩ := h
    refine ⟨c0, dc, .inl ⟨h1, h2, h3, h4, by omega, fun i hi => ?_⟩⟩
    by_cases e : i = j
    · subst e; rw [h2, one_mul] at hd; exact hd
    · exact h6 i (by omega)
  · refine ⟨c0, dc, .inr ⟨k, lo, w, wo, by omega, by omega, h3, h4, h5, h6, h7, fun i hi => ?_, h9, h10, h11⟩⟩
    by_cases e : i = j
    · subst e; rw [hd, h6 i (by omega)]
    · exact h8 i (by omega)
theorem Bm.next {s c old : S K} {g d q : K} {j l since : Nat} (h : Bm s c old g j l since) (hd : (c * s) j = d) (d0 : d ≠ 0) (hq : q * g = d) :
    (2 * l ≤ j → Bm s (c - C q * (pw since * old)) c d (j + 1) (j + 1 - l) 1) ∧ (¬ 2 * l ≤ j → Bm s (c - C q * (pw since * old)) old g (j + 1) l (since + 1)) := by
  obtain ⟨c0, dc, h | ⟨k, lo, w, wo, h1, h2, h3, h4, h5, h6, h7, h8, h9, h10, h11⟩⟩ := h
  · obtain ⟨rfl, rfl, rfl, rfl, rfl, h6⟩ := h
    rw [mul_one] at hq; subst hq
    rw [one_mul] at hd
    refine ⟨fun _ => ⟨?_, ?_, .inr ⟨j, 0, fun i => if i < j + 1 then ((1 - C q * (pw (j + 1) * 1)) * s : S K) i else 0, 0, by omega, by omega, by omega, by omega, Lt.one, ?_, Lt.zero _, ?_, ?_, ?_, d0⟩⟩, fun hn => by omega⟩
    · rw [sub_at, C_mul_at, pw_mul_lt _ _ _ (by omega), mul_zero, sub_eq, neg_zero, add_zero]; rfl
    · refine (Lt.one.mono (by omega)).sub ((Lt.C q).mul ((Lt.pw (j + 1)).mul Lt.one (show j + 1 + 1 ≤ j + 2 by omega)) (by omega))
    · intro i hi; exact if_neg (by omega)
    · intro i hi; exact (if_pos hi).symm
    · intro i hi; rw [one_mul]; exact h6 i hi
    · rw [one_mul]; exact hd
  · have hc0 : (c - C q * (pw since * old) : S K) 0 = 1 := by
      rw [sub_at, C_mul_at, pw_mul_lt _ _ _ (by omega), mul_zero, sub_eq, neg_zero, add_zero, c0]
    have hco : Lt (C q * (pw since * old)) (since + lo + 1) := (Lt.C q).mul ((Lt.pw since).mul h5 (show since + (lo + 1) ≤ since + lo + 1 by omega)) (by omega)
    have hwo : Lt (C q * (pw since * wo)) (since + lo) := (Lt.C q).mul ((Lt.pw since).mul h7 (show since + lo ≤ since + lo by omega)) (by omega)
    have hnew : ∀ i, i < j + 1 → ((c - C q * (pw since * old)) * s : S K) i = (w - C q * (pw since * wo) : S K) i := by
      intro i hi
      have e1 : (c - C q * (pw since * old)) * s = c * s - C q * (pw since * (old * s)) := ring_of [c, C q, pw since, old, s] (by decide +kernel)
      rw [e1, sub_at, sub_at, C_mul_at, C_mul_at, pw_mul_at, pw_mul_at]
      by_cases hij : i = j
      · subst hij
        rw [if_neg (by omega), if_neg (by omega), show i - since = k from by omega, h10, hd, hq, sub_self, h6 i (by omega), h7 k (by omega), mul_zero, sub_self]
      · rw [h8 i (by omega)]
        by_cases hs : i < since
        · rw [if_pos hs, if_pos hs]
        · rw [if_neg hs, if_neg hs, h9 (i - since) (by omega)]
    refine ⟨fun hl => ⟨hc0, ?_, .inr ⟨j, l, w - C q * (pw since * wo), w, by omega, by omega, by omega, by omega, dc, ?_, h6, hnew, h8, hd, d0⟩⟩,
      fun hl => ⟨hc0, ?_, .inr ⟨k, lo, w - C q * (pw since * wo), wo, by omega, by omega, h3, h4, h5, ?_, h7, hnew, h9, h10, h11⟩⟩⟩
    · exact (dc.mono (by omega)).sub (hco.mono (by omega))
    · exact (h6.mono (by omega)).sub (hwo.mono (by omega))
    · exact (dc.mono (by omega)).sub (hco.mono (by omega))
    · exact (h6.mono (by omega)).sub (hwo.mono (by omega))
theorem Bm.done {s c old : S K} {g : K} {j l since : Nat} (h : Bm s c old g j l since) :
    ∃ w : S K, Lt w l ∧ (∀ i, i < j → (c * s) i = w i) ∧ ∀ (L E : S K) (n : Nat), Lt L n → Lt E n → L * w = E * c → Dv c L := by
  obtain ⟨c0, dc, h | ⟨k, lo, w, wo, h1, h2, h3, h4, h5, h6, h7, h8, h9, h10, h11⟩⟩ := h
  · obtain ⟨rfl, rfl, rfl, rfl, rfl, h6⟩ := h
    exact ⟨0, Lt.zero _, fun i hi => by rw [one_mul]; exact h6 i hi, fun L E n hL _ _ => ⟨L, n, hL, (one_mul L).symm⟩⟩
  · refine ⟨w, h6, h8, fun L E n hL hE e => ?_⟩
    have hdet : c * wo - old * w = -(C g * pw k) := by
      have ee : ∀ i, i < k → (old * s - wo) i = 0 := fun i hi => by rw [sub_at, h9 i hi, sub_self]
      have ee' : ∀ i, i < j → (c * s - w) i = 0 := fun i hi => by rw [sub_at, h8 i hi, sub_self]
      have e1 : c * wo - old * w = old * (c * s - w) - c * (old * s - wo) := ring_of [c, wo, old, w, s] (by decide +kernel)
      have l1 := low_mul (c := c) ee
      have l2 := low_mul (c := old) ee'
      ext i
      rw [neg_at, C_mul_at, pw_at]
      by_cases hik : i ≤ k
      · rw [e1, sub_at, l2.1 i (by omega)]
        by_cases hi : i = k
        · subst hi
          rw [if_pos rfl, l1.2, c0, one_mul, sub_at, h10, h7 i (by omega), sub_eq, sub_eq, zero_add, neg_zero, add_zero, mul_one]
        · rw [l1.1 i (by omega), if_neg hi, sub_self, mul_zero, neg_zero]
      · rw [if_neg (by omega), mul_zero, neg_zero, sub_at, (dc.mul h7 (show l + lo ≤ k + 1 by omega)) i (by omega), (h5.mul h6 (show lo + l ≤ k + 1 by omega)) i (by omega), sub_self]
    have e2 : c * (C (inv g) * (old * E - L * wo)) = pw k * L := by
      calc c * (C (inv g) * (old * E - L * wo)) = C (inv g) * (old * (E * c) - L * (c * wo)) := ring_of [c, C (inv g), old, E, L, wo] (by decide +kernel)
        _ = C (inv g) * (-(L * (c * wo - old * w))) := by rw [← e]; exact ring_of [C (inv g), old, L, w, c, wo] (by decide +kernel)
        _ = (C g * C (inv g)) * (pw k * L) := by rw [hdet]; exact ring_of [C (inv g), L, C g, pw k] (by decide +kernel)
        _ = pw k * L := by rw [← C_mul, mul_inv h11, C_1, one_mul]
    have l3 : Lt (C (inv g) * (old * E - L * wo)) (lo + n) :=
      (Lt.C _).mul ((h5.mul hE (show lo + n ≤ lo + n by omega)).sub (hL.mul' (h7.mono (Nat.le_succ lo)) (by omega))) (by omega)
    obtain ⟨w', hw', e3⟩ := unit_pw (by rw [c0]; exact one_ne) l3 e2
    exact ⟨w', _, hw', e3.symm⟩
end
end S
end Alg
end
section
namespace Alg
def vl (p : Nat) : List Int → Int
  | [] => 0
  | d :: l => d + p * vl p l
def InP (p : Nat) (l : List Int) : Prop := ∀ x, x ∈ l → 0 ≤ x ∧ x < p
theorem InP.cons {p : Nat} {d : Int} {l : List Int} (h : InP p (d :: l)) : (0 ≤ d ∧ d < p) ∧ InP p l := ⟨h d (by simp), fun x hx => h x (by simp [hx])⟩
theorem vl_range {p : Nat} (hp : 0 < p) (l : List Int) (h : InP p l) : 0 ≤ vl p l ∧ vl p l < (p : Int) ^ l.length := by
  induction l with
  | nil => exact ⟨Int.le_refl _, by simp [vl]⟩
  | cons d l ih =>
    obtain ⟨hd, hl⟩ := h.cons
    obtain ⟨h1, h2⟩ := ih hl
    have hp' : (0 : Int) < p := by omega
    refine ⟨Int.add_nonneg hd.1 (Int.mul_nonneg (by omega) h1), ?_⟩
    have h3 : (p : Int) * (vl p l + 1) ≤ p * (p : Int) ^ l.length := Int.mul_le_mul_of_nonneg_left (by omega) (by omega)
    rw [List.length_cons, Int.pow_succ, Int.mul_comm ((p : Int) ^ _)]
    rw [Int.mul_add] at h3
    show d + p * vl p l < _
    omega
theorem vl_div {p : Nat} (hp : 0 < p) (d : Int) (l : List Int) (hd : 0 ≤ d ∧ d < p) : vl p (d :: l) / p = vl p l ∧ vl p (d :: l) % p = d := by
  have hp' : (p : Int) ≠ 0 := by omega
  constructor
  · show (d + p * vl p l) / p = _
    rw [Int.add_mul_ediv_left _ _ hp', Int.ediv_eq_zero_of_lt hd.1 hd.2, Int.zero_add]
  · show (d + p * vl p l) % p = _
    rw [Int.add_mul_emod_self_left, Int.emod_eq_of_lt hd.1 hd.2]
theorem pow_pos {p : Nat} (hp : 0 < p) (j : Nat) : (0 : Int) < (p : Int) ^ j := Int.pow_pos (by omega)
theorem div_succ {p : Nat} (x : Int) (j : Nat) : x / (p : Int) ^ (j + 1) = x / p / (p : Int) ^ j := by
  rw [Int.ediv_ediv_of_nonneg (by omega), Int.pow_succ, Int.mul_comm]
def digs (p : Nat) : Nat → Int → List Int
  | 0, _ => []
  | n + 1, x => x % p :: digs p n (x / p)
theorem digs_length (p n : Nat) (x : Int) : (digs p n x).length = n := by
  induction n generalizing x with
  | zero => rfl
  | succ n ih => simp [digs, ih]
theorem digs_in {p : Nat} (hp : 0 < p) (n : Nat) (x : Int) : InP p (digs p n x) := by
  induction n generalizing x with
  | zero => intro y hy; cases hy
  | succ n ih =>
    intro y hy
    rcases List.mem_cons.1 hy with rfl | hy
    · exact ⟨Int.emod_nonneg _ (by omega), Int.emod_lt_of_pos _ (by omega)⟩
    · exact ih _ y hy
theorem vl_digs {p : Nat} (hp : 0 < p) (n : Nat) (x : Int) (h0 : 0 ≤ x) (h : x < (p : Int) ^ n) : vl p (digs p n x) = x := by
  induction n generalizing x with
  | zero => rw [Int.pow_zero] at h; show (0 : Int) = x; omega
  | succ n ih =>
    have h1 : x / p < (p : Int) ^ n := by
      rw [Int.pow_succ] at h
      exact Int.ediv_lt_of_lt_mul (by omega) h
    show x % p + p * vl p (digs p n (x / p)) = x
    rw [ih _ (Int.ediv_nonneg h0 (by omega)) h1, Int.emod_add_mul_ediv]
theorem digs_vl {p : Nat} (hp : 0 < p) (l : List Int) (h : InP p l) : digs p l.length (vl p l) = l := by
  induction l with
  | nil => rfl
  | cons d l ih =>
    obtain ⟨hd, hl⟩ := h.cons
    obtain ⟨h1, h2⟩ := vl_div hp d l hd
    show vl p (d :: l) % p :: digs p l.length (vl p (d :: l) / p) = _
    rw [h1, h2, ih hl]
theorem digs_at {p : Nat} (n : Nat) (x : Int) (j : Nat) (hj : j < n) : (digs p n x).getD j 0 = x / (p : Int) ^ j % p := by
  induction n generalizing x j with
  | zero => omega
  | succ n ih =>
    cases j with
    | zero => rw [Int.pow_zero, Int.ediv_one]; simp [digs]
    | succ j => rw [div_succ, ← ih (x / p) j (by omega)]; simp [digs]
theorem ext_getD {a b : List Int} (hl : a.length = b.length) (h : ∀ j, j < a.length → a.getD j 0 = b.getD j 0) : a = b := by
  apply List.ext_getElem hl
  intro i h1 h2
  have := h i h1
  rwa [List.getD_eq_getElem?_getD, List.getD_eq_getElem?_getD, List.getElem?_eq_getElem h1, List.getElem?_eq_getElem h2] at this
theorem eq_digs {p : Nat} {n : Nat} {x : Int} {l : List Int} (hl : l.length = n) (h : ∀ j, j < n → l.getD j 0 = x / (p : Int) ^ j % p) : l = digs p n x :=
  ext_getD (by rw [hl, digs_length]) fun j hj => by rw [h j (by omega), digs_at n x j (by omega)]
section
variable {p : Nat} [hp : Two p]
def cz (l : List Int) : S (Zp p) := fun j => Zp.mk (l.getD j 0)
theorem cz_lt (l : List Int) : S.Lt (cz l : S (Zp p)) l.length := fun j hj => by
  show Zp.mk (l.getD j 0) = 0
  rw [List.getD_eq_getElem?_getD, List.getElem?_eq_none (by omega)]; rfl
theorem cz_at (l : List Int) (j : Nat) : (cz l : S (Zp p)) j = Zp.mk (l.getD j 0) := rfl
theorem mk_inj {a b : Int} (ha : 0 ≤ a ∧ a < p) (hb : 0 ≤ b ∧ b < p) (h : (Zp.mk a : Zp p) = Zp.mk b) : a = b := by
  rw [Zp.mk_eq, Int.emod_eq_of_lt ha.1 ha.2, Int.emod_eq_of_lt hb.1 hb.2] at h; exact h
theorem inP_getD {l : List Int} (h : InP p l) (j : Nat) : 0 ≤ l.getD j 0 ∧ l.getD j 0 < p := by
  rw [List.getD_eq_getElem?_getD]
  by_cases hj : j < l.length
  · rw [List.getElem?_eq_getElem hj]; exact h _ (List.getElem_mem _)
  · rw [List.getElem?_eq_none (by omega)]; have := hp.le; simp; omega
theorem cz_inj {a b : List Int} (hl : a.length = b.length) (ha : InP p a) (hb : InP p b) (h : (cz a : S (Zp p)) = cz b) : a = b :=
  ext_getD hl fun j _ => mk_inj (inP_getD ha j) (inP_getD hb j) (congrFun h j)
theorem pos_of_two : 0 < p := by have := hp.le; omega
theorem cz_of (n : Nat) (a : S (Zp p)) (h : S.Lt a n) : ∃ l : List Int, l.length = n ∧ InP p l ∧ cz l = a := by
  refine ⟨(List.range n).map fun j => (a j).1, by simp, ?_, ?_⟩
  · intro x hx; obtain ⟨j, _, rfl⟩ := List.mem_map.1 hx; exact (a j).2
  · ext j
    show Zp.mk _ = _
    by_cases hj : j < n
    · rw [List.getD_eq_getElem?_getD, List.getElem?_map, List.getElem?_range hj]; exact Zp.mk_val _
    · rw [List.getD_eq_getElem?_getD, List.getElem?_eq_none (by simpa using hj), h j (by omega)]; rfl
def mdPoly (md : List Int) (m : Nat) : Md (Zp p) where
  q := cz (md.take m) + S.pw m
  d := m
  mo := by
    constructor
    · exact ((cz_lt _).mono (by simp; omega)).add (S.Lt.pw m)
    · rw [S.add_at, (cz_lt (p := p) (md.take m)) m (by simp; omega), S.pw_at, if_pos rfl, zero_add]
variable {m : Nat} {md : List Int}
noncomputable def ofNum (md : List Int) (m : Nat) (x : Int) : Rs (mdPoly (p := p) md m) := ⟨cz (digs p m x), by
  have := cz_lt (p := p) (digs p m x); rwa [digs_length] at this⟩
theorem ofNum_val (x : Int) : (ofNum md m x : Rs (mdPoly (p := p) md m)).1 = cz (digs p m x) := rfl
theorem ofNum_inj {x y : Int} (hx : 0 ≤ x ∧ x < (p : Int) ^ m) (hy : 0 ≤ y ∧ y < (p : Int) ^ m) (h : (ofNum md m x : Rs (mdPoly (p := p) md m)) = ofNum md m y) : x = y := by
  have h1 : (cz (digs p m x) : S (Zp p)) = cz (digs p m y) := congrArg (fun r => r.1) h
  have h2 := cz_inj (by rw [digs_length, digs_length]) (digs_in pos_of_two m x) (digs_in pos_of_two m y) h1
  rw [← vl_digs (p := p) pos_of_two m x hx.1 hx.2, h2, vl_digs pos_of_two m y hy.1 hy.2]
theorem ofNum_surj (a : Rs (mdPoly (p := p) md m)) : ∃ x : Int, (0 ≤ x ∧ x < (p : Int) ^ m) ∧ ofNum md m x = a := by
  obtain ⟨l, hl, hin, e⟩ := cz_of m a.1 a.2
  refine ⟨vl p l, by have := vl_range (p := p) pos_of_two l hin; rwa [hl] at this, Subtype.ext ?_⟩
  have h1 := digs_vl (p := p) pos_of_two l hin
  rw [hl] at h1
  rw [ofNum_val, h1, e]
theorem ofNum_vl {l : List Int} (hl : l.length = m) (hin : InP p l) : (ofNum md m (vl p l) : Rs (mdPoly (p := p) md m)).1 = cz l := by
  rw [ofNum_val, ← hl, digs_vl pos_of_two l hin]
omit hp in
theorem digs_zero (n : Nat) : digs p n 0 = List.replicate n 0 := by
  induction n with
  | zero => rfl
  | succ n ih => simp [digs, ih, List.replicate_succ]
theorem cz_zeros (n : Nat) : (cz (List.replicate n 0) : S (Zp p)) = 0 := by
  ext j; show Zp.mk _ = _
  rw [List.getD_eq_getElem?_getD, List.getElem?_replicate]; split <;> rfl
theorem ofNum_zero : (ofNum md m 0 : Rs (mdPoly (p := p) md m)) = 0 := Subtype.ext (by rw [ofNum_val, digs_zero, cz_zeros]; rfl)
theorem digs_const (n : Nat) (c : Int) (h0 : 0 ≤ c) (h : c < p) : digs p (n + 1) c = c :: List.replicate n 0 := by
  rw [digs, Int.emod_eq_of_lt h0 h, Int.ediv_eq_zero_of_lt h0 h, digs_zero]
theorem ofNum_const (hm : 1 ≤ m) (c : Int) (h0 : 0 ≤ c) (h : c < p) : (ofNum md m c : Rs (mdPoly (p := p) md m)) = nc c.toNat := by
  obtain ⟨k, rfl⟩ : ∃ k, m = k + 1 := ⟨m - 1, by omega⟩
  refine Subtype.ext ?_
  rw [Rs.nc_val hm, ofNum_val, digs_const k c h0 h]
  ext j
  cases j with
  | zero =>
    rw [S.C_zero, Zp.nc_eq, Int.toNat_of_nonneg h0]; rfl
  | succ j =>
    rw [S.C_succ, cz_at]
    simp only [List.getD_cons_succ]
    exact congrFun (cz_zeros (p := p) k) j
theorem ofNum_one (hm : 1 ≤ m) : (ofNum md m 1 : Rs (mdPoly (p := p) md m)) = 1 := by
  have := hp.le
  rw [ofNum_const hm 1 (by omega) (by omega)]; exact nc_one
end
end Alg
end
section
namespace Alg
def inq (q x : Int) : Int := if 0 ≤ x ∧ x < q then x else 0
theorem inq_of {q x : Int} (h : 0 ≤ x ∧ x < q) : inq q x = x := if_pos h
theorem inq_range {q : Int} (hq : 0 < q) (x : Int) : 0 ≤ inq q x ∧ inq q x < q := by
  unfold inq; split
  · assumption
  · omega
theorem inq_zero {q : Int} : inq q 0 = 0 := by unfold inq; split <;> rfl
theorem inq_inq {q : Int} (hq : 0 < q) (x : Int) : inq q (inq q x) = inq q x := inq_of (inq_range hq x)
structure Nums (K : Type) [Fld K] where
  q : Int
  p : Nat
  tk : Int → K
  nm : K → Int
  q2 : 2 ≤ q
  q256 : q ≤ 256
  p2 : 2 ≤ p
  pq : (p : Int) ≤ q
  nm_range : ∀ a, 0 ≤ nm a ∧ nm a < q
  tk_nm : ∀ a, tk (nm a) = a
  nm_tk : ∀ x, nm (tk x) = inq q x
  nm_zero : nm 0 = 0
  nm_one : nm 1 = 1
  tk_const : ∀ c : Nat, c < p → tk (c : Int) = nc c
  nc_p : (nc p : K) = 0
namespace Nums
section
variable {K : Type} [Fld K] (N : Nums K)
theorem nm_inj {a b : K} (h : N.nm a = N.nm b) : a = b := by rw [← N.tk_nm a, h, N.tk_nm]
theorem tk_zero : N.tk 0 = 0 := by rw [← N.nm_zero, N.tk_nm]
theorem tk_one : N.tk 1 = 1 := by rw [← N.nm_one, N.tk_nm]
theorem nm_of {x : Int} (h : 0 ≤ x ∧ x < N.q) : N.nm (N.tk x) = x := by rw [N.nm_tk, inq_of h]
theorem nm_eq_zero {a : K} : N.nm a = 0 ↔ a = 0 := by
  constructor
  · intro h; exact N.nm_inj (h.trans N.nm_zero.symm)
  · rintro rfl; exact N.nm_zero
theorem tk_eq_zero {x : Int} : N.tk x = 0 ↔ inq N.q x = 0 := by
  rw [← N.nm_tk, N.nm_eq_zero]
def lk (l : List Int) : S K := fun i => N.tk (l.getD i 0)
theorem lk_at (l : List Int) (i : Nat) : N.lk l i = N.tk (l.getD i 0) := rfl
theorem lk_lt (l : List Int) : S.Lt (N.lk l) l.length := fun i hi => by
  rw [lk_at, List.getD_eq_getElem?_getD, List.getElem?_eq_none hi]; exact N.tk_zero
theorem lk_nil : N.lk [] = 0 := S.lt_zero (N.lk_lt [])
theorem lk_cons (c : Int) (l : List Int) : N.lk (c :: l) = S.C (N.tk c) + S.X * N.lk l := by
  ext i; rw [S.add_at]; cases i with
  | zero => rw [S.C_zero, S.X_mul_zero, add_zero]; rfl
  | succ i => rw [S.C_succ, S.X_mul_succ, zero_add]; rfl
theorem lk_one : N.lk [1] = 1 := by rw [lk_cons, lk_nil, mul_zero, add_zero, N.tk_one]; rfl
theorem lk_zeros (n : Nat) : N.lk (List.replicate n 0) = 0 := by
  ext i
  rw [lk_at, List.getD_eq_getElem?_getD, List.getElem?_replicate]
  split <;> exact N.tk_zero
theorem lk_append (a b : List Int) : N.lk (a ++ b) = N.lk a + S.pw a.length * N.lk b := by
  induction a with
  | nil => rw [List.nil_append, lk_nil, List.length_nil, S.pw_zero, one_mul, zero_add]
  | cons c a ih => rw [List.cons_append, lk_cons, ih, lk_cons, List.length_cons, S.pw_succ]; exact ring_of [S.C (N.tk c), S.X, N.lk a, S.pw a.length, N.lk b] (by decide +kernel)
theorem set_getD (l : List Int) (i j : Nat) (v : Int) (h : i < l.length) : (l.set i v).getD j 0 = if i = j then v else l.getD j 0 := by
  rw [List.getD_eq_getElem?_getD, List.getElem?_set]
  split
  · rename_i e; subst e; simp [h]
  · rw [List.getD_eq_getElem?_getD]
theorem lk_set (l : List Int) (n : Nat) (v : Int) (h : n < l.length) : N.lk (l.set n v) = N.lk l + S.C (N.tk v - N.tk (l.getD n 0)) * S.pw n := by
  ext i
  rw [lk_at, set_getD l n i v h, S.add_at, S.C_mul_at, S.pw_at]
  by_cases e : n = i
  · subst e; rw [if_pos rfl, if_pos rfl, mul_one, lk_at]; exact ring_of [N.tk v, N.tk (l.getD n 0)] (by decide +kernel)
  · rw [if_neg e, if_neg (fun h => e h.symm), mul_zero, add_zero]; rfl
def Can (l : List Int) : Prop := (∀ x, x ∈ l → 0 ≤ x ∧ x < N.q) ∧ (l ≠ [] → l.getD (l.length - 1) 0 ≠ 0)
theorem Can.nil : N.Can [] := ⟨fun x hx => (by cases hx), fun h => absurd rfl h⟩
theorem Can.at {l : List Int} (h : N.Can l) (i : Nat) : 0 ≤ l.getD i 0 ∧ l.getD i 0 < N.q := by
  have := N.q2
  rw [List.getD_eq_getElem?_getD]
  by_cases hi : i < l.length
  · rw [List.getElem?_eq_getElem hi]; exact h.1 _ (List.getElem_mem _)
  · rw [List.getElem?_eq_none (by omega)]; simp; omega
theorem Can.nm {l : List Int} (h : N.Can l) (i : Nat) : N.nm (N.lk l i) = l.getD i 0 := by rw [lk_at]; exact N.nm_of (Can.at N h i)
theorem Can.deg {l : List Int} (h : N.Can l) (hl : l ≠ []) : S.Deg (N.lk l) (l.length - 1) := by
  have h0 : 0 < l.length := List.length_pos_iff.2 hl
  refine ⟨(N.lk_lt l).mono (by omega), fun e => h.2 hl ?_⟩
  rw [← Can.nm N h, e, N.nm_zero]
theorem Can.eq_nil {l : List Int} (h : N.Can l) : N.lk l = 0 ↔ l = [] := by
  constructor
  · intro e
    by_cases hl : l = []
    · exact hl
    · exact absurd e (Can.deg N h hl).ne
  · rintro rfl; exact N.lk_nil
theorem Can.inj {a b : List Int} (ha : N.Can a) (hb : N.Can b) (h : N.lk a = N.lk b) : a = b := by
  have hl : a.length = b.length := by
    by_cases ea : a = []
    · subst ea; rw [N.lk_nil] at h; rw [(Can.eq_nil N hb).1 h.symm]
    · by_cases eb : b = []
      · subst eb; rw [N.lk_nil] at h; exact absurd ((Can.eq_nil N ha).1 h) ea
      · have h1 := Can.deg N ha ea; have h2 := Can.deg N hb eb
        rw [h] at h1
        have := h1.unique h2
        have := List.length_pos_iff.2 ea; have := List.length_pos_iff.2 eb
        omega
  refine ext_getD hl fun j _ => ?_
  rw [← Can.nm N ha, h, Can.nm N hb]
def nums (a : S K) : Nat → List Int
  | 0 => []
  | n + 1 => nums a n ++ [N.nm (a n)]
theorem nums_length (a : S K) (n : Nat) : (N.nums a n).length = n := by
  induction n with
  | zero => rfl
  | succ n ih => rw [nums, List.length_append, ih]; rfl
theorem nums_at (a : S K) (n i : Nat) (h : i < n) : (N.nums a n).getD i 0 = N.nm (a i) := by
  induction n with
  | zero => omega
  | succ n ih =>
    rw [nums, List.getD_eq_getElem?_getD]
    by_cases e : i < n
    · rw [List.getElem?_append_left (by rw [nums_length]; exact e), ← List.getD_eq_getElem?_getD, ih e]
    · have : i = n := by omega
      subst this
      rw [List.getElem?_append_right (by rw [nums_length]; exact Nat.le_refl _), nums_length, Nat.sub_self]; rfl
theorem nums_mem (a : S K) (n : Nat) : ∀ x, x ∈ N.nums a n → 0 ≤ x ∧ x < N.q := by
  induction n with
  | zero => intro x hx; cases hx
  | succ n ih =>
    intro x hx
    rcases List.mem_append.1 hx with h | h
    · exact ih x h
    · rw [List.mem_singleton.1 h]; exact N.nm_range _
theorem nums_lk {a : S K} {n : Nat} (h : S.Lt a n) : N.lk (N.nums a n) = a := by
  ext i; rw [lk_at]
  by_cases hi : i < n
  · rw [N.nums_at a n i hi, N.tk_nm]
  · rw [List.getD_eq_getElem?_getD, List.getElem?_eq_none (by rw [nums_length]; omega), h i (by omega)]; exact N.tk_zero
theorem exists_can {a : S K} {n : Nat} (h : S.Lt a n) : ∃ l, N.Can l ∧ N.lk l = a ∧ l.length ≤ n := by
  by_cases e : a = 0
  · subst e; exact ⟨[], Can.nil N, N.lk_nil, Nat.zero_le _⟩
  · obtain ⟨d, hd, hdeg⟩ := S.Deg.of h e
    refine ⟨N.nums a (d + 1), ⟨N.nums_mem a _, fun _ => ?_⟩, N.nums_lk hdeg.1, by rw [nums_length]; omega⟩
    rw [nums_length, Nat.add_sub_cancel, N.nums_at a _ _ (by omega)]
    exact fun e => hdeg.2 (N.nm_eq_zero.1 e)
def _root_.Alg.S.Po (a : S K) : Prop := ∃ n, S.Lt a n
theorem exists_cl (a : S K) : ∃ l, S.Po a → N.Can l ∧ N.lk l = a := by
  by_cases h : S.Po a
  · obtain ⟨n, hn⟩ := h
    obtain ⟨l, h1, h2, _⟩ := N.exists_can hn
    exact ⟨l, fun _ => ⟨h1, h2⟩⟩
  · exact ⟨[], fun h' => absurd h' h⟩
noncomputable def cl (a : S K) : List Int := Classical.choose (N.exists_cl a)
theorem cl_can {a : S K} (h : S.Po a) : N.Can (N.cl a) := (Classical.choose_spec (N.exists_cl a) h).1
theorem lk_cl {a : S K} (h : S.Po a) : N.lk (N.cl a) = a := (Classical.choose_spec (N.exists_cl a) h).2
theorem po_lk (l : List Int) : S.Po (N.lk l) := ⟨_, N.lk_lt l⟩
theorem cl_of {l : List Int} {a : S K} (h : N.Can l) (e : N.lk l = a) : N.cl a = l := by
  subst e
  exact Can.inj N (N.cl_can (N.po_lk l)) h (N.lk_cl (N.po_lk l))
theorem cl_lk {l : List Int} (h : N.Can l) : N.cl (N.lk l) = l := N.cl_of h rfl
theorem cl_zero : N.cl 0 = [] := N.cl_of (Can.nil N) N.lk_nil
theorem cl_length_le {a : S K} {n : Nat} (h : S.Lt a n) : (N.cl a).length ≤ n := by
  obtain ⟨l, h1, h2, h3⟩ := N.exists_can h
  rw [N.cl_of h1 h2]; exact h3
theorem cl_lt {a : S K} (h : S.Po a) : S.Lt a (N.cl a).length := by
  have := N.lk_lt (N.cl a); rwa [N.lk_cl h] at this
theorem cl_deg {a : S K} {d : Nat} (h : S.Deg a d) : (N.cl a).length = d + 1 := by
  have hp : S.Po a := ⟨_, h.1⟩
  have h1 := N.cl_length_le h.1
  have h2 := h.lt (N.cl_lt hp)
  omega
theorem cl_nil {a : S K} (h : S.Po a) : N.cl a = [] ↔ a = 0 := by
  constructor
  · intro e; rw [← N.lk_cl h, e, N.lk_nil]
  · rintro rfl; exact N.cl_zero
theorem cl_at {a : S K} (h : S.Po a) (i : Nat) : (N.cl a).getD i 0 = N.nm (a i) := by
  rw [← Can.nm N (N.cl_can h), N.lk_cl h]
theorem deg_cl {a : S K} (h : S.Po a) (hz : a ≠ 0) : S.Deg a ((N.cl a).length - 1) := by
  have := Can.deg N (N.cl_can h) (fun e => hz ((N.cl_nil h).1 e))
  rwa [N.lk_cl h] at this
end
end Nums
namespace S
section
variable {K : Type} [Fld K]
theorem Po.zero : Po (0 : S K) := ⟨0, Lt.zero _⟩
theorem Po.C (c : K) : Po (S.C c) := ⟨1, Lt.C c⟩
theorem Po.pw (n : Nat) : Po (S.pw n : S K) := ⟨_, Lt.pw n⟩
theorem Po.add {a b : S K} (ha : Po a) (hb : Po b) : Po (a + b) := by
  obtain ⟨m, hm⟩ := ha; obtain ⟨n, hn⟩ := hb
  exact ⟨max m n, (hm.mono (by omega)).add (hn.mono (by omega))⟩
theorem Po.mul {a b : S K} (ha : Po a) (hb : Po b) : Po (a * b) := by
  obtain ⟨m, hm⟩ := ha; obtain ⟨n, hn⟩ := hb
  exact ⟨m + n, (hm.mono (Nat.le_succ m)).mul hn (by omega)⟩
theorem Po.deg {a : S K} {d : Nat} (h : Deg a d) : Po a := ⟨_, h.1⟩
open Classical in
noncomputable def ev (a : S K) (x : K) : K := if h : Po a then val (Classical.choose h) a x else 0
end
end S
end Alg
end
section
namespace Alg
namespace S
section
variable {K : Type} [Fld K]
theorem ex_div {a b : S K} {d : Nat} (ha : Po a) (hb : Deg b d) : ∃ q r : S K, Po q ∧ Lt r d ∧ a = q * b + r := by
  obtain ⟨n, hn⟩ := ha
  have hm : Mo (S.C (inv (b d)) * b) d := ⟨(Lt.C _).mul hb.1 (by omega), by rw [C_mul_at, inv_mul hb.2]⟩
  obtain ⟨k, r, hk, hr, e⟩ := mo_div hm n a hn
  exact ⟨S.C (inv (b d)) * k, r, (Po.C _).mul ⟨n, hk⟩, hr, by rw [e]; exact ring_of [S.C (inv (b d)), b, k, r] (by decide +kernel)⟩
theorem ex_div' (a b : S K) : ∃ qr : S K × S K, Po a → ∀ d, Deg b d → Po qr.1 ∧ Lt qr.2 d ∧ a = qr.1 * b + qr.2 := by
  by_cases h : Po a ∧ ∃ d, Deg b d
  · obtain ⟨ha, d, hd⟩ := h
    obtain ⟨q, r, h1, h2, h3⟩ := ex_div ha hd
    exact ⟨(q, r), fun _ e he => ⟨h1, hd.unique he ▸ h2, h3⟩⟩
  · exact ⟨(0, 0), fun ha d hd => absurd ⟨ha, d, hd⟩ h⟩
noncomputable def quo (a b : S K) : S K := (Classical.choose (ex_div' a b)).1
noncomputable def rem (a b : S K) : S K := (Classical.choose (ex_div' a b)).2
theorem div_spec {a b : S K} {d : Nat} (ha : Po a) (hb : Deg b d) : Po (quo a b) ∧ Lt (rem a b) d ∧ a = quo a b * b + rem a b := Classical.choose_spec (ex_div' a b) ha d hb
theorem div_of {a b q r : S K} {d : Nat} (hb : Deg b d) (hq : Po q) (hr : Lt r d) (e : a = q * b + r) : quo a b = q ∧ rem a b = r := by
  have hpr : Po r := ⟨d, hr⟩
  have ha : Po a := by rw [e]; exact (hq.mul (Po.deg hb)).add hpr
  obtain ⟨h1, h2, h3⟩ := div_spec ha hb
  obtain ⟨m, hm⟩ := hq; obtain ⟨n, hn⟩ := h1
  exact div_unique hb (hn.mono (show n ≤ max m n by omega)) (hm.mono (show m ≤ max m n by omega)) h2 hr (h3.symm.trans e)
theorem ex_deg {b : S K} (hb : Po b) (h : b ≠ 0) : ∃ d, Deg b d := by
  obtain ⟨n, hn⟩ := hb; obtain ⟨d, _, hd⟩ := Deg.of hn h
  exact ⟨d, hd⟩
theorem rem_small {a b : S K} {d : Nat} (hb : Deg b d) (ha : Lt a d) : S.quo a b = 0 ∧ S.rem a b = a :=
  div_of hb Po.zero ha (by rw [zero_mul, zero_add])
end
end S
end Alg
end
section
namespace Alg
namespace S
section
variable {K : Type} [Fld K]
def cc (a : S K) : S (S K) := fun i => S.C (a i)
end
end S
end Alg
end
