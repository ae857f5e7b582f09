/- Part of the proof: the walks and the plain arithmetic, in line (wip/tools/pack.py). -/
import Derived.Below
import Derived.Deep.Draws
import Derived.Deep.AppendLies
import Derived.Maps.AppendAt
import Derived.OwnWalk
import Derived.Laws.BytesArg
import Derived.Laws.MakeOwn
import Derived.Laws.OwnMore
import Derived.Deep.OwnRows
import Derived.Tactics
import Derived.Lib.ConvBytes
import Derived.Laws.Slices
import Derived.WalkKit
import Derived.KernelRfl
import Derived.RowKit3
import Derived.Deep.LoopGhost
import Derived.Deep.QuietTactic
import Derived.BigQuiet
import Derived.WideLaws
import Derived.Deep.DeepCutAuto
import Derived.Deep.CutBlock
import Derived.Deep.RegionHeld3
import Derived.Laws.Rows
import Derived.Lib.AppendStr
import Derived.ArgAppend
import Derived.Laws.IdiomCopy
import Derived.RowKit
import Derived.OrdersHeld
import Derived.Laws.BitsLemmas
import Derived.Laws.StructEq
import Derived.Test.YteejcpbngnojkaaProg
import Derived.RangeFuncBox
import Derived.RangeFuncLeaves
import Derived.Shelf.Abstract
import Derived.OwnWalkIn
import Derived.TacticsInMore
import Derived.LoopNIn
import Derived.LoopIn
import Derived.RangeFuncNested
import Derived.RangeFuncBound
import Derived.RangeFuncCalls
import Derived.Shelf.RegionOpen
section
set_option linter.unusedVariables false
set_option linter.unusedSimpArgs false
namespace Go.Proofs.YteejcpbngnojkaaW.PrintWords
open Go.RowKit
structure Aside0 (p : Prop) : Prop where mk :: (out : p)
structure Drawn0 (w w' : World) : Prop where mk :: (out : ∃ n, w' = w.drewN n)
theorem Drawn0.refl (w : World) : Drawn0 w w := ⟨⟨0, rfl⟩⟩
theorem Drawn0.step {w w' : World} (h : Drawn0 w w') (n : Nat) : Drawn0 w (w'.drewN n) := by
  obtain ⟨m, rfl⟩ := h
  exact ⟨⟨m + n, World.drewN_drewN ..⟩⟩
def rd (xs : List Int) (i : Int) : Int := xs.getD i.toNat 0
def bt (s : ByteArray) (i : Int) : Int := if h : i.toNat < s.size then ((s[i.toNat]'h).toNat : Int) else 0
theorem bt_at (s : ByteArray) (i : Int) : ∀ h : i.toNat < s.size, ((s[i.toNat]'h).toNat : Int) = bt s i := fun h => by simp [bt, h]
def nums (k : IntKind) (xs : List Int) : List Value := xs.map fun x => .int k x
theorem below_alloc {w W : World} (h : Below w.heap.size w W) (o : Obj) : Below w.heap.size w (W.alloc o) := h.alloc h.size o
theorem below_drew {B : Nat} {w W : World} (h : Below B w W) : Below B w W.drew := ⟨h.os, h.tape, h.output, h.size, h.block⟩
theorem pw_below_drewN {B : Nat} {w W : World} (h : Below B w W) (n : Nat) : Below B w (W.drewN n) := ⟨h.os, h.tape, h.output, h.size, h.block⟩
theorem below_then {B : Nat} {w w1 w2 : World} (h : Below B w w1) (hB : B ≤ w1.heap.size) (k : Below w1.heap.size w1 w2) : Below B w w2 :=
  h.trans ⟨k.os, k.tape, k.output, k.size, fun i hi => k.block i (Nat.lt_of_lt_of_le hi hB)⟩
theorem pw_cell_below {w w1 : World} (h : Below w.heap.size w w1) {a : Addr} {v : Value} (hc : w.cell? a = some v) : w1.cell? a = some v := (h.cell (World.block_lt_of_cell? w a hc)).trans hc
theorem add_plain (g j : Nat) : (⟨g, 0, none⟩ : Addr).add j = ⟨g, j, none⟩ := by unfold Addr.add; split <;> simp_all
def ReadsInt (w : World) (k : IntKind) (A : Option Addr) (n : Nat) (xs : List Int) : Prop :=
  xs.length = n ∧ n ≤ 9223372036854775807 ∧ (0 < n → ∃ ad, A = some ad ∧ ∀ j, j < n → w.cell? (ad.add j) = some (.int k (xs.getD j 0)))
theorem own_nil (W : World) (base : Nat) (e : TypeId) (size : Nat) : W.ownsRow base e size (.slice none 0 0) 0 [] := ⟨by simp, .inl ⟨rfl, rfl⟩⟩
theorem own_base {w : World} {base : Nat} {e : TypeId} {size n : Nat} {v : Value} {xs : List Value} (h : w.ownsRow base e size v n xs) (k : Nat) (hk : v.ownBlock = some k) : base ≤ k := by
  rcases h.2 with ⟨rfl, _⟩ | ⟨g, cap, cur, rfl, hb, _⟩
  · simp [Value.ownBlock] at hk
  · have : g = k := by simpa [Value.ownBlock] using hk
    omega
theorem own_lt {w : World} {base : Nat} {e : TypeId} {size n : Nat} {v : Value} {xs : List Value} (h : w.ownsRow base e size v n xs) (k : Nat) (hk : v.ownBlock = some k) : k < w.heap.size := by
  rcases h.2 with ⟨rfl, _⟩ | ⟨g, cap, cur, rfl, hb, hh, _⟩
  · simp [Value.ownBlock] at hk
  · have : g = k := by simpa [Value.ownBlock] using hk
    subst this
    exact (Array.getElem?_eq_some_iff.1 hh).1
theorem own_string {P : Program} {w : World} {base n : Nat} {e' src dst e : TypeId} {v : Value} {xs : List Int} (hs : P.underlying src = some (.slice e)) (he : P.underlying e = some (.int .u8)) (hd : P.underlying dst = some .string)
    (h : w.ownsRow base e' 1 v n (nums .u8 xs)) : (convert src dst v).run P w = .ok (.string (strOfNums xs)) w := by
  have hl : xs.length = n := by have := h.1; simp [nums] at this; exact this
  rcases h.2 with ⟨rfl, rfl⟩ | ⟨g, cap, cur, rfl, _⟩
  · obtain rfl : xs = [] := List.eq_nil_of_length_eq_zero hl
    exact run_convert_bytes_nil w src e hs he 0 0 dst hd
  · refine run_convert_bytes_arg w src e hs he g 0 n cap xs hl (fun i hi => ?_) dst hd
    have hc := h.cells (g := g) rfl i (.int .u8 (xs.getD i 0)) (by simp [nums, List.getElem?_eq_getElem (show i < xs.length by omega), List.getD_eq_getElem?_getD])
    have ha : (⟨g, 0, none⟩ : Addr).add i = ⟨g, 0 + i, none⟩ := by unfold Addr.add; split <;> simp_all
    rwa [ha] at hc
section
variable {P : Program} {ops : Array Oper} {rest : List Oper} {o : Oper} {a : Act} {Q : Exit → Act → World → Prop}
end
section
variable {P : Program}
end
section
variable {P : Program} {ops : Array Oper} {rest : List Oper} {o : Oper} {a : Act} {Q : Exit → Act → World → Prop}
end
def LeO {α : Type} (a b : Option α) : Prop := ∀ r, a = some r → b = some r
theorem LeO.refl {α : Type} (a : Option α) : LeO a a := fun _ h => h
theorem LeO.none {α : Type} (b : Option α) : LeO Option.none b := fun _ h => by cases h
theorem LeO.ite {α : Type} {c : Prop} [Decidable c] {a a' b b' : Option α} (h : LeO a a') (k : LeO b b') : LeO (if c then a else b) (if c then a' else b') := by
  split
  · exact h
  · exact k
theorem LeO.bind {α β : Type} {a a' : Option α} {f f' : α → Option β} (h : LeO a a') (k : ∀ x, LeO (f x) (f' x)) : LeO (a.bind f) (a'.bind f') := by
  intro r hr
  obtain ⟨x, hx, hf⟩ := Option.bind_eq_some_iff.1 hr
  exact Option.bind_eq_some_iff.2 ⟨x, h x hx, k x r hf⟩
def Reps {α : Type} (R : α → List Value → Prop) (size : Nat) (ps : List α) (cs : List Value) : Prop :=
  cs.length = ps.length * size ∧ ∀ j p, ps[j]? = some p → R p ((cs.drop (j * size)).take size)
theorem Reps.none {α : Type} (R : α → List Value → Prop) (size : Nat) : Reps R size [] [] := ⟨by simp, fun j p h => by simp at h⟩
theorem Reps.snoc {α : Type} {R : α → List Value → Prop} {size : Nat} {ps : List α} {cs c : List Value} {p : α} (h : Reps R size ps cs) (hp : R p c) (hc : c.length = size) : Reps R size (ps ++ [p]) (cs ++ c) := by
  refine ⟨by rw [List.length_append, h.1, hc, List.length_append, List.length_singleton, Nat.add_mul, Nat.one_mul], fun j q hq => ?_⟩
  rcases Nat.lt_or_ge j ps.length with hj | hj
  · rw [List.getElem?_append_left hj] at hq
    have h1 : j * size + size ≤ cs.length := by rw [h.1, ← Nat.succ_mul]; exact Nat.mul_le_mul_right _ hj
    have h2 := h.2 j q hq
    rw [List.drop_append_of_le_length (by omega), List.take_append_of_le_length (by rw [List.length_drop]; omega)]
    exact h2
  · have hj' : j = ps.length := by
      have := (List.getElem?_eq_some_iff.1 hq).1
      rw [List.length_append, List.length_singleton] at this
      omega
    subst hj'
    have hq' : p = q := by simpa using hq
    subst hq'
    rw [← h.1, List.drop_left, ← hc, List.take_length]
    exact hp
theorem Reps.imp_ {α : Type} {R R' : α → List Value → Prop} {size : Nat} {ps : List α} {cs : List Value} (h : Reps R size ps cs) (hR : ∀ p c, R p c → R' p c) : Reps R' size ps cs := ⟨h.1, fun j p hj => hR _ _ (h.2 j p hj)⟩
def ReadsRow {α : Type} (R : α → List Value → Prop) (size : Nat) (w : World) (A : Option Addr) (n : Nat) (ps : List α) : Prop :=
  ps.length = n ∧ n ≤ 9223372036854775807 ∧ (0 < n → ∃ ad, A = some ad ∧ ∀ j p, ps[j]? = some p → ∃ c, c.length = size ∧ R p c ∧ ∀ i u, c[i]? = some u → w.cell? (ad.add (j * size + i)) = some u)
theorem ReadsRow.imp_ {α : Type} {R R' : α → List Value → Prop} {size : Nat} {w w1 : World} {A : Option Addr} {n : Nat} {ps : List α} (h : ReadsRow R size w A n ps) (hb : Below w.heap.size w w1) (hR : ∀ p c, R p c → R' p c) : ReadsRow R' size w1 A n ps :=
  ⟨h.1, h.2.1, fun hn => by
    obtain ⟨ad, e, hc⟩ := h.2.2 hn
    refine ⟨ad, e, fun j p hj => ?_⟩
    obtain ⟨c, hs, hr, hcell⟩ := hc j p hj
    exact ⟨c, hs, hR _ _ hr, fun i u hu => pw_cell_below hb (hcell i u hu)⟩⟩
theorem own_reads_row {α : Type} {R : α → List Value → Prop} {w : World} {base n size : Nat} {e : TypeId} {v : Value} {ps : List α} {cs : List Value} (h : w.ownsRow base e size v n cs) (hR : Reps R size ps cs) (hn : ps.length = n) :
    ∃ A c, v = .slice A n c ∧ ReadsRow R size w A n ps := by
  rcases Nat.eq_zero_or_pos n with h0 | h0
  · rcases h.2 with ⟨rfl, rfl⟩ | ⟨g, cap, cur, rfl, _⟩
    · exact ⟨none, 0, rfl, hn, by omega, fun hp => absurd hp (by omega)⟩
    · exact ⟨_, cap, rfl, hn, by omega, fun hp => absurd hp (by omega)⟩
  · obtain ⟨g, cap, rfl, _, _⟩ := h.form h0
    have hm : n ≤ 9223372036854775807 := by
      rcases h.2 with ⟨_, h1⟩ | ⟨g', cap', cur, he, _, _, h1, h2, _⟩
      · omega
      · simp only [maxLen] at h2
        omega
    refine ⟨_, cap, rfl, hn, hm, fun _ => ⟨_, rfl, fun j p hj => ⟨(cs.drop (j * size)).take size, ?_, hR.2 j p hj, fun i u hu => ?_⟩⟩⟩
    · have hjl := (List.getElem?_eq_some_iff.1 hj).1
      have h1 : j * size + size ≤ cs.length := by rw [hR.1, ← Nat.succ_mul]; exact Nat.mul_le_mul_right _ hjl
      rw [List.length_take, List.length_drop]
      omega
    · refine h.cells (g := g) rfl _ u ?_
      rw [List.getElem?_take] at hu
      split at hu
      · rw [List.getElem?_drop] at hu
        exact hu
      · cases hu
section
variable {P : Program} {ops : Array Oper} {rest : List Oper} {o : Oper} {a : Act} {Q : Exit → Act → World → Prop}
theorem print_append_cells {w0 W : World} (base : Nat) (hgd : o.guard = none) (s x : Operand) (t e : TypeId) (z : Value) (size bytes : Nat)
    (ho : o.op = .call { callee := .builtin .append, args := #[s, x], argTypes := #[t, t] })
    (ht : P.underlying t = some (.slice e)) (hinfo : (P.info? e).map (fun i => (i.zero, i.size, i.bytes)) = some (some z, size, bytes)) (hz : z.cells.size = size) (hs0 : 0 < size) (hb0 : 0 < bytes)
    (v : Value) (n : Nat) (xs ys : List Value) (hs : a.eval s = v) (hx : a.eval x = .slice (some ⟨W.heap.size, 0, none⟩) 1 1) (hys : ys.length = size) (h1 : ∀ u ∈ ys, u.oneCell' = true)
    (HO : W.ownsRow base e size v n xs) (HB : Below base w0 W) (hbase : base ≤ W.heap.size) (hl : (n + 1) * bytes ≤ 140737488355328)
    (h : ∀ v1 w1, w1.ownsRow base e size v1 (n + 1) (xs ++ ys) → Below base w0 w1 → W.grownBy w1 v.ownBlock → (v1.ownBlock = v.ownBlock ∨ ∃ b, v1.ownBlock = some b ∧ W.heap.size ≤ b) → wpList P ops Q rest (a.put o.dst v1) w1) :
    wpList P ops Q (o :: rest) a (W.alloc (.cells ys.toArray e)) := by
  obtain ⟨i0, hi, hzz⟩ := Option.map_eq_some_iff.1 hinfo
  simp only [Prod.mk.injEq] at hzz
  obtain ⟨hz0, hz1, hz2⟩ := hzz
  have hlen : n + 1 ≤ 140737488355328 := Nat.le_trans (Nat.le_mul_of_pos_right _ hb0) hl
  refine wpList_append_own_at (W.alloc (.cells ys.toArray e)) hgd s x t ho base e i0 z size bytes ht hi hz0 hz1 hz2 hz hs0 v n xs hs (HO.alloc _) ⟨W.heap.size, 0, none⟩ 1 1 ys hx (by rw [hys]; simp)
    (by simpa using World.news_of_block (cs := ys.toArray) (t := e) (fr := (0, 0)) (heap_alloc_new W (.cells ys.toArray e))) h1 (by simp only [maxLen]; omega) hl (by simp; omega) ?_
  intro v1 w1 hown hg _ hat
  refine h v1 w1 hown ((HB.alloc hbase _).grown hg (by simp; omega) (own_base HO)) (World.grownBy.trans (World.grownBy_alloc W _ _) hg) ?_
  rcases hat with hat | hat
  · exact .inl hat
  · exact .inr ⟨_, hat, by simp⟩
end
theorem own_ne {w : World} {base : Nat} {e t : TypeId} {size n g : Nat} {v : Value} {xs : List Value} {cs : Array Value} (h : w.ownsRow base e size v n xs) (hg : w.heap[g]? = some (.cells cs t (0, 0))) (hne : e ≠ t) : some g ≠ v.ownBlock := by
  rcases h.2 with ⟨rfl, _⟩ | ⟨g', cap, cur, rfl, _, hh, _⟩
  · simp [Value.ownBlock]
  · intro he
    have : g = g' := by simpa [Value.ownBlock] using he
    subst this
    rw [hg] at hh
    injection hh with hh
    injection hh with _ ht
    exact hne ht.symm
theorem blk_set {w : World} {g : Nat} {t : TypeId} {cs : Array Value} (h : w.heap[g]? = some (.cells cs t (0, 0))) (i : Nat) (u : Value) : (w.setCell ⟨g, i, none⟩ u).heap[g]? = some (.cells (cs.setIfInBounds i u) t (0, 0)) := by
  simp [World.setCell, Array.getElem?_modify, h]
theorem blk_far {w : World} {g : Nat} {t : TypeId} {cs : Array Value} (h : w.heap[g]? = some (.cells cs t (0, 0))) {p : Addr} (hp : g ≠ p.block) (u : Value) : (w.setCell p u).heap[g]? = some (.cells cs t (0, 0)) := (Below.heap_setCell w p u g hp).trans h
theorem blk_lt {w : World} {g : Nat} {o : Obj} (h : w.heap[g]? = some o) : g < w.heap.size := (Array.getElem?_eq_some_iff.1 h).1
theorem blk_cell {w : World} {g : Nat} {t : TypeId} {cs : Array Value} (h : w.heap[g]? = some (.cells cs t (0, 0))) (i : Nat) : w.cell? ⟨g, i, none⟩ = cs[i]? := cell_of_row w g i cs t (0, 0) h
theorem blk_frozen {w : World} {g : Nat} {t : TypeId} {cs : Array Value} (h : w.heap[g]? = some (.cells cs t (0, 0))) (i : Nat) : w.frozen? ⟨g, i, none⟩ = false := by simp [World.frozen?, h]
theorem blk_grown {w w1 : World} {g : Nat} {o : Obj} {row : Option Nat} (h : w.heap[g]? = some o) (hg : w.grownBy w1 row) (hne : some g ≠ row) : w1.heap[g]? = some o := (hg.block g (blk_lt h) hne).trans h
def KeepBut (w w' : World) (g : Nat) (row : Option Nat) : Prop := w.heap.size ≤ w'.heap.size ∧ ∀ i, i < w.heap.size → i ≠ g → some i ≠ row → w'.heap[i]? = w.heap[i]?
theorem KeepBut.blk {w w1 : World} {g g' : Nat} {row : Option Nat} {o : Obj} (h : KeepBut w w1 g row) (hb : w.heap[g']? = some o) (hg : g' ≠ g) (hr : some g' ≠ row) : w1.heap[g']? = some o := (h.2 g' (blk_lt hb) hg hr).trans hb
theorem KeepBut.own {w w1 : World} {g : Nat} {row : Option Nat} {base : Nat} {e : TypeId} {size n : Nat} {v : Value} {xs : List Value} (h : KeepBut w w1 g row) (ho : w.ownsRow base e size v n xs) (hg : v.ownBlock ≠ some g) (hr : v.ownBlock = none ∨ v.ownBlock ≠ row) : w1.ownsRow base e size v n xs := by
  obtain ⟨h1, h2⟩ := ho
  refine ⟨h1, ?_⟩
  rcases h2 with h2 | ⟨b, cap, cur, rfl, hb, hh, r⟩
  · exact .inl h2
  · refine .inr ⟨b, cap, cur, rfl, hb, h.blk hh ?_ ?_, r⟩
    · intro e
      exact hg (by rw [← e]; rfl)
    · rcases hr with hr | hr
      · simp [Value.ownBlock] at hr
      · exact hr
def Ev {α : Type} (g : Nat → Option α) (r : α) : Prop := ∃ K, ∀ k, K ≤ k → g k = some r
theorem Ev.now {α : Type} (r : α) : Ev (fun _ => some r) r := ⟨0, fun _ _ => rfl⟩
theorem Ev.rounds {α : Type} {g : Nat → Option α} {r : α} (h : Ev g r) : ∃ k, g k = some r := by
  obtain ⟨K, h⟩ := h
  exact ⟨K, h K (Nat.le_refl _)⟩
theorem Ev.bind {α β : Type} {g : Nat → Option α} {f : Nat → α → Option β} {a : α} {r : β} (h : Ev g a) (k : Ev (fun n => f n a) r) : Ev (fun n => (g n).bind (f n)) r := by
  obtain ⟨K, h⟩ := h
  obtain ⟨K', k⟩ := k
  refine ⟨max K K', fun n hn => ?_⟩
  have h1 := h n (by omega)
  have h2 := k n (by omega)
  simp only [h1, Option.bind_some]
  exact h2
theorem Ev.step {α : Type} {g f : Nat → Option α} {r : α} (h : ∀ k, g (k + 1) = f k) (k : Ev f r) : Ev g r := by
  obtain ⟨K, k⟩ := k
  refine ⟨K + 1, fun n hn => ?_⟩
  obtain ⟨m, rfl⟩ : ∃ m, n = m + 1 := ⟨n - 1, by omega⟩
  rw [h]
  exact k m (by omega)
theorem Ev.congr {α : Type} {g f : Nat → Option α} {r : α} (h : ∀ k, g k = f k) (k : Ev f r) : Ev g r := by
  obtain ⟨K, k⟩ := k
  exact ⟨K, fun n hn => (h n).trans (k n hn)⟩
section
variable {P : Program} {ops : Array Oper} {o : Oper} {a : Act} {Q : Exit → Act → World → Prop} {K : Act → World → Prop}
end
theorem own_weaken {w : World} {base base' : Nat} {e : TypeId} {size n : Nat} {v : Value} {xs : List Value} (h : w.ownsRow base e size v n xs) (hb : base' ≤ base) : w.ownsRow base' e size v n xs := by
  obtain ⟨h1, h2⟩ := h
  refine ⟨h1, ?_⟩
  rcases h2 with h2 | ⟨g, cap, cur, rfl, hg, r⟩
  · exact .inl h2
  · exact .inr ⟨g, cap, cur, rfl, Nat.le_trans hb hg, r⟩
section
variable {α : Type} {enc : α → Value} {d : α}
def encs (enc : α → Value) (xs : List α) : List Value := xs.map enc
def rdOf (d : α) (xs : List α) (i : Int) : α := xs.getD i.toNat d
theorem encs_length (xs : List α) : (encs enc xs).length = xs.length := by simp [encs]
theorem encs_get (xs : List α) (j : Nat) (h : j < xs.length) : (encs enc xs)[j]? = some (enc (xs.getD j d)) := by
  simp [encs, List.getElem?_eq_getElem h, List.getD_eq_getElem?_getD]
def ReadsOf (enc : α → Value) (d : α) (w : World) (A : Option Addr) (n : Nat) (xs : List α) : Prop :=
  xs.length = n ∧ n ≤ 9223372036854775807 ∧ (0 < n → ∃ ad, A = some ad ∧ ∀ j, j < n → w.cell? (ad.add j) = some (enc (xs.getD j d)))
theorem ReadsOf.at_ {w : World} {A : Option Addr} {n : Nat} {xs : List α} (h : ReadsOf enc d w A n xs) (i : Int) (h0 : 0 ≤ i) (h1 : i < n) : ∃ ad, A = some ad ∧ w.cell? (ad.add i.toNat) = some (enc (rdOf d xs i)) := by
  obtain ⟨ad, e, hc⟩ := h.2.2 (by omega)
  exact ⟨ad, e, hc _ (by omega)⟩
theorem ReadsOf.take_ {w : World} {A : Option Addr} {n : Nat} {xs : List α} (h : ReadsOf enc d w A n xs) (i : Nat) (hi : i ≤ n) : ReadsOf enc d w A i (xs.take i) := by
  refine ⟨by rw [List.length_take, h.1]; omega, by have := h.2.1; omega, fun hp => ?_⟩
  obtain ⟨ad, e, hc⟩ := h.2.2 (by omega)
  refine ⟨ad, e, fun j hj => ?_⟩
  rw [hc j (by omega)]
  simp [List.getD_eq_getElem?_getD, hj]
theorem own_at_of {W : World} {base g n cap : Nat} {e : TypeId} {xs : List α} (h : W.ownsRow base e 1 (.slice (some ⟨g, 0, none⟩) n cap) n (encs enc xs)) (i : Int) (h0 : 0 ≤ i) (h1 : i < n) :
    W.cell? ⟨g, i.toNat, none⟩ = some (enc (rdOf d xs i)) ∧ W.frozen? ⟨g, i.toNat, none⟩ = false := by
  have hl : xs.length = n := by have := h.1; simp [encs] at this; exact this
  constructor
  · have hc := h.cells (g := g) rfl i.toNat _ (encs_get (d := d) xs i.toNat (by omega))
    rwa [add_plain] at hc
  · rcases h.2 with ⟨h', _⟩ | ⟨g', cap', cur, h', _, hh, _⟩
    · cases h'
    · have : g = g' := by injection h' with h'; injection h' with h'; injection h' with h'
      subst this
      simp [World.frozen?, hh]
theorem own_store_of {W : World} {base g n cap : Nat} {e : TypeId} {xs : List α} (h : W.ownsRow base e 1 (.slice (some ⟨g, 0, none⟩) n cap) n (encs enc xs)) (i : Int) (x : α) :
    (W.setCell ⟨g, i.toNat, none⟩ (enc x)).ownsRow base e 1 (.slice (some ⟨g, 0, none⟩) n cap) n (encs enc (xs.set i.toNat x)) ∧ W.grownBy (W.setCell ⟨g, i.toNat, none⟩ (enc x)) (some g) := by
  have hs := h.stored i.toNat (enc x)
  have he : (encs enc xs).set i.toNat (enc x) = encs enc (xs.set i.toNat x) := by simp [encs, List.map_set]
  rwa [he] at hs
end
section
variable {α : Type} {P : Program} {ops : Array Oper} {rest : List Oper} {o : Oper} {a : Act} {Q : Exit → Act → World → Prop}
end
theorem blk_alloc {w : World} {g : Nat} {o : Obj} (h : w.heap[g]? = some o) (o' : Obj) : (w.alloc o').heap[g]? = some o := (Below.heap_alloc w o' g (blk_lt h)).trans h
theorem blk_drew {w : World} {g : Nat} {o : Obj} (h : w.heap[g]? = some o) : w.drew.heap[g]? = some o := h
theorem blk_drewN {w : World} {g : Nat} {o : Obj} (h : w.heap[g]? = some o) (n : Nat) : (w.drewN n).heap[g]? = some o := h
theorem blk_below {w w1 : World} {g : Nat} {o : Obj} (h : w.heap[g]? = some o) (hb : Below w.heap.size w w1) : w1.heap[g]? = some o := (hb.block g (blk_lt h)).trans h
theorem blk_new (w : World) (o : Obj) : (w.alloc o).heap[w.heap.size]? = some o := heap_alloc_new w o
section
variable {P : Program}
theorem results_ct {fn : Func} {p u : Tmp} {ty : TypeId} (h : fn.results = #[.cell p ty, .tmp u]) (tmps : Array Value) (w : World) (g : Nat) (t : TypeId) (cs : Array Value) (fr : Nat × Nat) (d : TypeDesc)
    (hp : tmps.getD p undef = .pointer (some ⟨g, 0, none⟩)) (hg : w.heap[g]? = some (.cells cs t fr))
    (hu : P.underlying ty = some d) (hd : (match d with | .struct _ | .array _ _ => true | _ => false) = true) (hi : (P.info? ty).map (·.size) = some cs.size) :
    (results fn tmps).run P w = .ok (.tuple #[.agg cs, tmps.getD u undef]) w := by
  have hp' : tmps[p]?.getD undef = .pointer (some ⟨g, 0, none⟩) := by simpa using hp
  simp [results, h, hp', asAddr, run_loadVar_row w g t ty cs fr d hg hu hd hi]
theorem results_cc {fn : Func} {p p' : Tmp} {ty ty' : TypeId} (h : fn.results = #[.cell p ty, .cell p' ty']) (tmps : Array Value) (w : World) (g g' : Nat) (t t' : TypeId) (cs cs' : Array Value) (fr fr' : Nat × Nat) (d d' : TypeDesc)
    (hp : tmps.getD p undef = .pointer (some ⟨g, 0, none⟩)) (hg : w.heap[g]? = some (.cells cs t fr))
    (hu : P.underlying ty = some d) (hd : (match d with | .struct _ | .array _ _ => true | _ => false) = true) (hi : (P.info? ty).map (·.size) = some cs.size)
    (hp' : tmps.getD p' undef = .pointer (some ⟨g', 0, none⟩)) (hg' : w.heap[g']? = some (.cells cs' t' fr'))
    (hu' : P.underlying ty' = some d') (hd' : (match d' with | .struct _ | .array _ _ => true | _ => false) = true) (hi' : (P.info? ty').map (·.size) = some cs'.size) :
    (results fn tmps).run P w = .ok (.tuple #[.agg cs, .agg cs']) w := by
  have h1 : tmps[p]?.getD undef = .pointer (some ⟨g, 0, none⟩) := by simpa using hp
  have h2 : tmps[p']?.getD undef = .pointer (some ⟨g', 0, none⟩) := by simpa using hp'
  simp [results, h, h1, h2, asAddr, run_loadVar_row w g t ty cs fr d hg hu hd hi, run_loadVar_row w g' t' ty' cs' fr' d' hg' hu' hd' hi']
end
theorem own_le {w : World} {base n m c size : Nat} {e : TypeId} {A : Option Addr} {xs : List Value} (h : w.ownsRow base e size (.slice A m c) n xs) : m ≤ c := by
  rcases h.2 with ⟨he, _⟩ | ⟨g, cap, cur, he, _, _, hnc, _⟩
  · injection he with _ h2 h3
    omega
  · injection he with _ h2 h3
    omega
def OwnRow {α : Type} (R : α → List Value → Prop) (e : TypeId) (size : Nat) (w : World) (base : Nat) (v : Value) (ps : List α) : Prop :=
  ∃ inner, w.ownsRow base e size v ps.length inner ∧ Reps R size ps inner
section
variable {α : Type} {R R' : α → List Value → Prop} {e : TypeId} {size : Nat} {w w1 : World} {base : Nat} {v : Value} {ps : List α}
theorem OwnRow.none_ (R : α → List Value → Prop) (e : TypeId) (size : Nat) (w : World) (base : Nat) : OwnRow R e size w base (.slice none 0 0) [] := ⟨[], own_nil _ _ _ _, Reps.none _ _⟩
theorem OwnRow.imp_ (h : OwnRow R e size w base v ps) (hR : ∀ p c, R p c → R' p c) : OwnRow R' e size w base v ps := by
  obtain ⟨inner, ho, hr⟩ := h
  exact ⟨inner, ho, hr.imp_ hR⟩
theorem OwnRow.reads (h : OwnRow R e size w base v ps) : ∃ A c, v = .slice A ps.length c ∧ ps.length ≤ c ∧ ReadsRow R size w A ps.length ps := by
  obtain ⟨inner, ho, hr⟩ := h
  obtain ⟨A, c, rfl, hrow⟩ := own_reads_row ho hr rfl
  exact ⟨A, c, rfl, own_le ho, hrow⟩
theorem OwnRow.ne_block (h : OwnRow R e size w base v ps) {g : Nat} {t : TypeId} {cells : Array Value} (hb : w.heap[g]? = some (.cells cells t (0, 0))) (ht : e ≠ t) : some g ≠ v.ownBlock := by
  obtain ⟨inner, ho, hr⟩ := h
  exact own_ne ho hb ht
end
section
variable {P : Program} {ops : Array Oper} {rest : List Oper} {o : Oper} {a : Act} {Q : Exit → Act → World → Prop} {α : Type} {R : α → List Value → Prop}
end
section
variable {P : Program} {ops : Array Oper} {o : Oper} {a : Act} {Q : Exit → Act → World → Prop} {K : Act → World → Prop} {α : Type} {R : α → List Value → Prop}
end
section
variable {α : Type} {P : Program}
theorem print_take_of (enc : α → Value) (d : α) (t e : TypeId) (kl : IntKind) {i : TypeInfo} (ht : P.underlying t = some (.slice e)) (hi : P.info? e = some i) (hsz : i.size = 1) (A : Option Addr) (c : Nat) (xs : List α) (j : Int) (h0 : 0 ≤ j) (hm : j ≤ xs.length) (hc : xs.length ≤ c) :
    (∀ W : World, (Instr.slice t (.slice A xs.length c) none (some (.int kl j)) none).run P W = .ok (.slice A (xs.take j.toNat).length c) W) ∧
      (∀ w : World, ReadsOf enc d w A xs.length xs → ReadsOf enc d w A (xs.take j.toNat).length (xs.take j.toNat)) ∧ (xs.take j.toNat).length ≤ c := by
  have hl : (xs.take j.toNat).length = j.toNat := by rw [List.length_take]; omega
  refine ⟨fun W => ?_, fun w h => by rw [hl]; exact h.take_ j.toNat (by omega), by rw [hl]; omega⟩
  have hel : P.elem t = e := by simp [Program.elem, ht]
  have hu : P.underlying t = some (.slice (P.elem t)) := by rw [hel]; exact ht
  have ha : (A.map fun x => x.add 0) = A := by cases A <;> simp [Addr.add]
  rw [run_slice_h W t A xs.length c hu kl j h0 (by omega), hel, hl]
  simp [sizeOf, typeInfo, hi, hsz, sliced, Result.andThen, ha]
end
section
variable {P : Program} {ops : Array Oper} {rest : List Oper} {o : Oper} {a : Act} {Q : Exit → Act → World → Prop}
end
structure Kd (α : Type) where
  sz : Nat
  E : List Nat
  K : World → α → List Value → Prop
  M : World → Nat → (Nat → Prop) → α → List Value → Prop
  K_len : ∀ {w x cs}, K w x cs → cs.length = sz
  K_one : ∀ {w x cs}, K w x cs → ∀ u ∈ cs, u.oneCell' = true
  K_below : ∀ {w w1 : World} {x cs}, Below w.heap.size w w1 → K w x cs → K w1 x cs
  K_of_M : ∀ {w base ok x cs}, M w base ok x cs → K w x cs
  M_mono : ∀ {w base ok ok' x cs}, (∀ k, ok k → ok' k) → M w base ok x cs → M w base ok' x cs
  M_bound : ∀ {w : World} {base ok x cs}, M w base ok x cs → M w base (fun k => ok k ∧ base ≤ k ∧ k < w.heap.size ∧ ∃ q, q ∈ E ∧ ∃ cells, w.heap[k]? = some (.cells cells q (0, 0))) x cs
  M_move : ∀ {w w1 : World} {base ok x cs}, (∀ k, ok k → w1.heap[k]? = w.heap[k]?) → M w base ok x cs → M w1 base ok x cs
  M_lower : ∀ {w base base' ok x cs}, base' ≤ base → M w base ok x cs → M w base' ok x cs
theorem own_move {w w1 : World} {base : Nat} {e : TypeId} {size n : Nat} {v : Value} {xs : List Value} (h : w.ownsRow base e size v n xs) (hm : ∀ k, v.ownBlock = some k → w1.heap[k]? = w.heap[k]?) : w1.ownsRow base e size v n xs := by
  obtain ⟨h1, h2⟩ := h
  refine ⟨h1, ?_⟩
  rcases h2 with h2 | ⟨g, cap, cur, rfl, hg, hh, r⟩
  · exact .inl h2
  · exact .inr ⟨g, cap, cur, rfl, hg, (hm g (by simp [Value.ownBlock])).trans hh, r⟩
theorem own_typed {w : World} {base : Nat} {e : TypeId} {size n : Nat} {v : Value} {xs : List Value} (h : w.ownsRow base e size v n xs) (k : Nat) (hk : v.ownBlock = some k) : ∃ cells, w.heap[k]? = some (.cells cells e (0, 0)) := by
  rcases h.2 with ⟨rfl, _⟩ | ⟨g, cap, cur, rfl, hg, hh, r⟩
  · simp [Value.ownBlock] at hk
  · have : g = k := by simpa [Value.ownBlock] using hk
    subst this
    exact ⟨cur, hh⟩
namespace Kd
def C {α : Type} (d : Kd α) (w : World) (A : Option Addr) (n : Nat) (xs : List α) : Prop := ReadsRow (d.K w) d.sz w A n xs
def R {α : Type} (d : Kd α) (e : Nat) (w : World) (base : Nat) (ok : Nat → Prop) (v : Value) (xs : List α) : Prop :=
  (∀ k, v.ownBlock = some k → ok k) ∧ OwnRow (d.M w base (fun k => ok k ∧ some k ≠ v.ownBlock)) e d.sz w base v xs
section
variable {α : Type} {d : Kd α} {e : Nat} {w w1 : World} {base : Nat} {ok ok' : Nat → Prop} {v : Value} {xs : List α}
theorem C_below {A : Option Addr} {n : Nat} (h : d.C w A n xs) (hb : Below w.heap.size w w1) : d.C w1 A n xs := ReadsRow.imp_ h hb (fun _ _ hp => d.K_below hb hp)
theorem R_nil (d : Kd α) (e : Nat) (w : World) (base : Nat) (ok : Nat → Prop) : d.R e w base ok (.slice none 0 0) [] := ⟨fun k hk => by simp [Value.ownBlock] at hk, OwnRow.none_ _ _ _ _ _⟩
theorem R_mono (h : d.R e w base ok v xs) (hok : ∀ k, ok k → ok' k) : d.R e w base ok' v xs := ⟨fun k hk => hok k (h.1 k hk), h.2.imp_ (fun _ _ hp => d.M_mono (fun k hk => ⟨hok k hk.1, hk.2⟩) hp)⟩
theorem R_bound (h : d.R e w base ok v xs) : d.R e w base (fun k => ok k ∧ base ≤ k ∧ k < w.heap.size ∧ ∃ q, q ∈ e :: d.E ∧ ∃ cells, w.heap[k]? = some (.cells cells q (0, 0))) v xs := by
  obtain ⟨h0, inner, ho, hr⟩ := h
  refine ⟨fun k hk => ?_, inner, ho, hr.imp_ (fun _ _ hp => d.M_mono (fun k hk => ?_) (d.M_bound hp))⟩
  · obtain ⟨cells, hc⟩ := own_typed ho k hk
    exact ⟨h0 k hk, own_base ho k hk, own_lt ho k hk, e, List.mem_cons_self, cells, hc⟩
  · obtain ⟨⟨h1, h2⟩, h3, h4, q, hq, hc⟩ := hk
    exact ⟨⟨h1, h3, h4, q, List.mem_cons_of_mem _ hq, hc⟩, h2⟩
theorem R_move (h : d.R e w base ok v xs) (hm : ∀ k, ok k → w1.heap[k]? = w.heap[k]?) : d.R e w1 base ok v xs := by
  obtain ⟨h0, inner, ho, hr⟩ := h
  exact ⟨h0, inner, own_move ho (fun k hk => hm k (h0 k hk)), hr.imp_ (fun _ _ hp => d.M_move (fun k hk => hm k hk.1) hp)⟩
theorem R_lower {base' : Nat} (h : d.R e w base ok v xs) (hb : base' ≤ base) : d.R e w base' ok v xs := by
  obtain ⟨h0, inner, ho, hr⟩ := h
  exact ⟨h0, inner, own_weaken ho hb, hr.imp_ (fun _ _ hp => d.M_lower hb hp)⟩
theorem R_step (h : d.R e w base ok v xs) (hm : ∀ k, ok k → k < w.heap.size → w1.heap[k]? = w.heap[k]?) : d.R e w1 base ok v xs :=
  R_mono (R_move (R_bound h) (fun k hk => hm k hk.1 hk.2.2.1)) (fun _ hk => hk.1)
theorem M_step {x : α} {cs : List Value} (h : d.M w base ok x cs) (hm : ∀ k, ok k → k < w.heap.size → w1.heap[k]? = w.heap[k]?) : d.M w1 base ok x cs :=
  d.M_mono (fun _ hk => hk.1) (d.M_move (fun k hk => hm k hk.1 hk.2.2.1) (d.M_bound h))
theorem R_below (h : d.R e w base ok v xs) (hb : Below w.heap.size w w1) : d.R e w1 base ok v xs := R_step h (fun k _ hk => hb.block k hk)
theorem M_below {x : α} {cs : List Value} (h : d.M w base ok x cs) (hb : Below w.heap.size w w1) : d.M w1 base ok x cs := M_step h (fun k _ hk => hb.block k hk)
theorem R_far (h : d.R e w base ok v xs) {p : Addr} (hok : ∀ k, ok k → k ≠ p.block) (u : Value) : d.R e (w.setCell p u) base ok v xs := R_step h (fun k ho _ => Below.heap_setCell w p u k (hok k ho))
theorem R_types (h : d.R e w base ok v xs) {g t : Nat} {cells : Array Value} (hb : w.heap[g]? = some (.cells cells t (0, 0))) (ht : ∀ q, q ∈ e :: d.E → q ≠ t) : d.R e w base (fun k => ok k ∧ k ≠ g) v xs :=
  R_mono (R_bound h) (fun k hk => ⟨hk.1, by
    obtain ⟨_, _, _, q, hq, cells', hc⟩ := hk
    rintro rfl
    rw [hc] at hb
    injection hb with hb
    injection hb with _ hb
    exact ht q hq hb⟩)
theorem R_reads (h : d.R e w base ok v xs) : ∃ A c, v = .slice A xs.length c ∧ xs.length ≤ c ∧ d.C w A xs.length xs := by
  obtain ⟨A, c, he, hl, hr⟩ := OwnRow.reads h.2
  exact ⟨A, c, he, hl, hr.imp_ (Below.refl _ _) (fun _ _ hp => d.K_of_M hp)⟩
theorem R_slice (h : d.R e w base ok v xs) : ∃ A c, v = .slice A xs.length c := by
  obtain ⟨A, c, he, _⟩ := R_reads h
  exact ⟨A, c, he⟩
theorem R_own (h : d.R e w base ok v xs) : ∃ inner, w.ownsRow base e d.sz v xs.length inner := by
  obtain ⟨_, inner, ho, _⟩ := h
  exact ⟨inner, ho⟩
theorem R_ne (h : d.R e w base ok v xs) {g t : Nat} {cells : Array Value} (hb : w.heap[g]? = some (.cells cells t (0, 0))) (ht : e ≠ t) : some g ≠ v.ownBlock := OwnRow.ne_block h.2 hb ht
end
def scalar {α : Type} (enc : α → Value) (h1 : ∀ x, (enc x).oneCell' = true) : Kd α where
  sz := 1
  E := []
  K := fun _ x cs => cs = [enc x]
  M := fun _ _ _ x cs => cs = [enc x]
  K_len := fun h => by rw [h]; rfl
  K_one := fun h u hu => by
    rw [h] at hu
    rw [List.mem_singleton.1 hu]
    exact h1 _
  K_below := fun _ h => h
  K_of_M := fun h => h
  M_mono := fun _ h => h
  M_bound := fun h => h
  M_move := fun _ h => h
  M_lower := fun _ h => h
def int (k : IntKind) : Kd Int := scalar (Value.int k) (fun _ => rfl)
def bool : Kd Bool := scalar Value.bool (fun _ => rfl)
def slice {α : Type} (e : Nat) (d : Kd α) : Kd (List α) where
  sz := 1
  E := e :: d.E
  K := fun w xs cs => ∃ A c, cs = [.slice A xs.length c] ∧ xs.length ≤ c ∧ d.C w A xs.length xs
  M := fun w base ok xs cs => ∃ v, cs = [v] ∧ d.R e w base ok v xs
  K_len := by
    rintro w x cs ⟨A, c, rfl, _⟩
    rfl
  K_one := by
    rintro w x cs ⟨A, c, rfl, _⟩ u hu
    rw [List.mem_singleton.1 hu]
    rfl
  K_below := by
    rintro w w1 x cs hb ⟨A, c, rfl, hl, hr⟩
    exact ⟨A, c, rfl, hl, C_below hr hb⟩
  K_of_M := by
    rintro w base ok x cs ⟨v, rfl, h⟩
    obtain ⟨A, c, rfl, hl, hr⟩ := R_reads h
    exact ⟨A, c, rfl, hl, hr⟩
  M_mono := by
    rintro w base ok ok' x cs hok ⟨v, rfl, h⟩
    exact ⟨v, rfl, R_mono h hok⟩
  M_bound := by
    rintro w base ok x cs ⟨v, rfl, h⟩
    exact ⟨v, rfl, R_bound h⟩
  M_move := by
    rintro w w1 base ok x cs hm ⟨v, rfl, h⟩
    exact ⟨v, rfl, R_move h hm⟩
  M_lower := by
    rintro w base base' ok x cs hb ⟨v, rfl, h⟩
    exact ⟨v, rfl, R_lower h hb⟩
def bot {α : Type} (sz : Nat) (E : List Nat) : Kd α where
  sz := sz
  E := E
  K := fun _ _ _ => False
  M := fun _ _ _ _ _ => False
  K_len := fun h => h.elim
  K_one := fun h => h.elim
  K_below := fun _ h => h
  K_of_M := fun h => h
  M_mono := fun _ h => h
  M_bound := fun h => h
  M_move := fun _ h => h
  M_lower := fun _ h => h
def upto {α : Type} (F : Kd α → Kd α) (sz : Nat) (E : List Nat) : Nat → Kd α
  | 0 => bot sz E
  | n + 1 => F (upto F sz E n)
theorem R_appended {α : Type} {d : Kd α} {e base : Nat} {ok okp : Nat → Prop} {W w1 : World} {v v1 : Value} {xs : List α} {p : α} {inner cs : List Value} (h0 : ∀ k, v.ownBlock = some k → ok k) (hr : Reps (d.M W base (fun k => ok k ∧ some k ≠ v.ownBlock)) d.sz xs inner) (hp : d.M W base okp p cs) (hokp : ∀ k, okp k → ok k ∧ some k ≠ v.ownBlock) (hfresh : ∀ k, W.heap.size ≤ k → ok k)
    (hown : w1.ownsRow base e d.sz v1 (xs.length + 1) (inner ++ cs)) (hg : W.grownBy w1 v.ownBlock) (hat : v1.ownBlock = v.ownBlock ∨ ∃ b, v1.ownBlock = some b ∧ W.heap.size ≤ b) : d.R e w1 base ok v1 (xs ++ [p]) := by
  have hne : ∀ k, some k ≠ v.ownBlock → k < W.heap.size → some k ≠ v1.ownBlock := by
    intro k hk hlt
    rcases hat with hat | ⟨b, hb, hle⟩
    · rw [hat]; exact hk
    · rw [hb]
      intro he
      injection he with he
      omega
  have step : ∀ {q : α} {c : List Value} {o : Nat → Prop}, d.M W base o q c → (∀ k, o k → ok k ∧ some k ≠ v.ownBlock) → d.M w1 base (fun k => ok k ∧ some k ≠ v1.ownBlock) q c := by
    intro q c o hq ho
    have h1 := d.M_move (w1 := w1) (fun k hk => hg.block k hk.2.2.1 (ho k hk.1).2) (d.M_bound hq)
    exact d.M_mono (fun k hk => ⟨(ho k hk.1).1, hne k (ho k hk.1).2 hk.2.2.1⟩) h1
  refine ⟨fun k hk => ?_, inner ++ cs, by rw [List.length_append, List.length_singleton]; exact hown, ?_⟩
  · rcases hat with hat | ⟨b, hb, hle⟩
    · exact h0 k (hat ▸ hk)
    · rw [hb] at hk
      injection hk with hk
      exact hfresh k (by omega)
  · exact (hr.imp_ (fun _ _ hq => step hq (fun _ hk => hk))).snoc (step hp hokp) (d.K_len (d.K_of_M hp))
section
variable {P : Program} {ops : Array Oper} {rest : List Oper} {o : Oper} {a : Act} {Q : Exit → Act → World → Prop} {α : Type}
theorem R_append (d : Kd α) {w0 W : World} (base : Nat) (hgd : o.guard = none) (s x : Operand) (t e : TypeId) (z : Value) (bytes : Nat)
    (ho : o.op = .call { callee := .builtin .append, args := #[s, x], argTypes := #[t, t] })
    (ht : P.underlying t = some (.slice e)) (hinfo : (P.info? e).map (fun i => (i.zero, i.size, i.bytes)) = some (some z, d.sz, bytes)) (hz : z.cells.size = d.sz) (hs0 : 0 < d.sz) (hb0 : 0 < bytes)
    (v : Value) (xs : List α) (p : α) (cs : List Value) (ok okp : Nat → Prop) (hs : a.eval s = v) (hx : a.eval x = .slice (some ⟨W.heap.size, 0, none⟩) 1 1) (hp : d.M W base okp p cs) (hokp : ∀ k, okp k → ok k ∧ some k ≠ v.ownBlock) (hfresh : ∀ k, W.heap.size ≤ k → ok k)
    (HO : d.R e W base ok v xs) (HB : Below base w0 W) (hbase : base ≤ W.heap.size) (hl : (xs.length + 1) * bytes ≤ 140737488355328)
    (h : ∀ v1 w1, d.R e w1 base ok v1 (xs ++ [p]) → Below base w0 w1 → W.grownBy w1 v.ownBlock → (v1.ownBlock = v.ownBlock ∨ ∃ b, v1.ownBlock = some b ∧ W.heap.size ≤ b) → wpList P ops Q rest (a.put o.dst v1) w1) :
    wpList P ops Q (o :: rest) a (W.alloc (.cells cs.toArray e)) := by
  obtain ⟨h0, inner, hown, hr⟩ := HO
  refine print_append_cells base hgd s x t e z d.sz bytes ho ht hinfo hz hs0 hb0 v xs.length inner cs hs hx (d.K_len (d.K_of_M hp)) (d.K_one (d.K_of_M hp)) hown HB hbase hl ?_
  intro v1 w1 hown1 hb1 hg1 hat1
  exact h v1 w1 (R_appended h0 hr hp hokp hfresh hown1 hg1 hat1) hb1 hg1 hat1
end
section
variable {P : Program} {ops : Array Oper} {o : Oper} {a : Act} {Q : Exit → Act → World → Prop} {Kc : Act → World → Prop} {α : Type}
end
theorem reps_scalar {α : Type} {enc : α → Value} (xs : List α) : Reps (fun (x : α) (cs : List Value) => cs = [enc x]) 1 xs (encs enc xs) := by
  refine ⟨by simp [encs], fun j p hj => ?_⟩
  obtain ⟨hl, hp⟩ := List.getElem?_eq_some_iff.1 hj
  have hl' : j < (encs enc xs).length := by rw [encs_length]; exact hl
  rw [Nat.mul_one, List.drop_eq_getElem_cons hl']
  simp [encs, hp]
theorem R_of_own {α : Type} {enc : α → Value} {h1 : ∀ x, (enc x).oneCell' = true} {e : Nat} {w : World} {base : Nat} {ok : Nat → Prop} {v : Value} {xs : List α} (ho : w.ownsRow base e 1 v xs.length (encs enc xs)) (hok : ∀ k, v.ownBlock = some k → ok k) : (scalar enc h1).R e w base ok v xs := ⟨hok, encs enc xs, ho, reps_scalar xs⟩
theorem own_of_R {α : Type} {enc : α → Value} {h1 : ∀ x, (enc x).oneCell' = true} {e : Nat} {w : World} {base : Nat} {ok : Nat → Prop} {v : Value} {xs : List α} (h : (scalar enc h1).R e w base ok v xs) : w.ownsRow base e 1 v xs.length (encs enc xs) := by
  obtain ⟨_, inner, ho, hr⟩ := h
  have : inner = encs enc xs := by
    apply List.ext_getElem?
    intro j
    rcases Nat.lt_or_ge j xs.length with hj | hj
    · have h2 := hr.2 j _ (List.getElem?_eq_getElem hj)
      have hl : j < inner.length := by have := hr.1; simp [scalar] at this; omega
      have h3 : (inner.drop (j * 1)).take 1 = [enc xs[j]] := h2
      rw [Nat.mul_one, List.drop_eq_getElem_cons hl] at h3
      have h4 : inner[j] = enc xs[j] := by
        have h5 := congrArg List.head? h3
        rw [List.take_succ_cons] at h5
        exact Option.some.inj h5
      rw [List.getElem?_eq_getElem hl, h4]
      simp [encs, List.getElem?_eq_getElem hj]
    · have h3 : inner.length = xs.length := by have := hr.1; simp [scalar] at this; omega
      rw [List.getElem?_eq_none (by omega), List.getElem?_eq_none (by rw [encs_length]; omega)]
  rw [← this]
  exact ho
theorem C_of_reads {α : Type} {enc : α → Value} {d : α} {h1 : ∀ x, (enc x).oneCell' = true} {w : World} {A : Option Addr} {n : Nat} {xs : List α} (h : ReadsOf enc d w A n xs) : (scalar enc h1).C w A n xs := by
  refine ⟨h.1, h.2.1, fun hn => ?_⟩
  obtain ⟨ad, e, hc⟩ := h.2.2 hn
  refine ⟨ad, e, fun j p hj => ⟨[enc p], rfl, rfl, fun i u hu => ?_⟩⟩
  obtain ⟨hl, hp⟩ := List.getElem?_eq_some_iff.1 hj
  have h2 := hc j (by have := h.1; omega)
  rw [List.getD_eq_getElem?_getD, hj] at h2
  cases i with
  | zero =>
    have : enc p = u := by simpa using hu
    subst this
    simpa [scalar] using h2
  | succ i => simp at hu
theorem reads_of_C {α : Type} {enc : α → Value} {d : α} {h1 : ∀ x, (enc x).oneCell' = true} {w : World} {A : Option Addr} {n : Nat} {xs : List α} (h : (scalar enc h1).C w A n xs) : ReadsOf enc d w A n xs := by
  refine ⟨h.1, h.2.1, fun hn => ?_⟩
  obtain ⟨ad, e, hc⟩ := h.2.2 hn
  refine ⟨ad, e, fun j hj => ?_⟩
  have hl : j < xs.length := by have := h.1; omega
  obtain ⟨c, _, hK, hcell⟩ := hc j _ (List.getElem?_eq_getElem hl)
  have hK' : c = [enc xs[j]] := hK
  subst hK'
  have := hcell 0 _ rfl
  simpa [scalar, List.getD_eq_getElem?_getD, List.getElem?_eq_getElem hl] using this
end Kd
namespace Kd
structure Mono {α β : Type} (F : Kd α → Kd β) : Prop where
  sz : ∀ d d' : Kd α, d.sz = d'.sz → (F d).sz = (F d').sz
  K : ∀ d d' : Kd α, d.sz = d'.sz → (∀ w x cs, d.K w x cs → d'.K w x cs) → ∀ w x cs, (F d).K w x cs → (F d').K w x cs
  M : ∀ d d' : Kd α, d.sz = d'.sz → (∀ w base ok x cs, d.M w base ok x cs → d'.M w base ok x cs) → ∀ w base ok x cs, (F d).M w base ok x cs → (F d').M w base ok x cs
section
variable {α : Type} {F : Kd α → Kd α} {sz : Nat} {E : List Nat} {hs : ∀ n, (upto F sz E n).sz = sz} {hE : ∀ n q, q ∈ (upto F sz E n).E → q ∈ E}
end
end Kd
namespace Kd
theorem R_after {α : Type} {d : Kd α} {e base : Nat} {ok : Nat → Prop} {W w1 : World} {u v v1 : Value} {xs : List α} (h : d.R e W base (fun k => ok k ∧ some k ≠ v.ownBlock) u xs) (hg : W.grownBy w1 v.ownBlock) (hat : v1.ownBlock = v.ownBlock ∨ ∃ b, v1.ownBlock = some b ∧ W.heap.size ≤ b) : d.R e w1 base (fun k => ok k ∧ some k ≠ v1.ownBlock) u xs := by
  refine R_mono (R_move (R_bound h) (fun k hk => hg.block k hk.2.2.1 hk.1.2)) (fun k hk => ⟨hk.1.1, ?_⟩)
  rcases hat with hat | ⟨b, hb, hle⟩
  · rw [hat]; exact hk.1.2
  · rw [hb]
    intro he
    injection he with he
    have := hk.2.2.1
    omega
end Kd
namespace Kd
section
variable {α β : Type} {d : Kd α} {d' : Kd β} {e e' : Nat} {w w1 W : World} {base b b' : Nat} {ok ok' okv oku : Nat → Prop} {v u : Value} {xs : List α} {ys : List β}
theorem R_drew (h : d.R e w base ok v xs) : d.R e w.drew base ok v xs := R_below h (below_drew (Below.refl _ _))
theorem R_drewN (h : d.R e w base ok v xs) (m : Nat) : d.R e (w.drewN m) base ok v xs := R_below h (pw_below_drewN (Below.refl _ _) m)
theorem C_nil (d : Kd α) (w : World) : d.C w none ([] : List α).length [] := ⟨rfl, by simp, fun h => absurd h (Nat.lt_irrefl 0)⟩
theorem R_reads' {A : Option Addr} {n c : Nat} (h : d.R e w base ok (.slice A n c) xs) : n = xs.length ∧ n ≤ c ∧ d.C w A xs.length xs := by
  obtain ⟨A', c', he, hl, hr⟩ := R_reads h
  injection he with h1 h2 h3
  subst h1
  exact ⟨h2, by omega, hr⟩
theorem R_lt (h : d.R e w base ok v xs) : ∀ k, v.ownBlock = some k → k < w.heap.size := by
  obtain ⟨inner, ho⟩ := R_own h
  exact own_lt ho
theorem R_base (h : d.R e w base ok v xs) : ∀ k, v.ownBlock = some k → base ≤ k := by
  obtain ⟨inner, ho⟩ := R_own h
  exact own_base ho
theorem R_form (h : d.R e w base ok v xs) (hp : 0 < xs.length) : ∃ g cap, v = .slice (some ⟨g, 0, none⟩) xs.length cap ∧ base ≤ g ∧ g < w.heap.size ∧ ∃ cells, w.heap[g]? = some (.cells cells e (0, 0)) := by
  obtain ⟨inner, ho⟩ := R_own h
  obtain ⟨g, cap, he, hb, hl⟩ := ho.form hp
  obtain ⟨cells, hc⟩ := own_typed ho g (by rw [he]; simp [Value.ownBlock])
  exact ⟨g, cap, he, hb, hl, cells, hc⟩
end
section
variable {w W : World} {A : Option Addr} {n : Nat}
theorem at_int {k : IntKind} {xs : List Int} (h : (Kd.int k).C w A n xs) (i : Int) (h0 : 0 ≤ i) (h1 : i < n) : ∃ ad, A = some ad ∧ w.cell? (ad.add i.toNat) = some (.int k (rd xs i)) :=
  ReadsOf.at_ (reads_of_C (enc := Value.int k) (d := (0 : Int)) (h1 := fun _ => rfl) h) i h0 h1
theorem at_bool {xs : List Bool} (h : Kd.bool.C w A n xs) (i : Int) (h0 : 0 ≤ i) (h1 : i < n) : ∃ ad, A = some ad ∧ w.cell? (ad.add i.toNat) = some (.bool (rdOf false xs i)) :=
  ReadsOf.at_ (reads_of_C (enc := Value.bool) (d := false) (h1 := fun _ => rfl) h) i h0 h1
variable {α : Type} {enc : α → Value} {h1 : ∀ x, (enc x).oneCell' = true} {e base g cap : Nat} {ok : Nat → Prop} {xs : List α}
theorem R_cell (d : α) (h : (scalar enc h1).R e W base ok (.slice (some ⟨g, 0, none⟩) xs.length cap) xs) (i : Int) (h0 : 0 ≤ i) (hi : i < xs.length) : W.cell? ⟨g, i.toNat, none⟩ = some (enc (rdOf d xs i)) ∧ W.frozen? ⟨g, i.toNat, none⟩ = false := own_at_of (own_of_R h) i h0 hi
theorem R_put (h : (scalar enc h1).R e W base ok (.slice (some ⟨g, 0, none⟩) xs.length cap) xs) (i : Int) (x : α) : (scalar enc h1).R e (W.setCell ⟨g, i.toNat, none⟩ (enc x)) base ok (.slice (some ⟨g, 0, none⟩) xs.length cap) (xs.set i.toNat x) ∧ W.grownBy (W.setCell ⟨g, i.toNat, none⟩ (enc x)) (some g) := by
  obtain ⟨ho, hg⟩ := own_store_of (own_of_R h) i x
  exact ⟨R_of_own (by rw [List.length_set]; exact ho) h.1, hg⟩
end
section
variable {P : Program} {ops : Array Oper} {rest : List Oper} {o : Oper} {a : Act} {Q : Exit → Act → World → Prop}
theorem event_run {W w1 : World} {v : Value} (hgd : o.guard = none) (hrun : (execOp a.eval o).run P W = .ok (.value v) w1) (h : wpList P ops Q rest (a.put o.dst v) w1) : wpList P ops Q (o :: rest) a W := by
  refine wpList_plain hgd fun K hK => ?_
  unfold Oper.wp
  rw [hrun]
  exact hK _ _ h
variable {α : Type}
theorem R_lit (d : Kd α) {w0 W : World} (base e : Nat) (hgd : o.guard = none) {N : Tmp} (_hd : o.dst = some N) {xs : List α} {inner : List Value} {ok okp : Nat → Prop}
    (hrun : (execOp a.eval o).run P W = .ok (.value (.slice (some ⟨W.heap.size, 0, none⟩) xs.length xs.length)) (W.alloc (.cells inner.toArray e)))
    (hrep : Reps (d.M W base okp) d.sz xs inner) (hok : ∀ k, okp k → ok k) (hfresh : ok W.heap.size) (HB : Below base w0 W) (hbase : base ≤ W.heap.size) (hm : xs.length ≤ 9223372036854775807)
    (h : ∀ v1 w1, d.R e w1 base ok v1 xs → Below base w0 w1 → W.grownBy w1 none → (∃ b, v1.ownBlock = some b ∧ W.heap.size ≤ b) → wpList P ops Q rest (a.put o.dst v1) w1) : wpList P ops Q (o :: rest) a W := by
  refine event_run hgd hrun (h _ _ ⟨fun k hk => ?_, inner, ?_, ?_⟩ (HB.alloc hbase _) (World.grownBy_alloc W _ none) ⟨W.heap.size, by simp [Value.ownBlock], Nat.le_refl _⟩)
  · have : W.heap.size = k := by simpa [Value.ownBlock] using hk
    subst this
    exact hfresh
  · have h2 := World.ownsRow_lit (base := base) (e := e) (size := d.sz) W inner.toArray xs.length hbase (by simpa [maxLen] using hm) (by simpa using hrep.1)
    simpa using h2
  · refine hrep.imp_ (fun p c hp => d.M_mono (fun k hk => ⟨hok k hk.1, fun he => ?_⟩) (M_below (d.M_bound hp) (below_alloc (Below.refl _ _) _)))
    have h3 : k = W.heap.size := by simpa [Value.ownBlock] using he
    have := hk.2.2.1
    omega
theorem reps_made {α : Type} {R : α → List Value → Prop} {z : Value} {size : Nat} {z0 : α} (hz : z.cells.size = size) (hs : 0 < size) (h0 : R z0 z.cells.toList) (m : Nat) : Reps R size (List.replicate m z0) (madeCells z.cells (m * size)).toList := by
  refine ⟨by simp [size_madeCells], fun j p hj => ?_⟩
  obtain ⟨hjl, hp⟩ := List.getElem?_eq_some_iff.1 hj
  have hjm : j < m := by simpa using hjl
  have hp' : z0 = p := by simpa using hp
  subst hp'
  have hle : j * size + size ≤ m * size := by rw [← Nat.succ_mul]; exact Nat.mul_le_mul_right _ hjm
  have : ((madeCells z.cells (m * size)).toList.drop (j * size)).take size = z.cells.toList := by
    apply List.ext_getElem
    · simp [size_madeCells, hz]
      omega
    · intro i h1 h2
      have hi : i < size := by rw [Array.length_toList, hz] at h2; exact h2
      have hmod : (j * size + i) % size = i := by
        rw [Nat.mul_comm, Nat.mul_add_mod]
        exact Nat.mod_eq_of_lt hi
      simp [madeCells, hz, hmod]
      rw [getElem!_pos z.cells i (by omega)]
  rw [this]
  exact h0
theorem R_make (d : Kd α) {w0 W : World} (base e : Nat) (hgd : o.guard = none) {N : Tmp} (hd : o.dst = some N) (t : TypeId) (x y : Operand) (ho : o.op = .makeSlice t x y) (n : Int) (hx : a.eval x = .int .i64 n) (hy : a.eval y = .int .i64 n)
    (ht : P.underlying t = some (.slice e)) (z : Value) (bytes : Nat) (hinfo : (P.info? e).map (fun i => (i.zero, i.size, i.bytes)) = some (some z, d.sz, bytes)) (hz : z.cells.size = d.sz) (hs0 : 0 < d.sz) (hb0 : 0 < bytes)
    (z0 : α) {ok okp : Nat → Prop} (hzero : d.M W base okp z0 z.cells.toList) (hok : ∀ k, okp k → ok k) (hfresh : ok W.heap.size) (h0 : 0 ≤ n) (hl : n.toNat * bytes ≤ 281474976710656) (HB : Below base w0 W) (hbase : base ≤ W.heap.size)
    (h : ∀ v1 w1, d.R e w1 base ok v1 (List.replicate n.toNat z0) → Below base w0 w1 → W.grownBy w1 none → (∃ b, v1.ownBlock = some b ∧ W.heap.size ≤ b) → wpList P ops Q rest (a.put o.dst v1) w1) : wpList P ops Q (o :: rest) a W := by
  obtain ⟨m, rfl⟩ := Int.eq_ofNat_of_zero_le h0
  simp only [Int.toNat_natCast] at hl h
  obtain ⟨i0, hi, hzz⟩ := Option.map_eq_some_iff.1 hinfo
  simp only [Prod.mk.injEq] at hzz
  obtain ⟨hz0, hz1, hz2⟩ := hzz
  have hm : m ≤ 281474976710656 := Nat.le_trans (Nat.le_mul_of_pos_right _ hb0) hl
  have hr := run_make (P := P) W t e i0 z ht hi hz0 .i64 .i64 (m : Int) (m : Int) (by omega) (by omega)
    (by
      have h3 : ((i0.bytes * m : Nat) : Int) ≤ 281474976710656 := by rw [hz2, Nat.mul_comm]; omega
      rwa [Int.natCast_mul] at h3) (by omega)
  simp only [Int.toNat_natCast] at hr
  rw [hz1] at hr
  refine R_lit d base e hgd hd (xs := List.replicate m z0) (inner := (madeCells z.cells (m * d.sz)).toList) (okp := okp) (ok := ok) ?_ (reps_made hz hs0 hzero m) hok hfresh HB hbase (by simp; omega) h
  simp [execOp, ho, hx, hy, hr]
end
end Kd
section
variable {P : Program}
theorem cut_to (t e : TypeId) (kh : IntKind) {i : TypeInfo} (ht : P.underlying t = some (.slice e)) (hi : P.info? e = some i) (A : Option Addr) (n c : Nat) (j : Int) (h0 : 0 ≤ j) (hm : j ≤ n) (hc : n ≤ c) :
    ∀ W : World, (Instr.slice t (.slice A n c) none (some (.int kh j)) none).run P W = .ok (.slice A j.toNat c) W := by
  intro W
  have hel : P.elem t = e := by simp [Program.elem, ht]
  have hu : P.underlying t = some (.slice (P.elem t)) := by rw [hel]; exact ht
  have ha : (A.map fun x => x.add 0) = A := by cases A <;> simp [Addr.add]
  rw [run_slice_h W t A n c hu kh j h0 (by omega), hel]
  simp [sizeOf, typeInfo, hi, sliced, Result.andThen, ha]
end
def QRow (w : World) (base : Nat) (e : TypeId) (size : Nat) (v : Value) (n : Nat) (xs : List Value) : Prop :=
  xs.length = n * size ∧
  ((n = 0 ∧ ∃ A, v = .slice A 0 0 ∧ ∀ a, A = some a → base ≤ a.block ∧ ∃ cur, w.heap[a.block]? = some (.cells cur e (0, 0))) ∨
   ∃ g off cap cur, v = .slice (some ⟨g, off * size, none⟩) n cap ∧ base ≤ g ∧ w.heap[g]? = some (.cells cur e (0, 0)) ∧ n ≤ cap ∧ off + cap ≤ maxLen ∧ cur.size = (off + cap) * size ∧ (cur.toList.drop (off * size)).take (n * size) = xs)
section
variable {w w1 : World} {base n size : Nat} {e : TypeId} {v : Value} {xs : List Value}
end
section
variable {P : Program}
end
namespace Kd
def Q {α : Type} (d : Kd α) (e : Nat) (w : World) (base : Nat) (ok : Nat → Prop) (v : Value) (xs : List α) : Prop :=
  (∀ k, v.ownBlock = some k → ok k) ∧ ∃ inner, QRow w base e d.sz v xs.length inner ∧ Reps (d.M w base (fun k => ok k ∧ some k ≠ v.ownBlock)) d.sz xs inner
section
variable {α : Type} {d : Kd α} {e : Nat} {w w1 W : World} {base : Nat} {ok ok' : Nat → Prop} {v : Value} {xs : List α}
end
section
variable {P : Program} {ops : Array Oper} {rest : List Oper} {o : Oper} {a : Act} {Q' : Exit → Act → World → Prop} {Kc : Act → World → Prop} {α : Type}
end
end Kd
namespace Kd
section
variable {α : Type} {d : Kd α} {e e' : Nat} {w w1 W : World} {base : Nat} {ok : Nat → Prop} {u v : Value} {xs : List α}
theorem R_elder' (hu : d.R e W base ok u xs) (hbase : ∀ k, v.ownBlock = some k → W.heap.size ≤ k) (hb : Below W.heap.size W w1) : d.R e w1 base (fun k => ok k ∧ some k ≠ v.ownBlock) u xs :=
  R_mono (R_move (R_bound hu) (fun k hk => hb.block k hk.2.2.1)) (fun k hk => ⟨hk.1, fun he => by have := hbase k he.symm; have := hk.2.2.1; omega⟩)
theorem R_new' (h : d.R e w1 W.heap.size ok v xs) (hlt : ∀ k, u.ownBlock = some k → k < W.heap.size) : d.R e w1 W.heap.size (fun k => ok k ∧ some k ≠ u.ownBlock) v xs :=
  R_mono (R_bound h) (fun k hk => ⟨hk.1, fun he => by have := hlt k he.symm; have := hk.2.1; omega⟩)
theorem fresh' (hlt : ∀ k, u.ownBlock = some k → k < W.heap.size) : ∀ k, W.heap.size ≤ k → some k ≠ u.ownBlock := fun k hk he => by have := hlt k he.symm; omega
end
end Kd
namespace Kd
section
variable {α : Type} {d : Kd α} {e base g n cap : Nat} {ok okp : Nat → Prop} {W : World} {xs : List α}
end
end Kd
namespace Kd
section
variable {α : Type} {F : Kd α → Kd α} {sz : Nat} {E : List Nat} {hs : ∀ n, (upto F sz E n).sz = sz} {hE : ∀ n q, q ∈ (upto F sz E n).E → q ∈ E}
end
end Kd
namespace Kd
section
variable {P : Program} {ops : Array Oper} {rest : List Oper} {o : Oper} {a : Act} {Q : Exit → Act → World → Prop} {α : Type}
end
end Kd
namespace Kd
section
variable {P : Program} {ops : Array Oper} {rest : List Oper} {o : Oper} {a : Act} {Q : Exit → Act → World → Prop} {α : Type}
end
end Kd
namespace Kd
section
variable {α : Type} {k : Kd α} {w : World} {A : Option Addr} {xs : List α} {m c : Nat}
theorem C_take (h : k.C w A xs.length xs) (hm : m ≤ xs.length) : k.C w A (xs.take m).length (xs.take m) := by
  have hl : (xs.take m).length = m := by rw [List.length_take]; omega
  refine ⟨rfl, by rw [hl]; have := h.2.1; omega, fun hp => ?_⟩
  obtain ⟨ad, e, hc⟩ := h.2.2 (by omega)
  refine ⟨ad, e, fun j p hj => hc j p ?_⟩
  rw [List.getElem?_take] at hj
  split at hj
  · exact hj
  · cases hj
end
end Kd
section
variable {P : Program}
end
theorem below_size {w W : World} (h : Below w.heap.size w W) : w.heap.size ≤ W.heap.size := h.size
theorem below_step {w W w2 : World} (h : Below w.heap.size w W) (k : Below W.heap.size W w2) : Below w.heap.size w w2 := below_then h h.size k
theorem ReadsInt.nil (W : World) (k : IntKind) : ReadsInt W k none ([] : List Int).length [] := ⟨rfl, by simp, fun h => absurd h (Nat.lt_irrefl 0)⟩
theorem ReadsInt.ofRow {k : IntKind} {w : World} {a : Option Addr} {len cap : Nat} {zs : List Int} (h : (a = none ∧ len = 0 ∧ cap = 0 ∧ zs = []) ∨ ∃ x, a = some x ∧ len ≤ cap ∧ cap ≤ maxLen ∧ zs.length = cap ∧ (∀ i, i < zs.length → w.cell? (x.add i) = some (.int k (zs.getD i 0))) ∧ ∀ n ∈ zs, (Lit.int k n).wf = true) :
    ∃ l : List Int, len = l.length ∧ ReadsInt w k a l.length l ∧ l.length ≤ maxLen ∧ ∀ x ∈ l, (Lit.int k x).wf = true := by
  rcases h with ⟨rfl, rfl, rfl, rfl⟩ | ⟨x, rfl, hl, hm, hz, hc, hw⟩
  · exact ⟨[], rfl, ReadsInt.nil _ _, Nat.zero_le _, fun x hx => by simp at hx⟩
  · have e : (zs.take len).length = len := by simp; omega
    have hm' : len ≤ maxLen := Nat.le_trans hl hm
    refine ⟨zs.take len, e.symm, ⟨rfl, by rw [e]; simpa [maxLen] using hm', fun _ => ⟨x, rfl, fun j hj => ?_⟩⟩, by rw [e]; exact hm', fun y hy => hw y (List.mem_of_mem_take hy)⟩
    rw [e] at hj
    rw [hc j (by omega)]
    simp [List.getD, List.getElem?_take, hj]
theorem below_set {w W : World} {g j : Nat} {v : Value} (h : Below w.heap.size w W) (hg : w.heap.size ≤ g) : Below w.heap.size w (W.setCell ⟨g, j, none⟩ v) := h.setCell hg _
theorem add_block (a : Addr) (i : Nat) : (a.add i).block = a.block := by unfold Addr.add; split <;> rfl
theorem cell_far {W : World} {p a : Addr} (h : a.block ≠ p.block) (u : Value) : (W.setCell p u).cell? a = W.cell? a := by
  have := Below.heap_setCell W p u a.block h
  simp [World.cell?, this]
theorem blk_put {w : World} {g : Nat} {t : TypeId} {cs cs' : Array Value} (h : w.heap[g]? = some (.cells cs t (0, 0))) (i : Nat) (u : Value) (e : cs.setIfInBounds i u = cs') : (w.setCell ⟨g, i, none⟩ u).heap[g]? = some (.cells cs' t (0, 0)) := e ▸ blk_set h i u
theorem ReadsInt.ofRowC {k : IntKind} {w : World} {a : Option Addr} {len cap : Nat} {zs : List Int} (h : (a = none ∧ len = 0 ∧ cap = 0 ∧ zs = []) ∨ ∃ x, a = some x ∧ len ≤ cap ∧ cap ≤ maxLen ∧ zs.length = cap ∧ (∀ i, i < zs.length → w.cell? (x.add i) = some (.int k (zs.getD i 0))) ∧ ∀ n ∈ zs, (Lit.int k n).wf = true) :
    ∃ l : List Int, len = l.length ∧ ReadsInt w k a l.length l ∧ l.length ≤ maxLen ∧ (∀ x ∈ l, (Lit.int k x).wf = true) ∧ l.length ≤ cap := by
  have hl : len ≤ cap := by
    rcases h with ⟨_, rfl, rfl, _⟩ | ⟨_, _, h, _⟩
    · exact Nat.le_refl _
    · exact h
  obtain ⟨l, e, h1, h2, h3⟩ := ReadsInt.ofRow h
  exact ⟨l, e, h1, h2, h3, e ▸ hl⟩
theorem below_drew1 {base : Nat} {w W : World} (h : Below base w W) : Below base w W.drew := h.drew
namespace Kd
section
variable {α β : Type} {d : Kd α} {d' : Kd β} {e e' base base' n : Nat} {ok ok' : Nat → Prop} {w W w1 W1 : World} {v u : Value} {xs : List α} {ys : List β} {A : Option Addr} {c : Nat}
end
section
variable {α : Type} {enc : α → Value} {h1 : ∀ x, (enc x).oneCell' = true} {w W : World} {A : Option Addr} {n g : Nat} {xs : List α}
end
end Kd
namespace Kd
section
variable {α : Type} {d : Kd α} {e base g : Nat} {ok : Nat → Prop} {w w1 : World} {v : Value} {xs : List α} {o : Obj}
theorem freshB (hb : w.heap[g]? = some o) : ∀ k, w.heap.size ≤ k → k ≠ g := fun k hk => by have := blk_lt hb; omega
end
end Kd
section
variable {P : Program} {ops : Array Oper} {rest : List Oper} {o : Oper} {a : Act} {Q : Exit → Act → World → Prop}
theorem box_event {W : World} (hgd : o.guard = none) {N : Tmp} (_hd : o.dst = some N) {cs : Array Value} {t : TypeId}
    (hrun : (execOp a.eval o).run P W = .ok (.value (.pointer (some ⟨W.heap.size, 0, none⟩))) (W.alloc (.cells cs t (0, 0))))
    (h : ∀ g, g = W.heap.size → ∀ w1, w1.heap[g]? = some (.cells cs t (0, 0)) → Below W.heap.size W w1 → wpList P ops Q rest (a.put o.dst (.pointer (some ⟨g, 0, none⟩))) w1) : wpList P ops Q (o :: rest) a W :=
  Kd.event_run hgd hrun (h _ rfl _ (blk_new W _) (below_alloc (Below.refl _ _) _))
end
namespace Kd
section
variable {α : Type} {enc : α → Value} {h1 : ∀ x, (enc x).oneCell' = true} {e base g n cap : Nat} {ok : Nat → Prop} {W : World} {xs : List α}
theorem R_celln (d : α) (h : (scalar enc h1).R e W base ok (.slice (some ⟨g, 0, none⟩) n cap) xs) (i : Int) (h0 : 0 ≤ i) (hi : i < n) : W.cell? ⟨g, i.toNat, none⟩ = some (enc (rdOf d xs i)) ∧ W.frozen? ⟨g, i.toNat, none⟩ = false := by
  obtain ⟨rfl, _⟩ := R_reads' h
  exact R_cell d h i h0 hi
theorem R_putn (h : (scalar enc h1).R e W base ok (.slice (some ⟨g, 0, none⟩) n cap) xs) (i : Int) (x : α) : (scalar enc h1).R e (W.setCell ⟨g, i.toNat, none⟩ (enc x)) base ok (.slice (some ⟨g, 0, none⟩) n cap) (xs.set i.toNat x) := by
  obtain ⟨rfl, _⟩ := R_reads' h
  exact (R_put h i x).1
end
end Kd
section
variable {P : Program} {ops : Array Oper} {rest : List Oper} {o : Oper} {a : Act} {Q : Exit → Act → World → Prop}
theorem store_event {W w1 : World} (hgd : o.guard = none) {t : TypeId} {p : Tmp} {v : Operand} (_ho : o.op = .store t (.tmp p) v) (hN : o.dst = none)
    (hrun : (execOp a.eval o).run P W = .ok .skip w1) (h : ∀ w', w' = w1 → wpList P ops Q rest a w') : wpList P ops Q (o :: rest) a W := by
  refine wpList_plain hgd fun K hK => ?_
  unfold Oper.wp
  rw [hrun]
  show K (a.put o.dst undef) w1
  rw [hN]
  exact hK _ _ (h _ rfl)
end
namespace Kd
section
variable {α : Type} {enc : α → Value} {h1 : ∀ x, (enc x).oneCell' = true} {e base g n cap : Nat} {ok : Nat → Prop} {W : World} {xs : List α}
theorem R_putg (h : (scalar enc h1).R e W base ok (.slice (some ⟨g, 0, none⟩) n cap) xs) (i : Int) (x : α) : (scalar enc h1).R e (W.setCell ⟨g, i.toNat, none⟩ (enc x)) base ok (.slice (some ⟨g, 0, none⟩) n cap) (xs.set i.toNat x) ∧ W.grownBy (W.setCell ⟨g, i.toNat, none⟩ (enc x)) (some g) := by
  obtain ⟨rfl, _⟩ := R_reads' h
  exact R_put h i x
end
end Kd
section
variable {P : Program} {ops : Array Oper} {rest : List Oper} {o : Oper} {a : Act} {Q : Exit → Act → World → Prop} {W : World}
theorem gate_dst {N : Tmp} (_hN : o.dst = some N) (h : wpList P ops Q (o :: rest) a W) : wpList P ops Q (o :: rest) a W := h
theorem gate_store {t : TypeId} {p : Tmp} {v : Operand} (_ho : o.op = .store t (.tmp p) v) (h : wpList P ops Q (o :: rest) a W) : wpList P ops Q (o :: rest) a W := h
end
section
variable {P : Program} {ops : Array Oper} {o : Oper} {a : Act} {Q : Exit → Act → World → Prop} {Kc : Act → World → Prop}
theorem event_step {W w1 : World} {v : Value} (hw : Region.wanted o (yielded ops a.tmps) = true) (hrun : (execOp a.eval o).run P W = .ok (.value v) w1) (h : Kc (a.put o.dst v) w1) : if Region.wanted o (yielded ops a.tmps) = true then Oper.wp P o a W Kc Q else Kc (a.put o.dst undef) W := by
  rw [if_pos hw]
  unfold Oper.wp
  rw [hrun]
  exact h
theorem box_step {W : World} (hw : Region.wanted o (yielded ops a.tmps) = true) {N : Tmp} (_hd : o.dst = some N) {cs : Array Value} {t : TypeId}
    (hrun : (execOp a.eval o).run P W = .ok (.value (.pointer (some ⟨W.heap.size, 0, none⟩))) (W.alloc (.cells cs t (0, 0))))
    (h : ∀ g, g = W.heap.size → ∀ w1, w1.heap[g]? = some (.cells cs t (0, 0)) → Below W.heap.size W w1 → Kc (a.put o.dst (.pointer (some ⟨g, 0, none⟩))) w1) : if Region.wanted o (yielded ops a.tmps) = true then Oper.wp P o a W Kc Q else Kc (a.put o.dst undef) W :=
  event_step hw hrun (h _ rfl _ (blk_new W _) (below_alloc (Below.refl _ _) _))
namespace Kd
variable {α : Type}
end Kd
end
inductive Vals (P : Program) (tmps : Array Value) (w : World) : List ResultVar → List Value → Prop where
  | nil : Vals P tmps w [] []
  | tmp {u : Tmp} {rs : List ResultVar} {vs : List Value} (h : Vals P tmps w rs vs) : Vals P tmps w (.tmp u :: rs) (tmps.getD u undef :: vs)
  | cell {p : Tmp} {ty : TypeId} {rs : List ResultVar} {vs : List Value} (g : Nat) (t : TypeId) (cs : Array Value) (fr : Nat × Nat) (d : TypeDesc)
      (hp : tmps.getD p undef = .pointer (some ⟨g, 0, none⟩)) (hg : w.heap[g]? = some (.cells cs t fr))
      (hu : P.underlying ty = some d) (hd : (match d with | .struct _ | .array _ _ => true | _ => false) = true) (hi : (P.info? ty).map (·.size) = some cs.size)
      (h : Vals P tmps w rs vs) : Vals P tmps w (.cell p ty :: rs) (.agg cs :: vs)
section
variable {P : Program} {tmps : Array Value} {w : World}
theorem vals_run {rs : List ResultVar} {vs : List Value} (hv : Vals P tmps w rs vs) (f : ResultVar → Sem Value) (hf : ∀ u, f (.tmp u) = pure (tmps.getD u undef)) (hc : ∀ a t, f (.cell a t) = (do loadVar t (← asAddr (tmps.getD a undef)))) :
    (rs.mapM f).run P w = .ok vs w := by
  induction hv with
  | nil => simp
  | tmp h ih => simp [List.mapM_cons, hf, ih]
  | cell g t cs fr d hp hg hu hd hi h ih =>
    rw [List.mapM_cons, hc, hp]
    simp [asAddr, run_loadVar_row w g t _ cs fr d hg hu hd hi, ih]
theorem results_list {fn : Func} {rs : List ResultVar} {vs : List Value} (h : fn.results = rs.toArray) (hl : vs.length ≠ 1) (hv : Vals P tmps w rs vs) : (results fn tmps).run P w = .ok (.tuple vs.toArray) w := by
  unfold results
  rw [h, List.mapM_toArray]
  simp only [Sem.run_bind, Sem.run_map]
  rw [vals_run hv]
  · simp [hl]
  · intro u
    rfl
  · intro a t
    rfl
end
namespace Kd
section
variable {P : Program} {α : Type}
end
section
variable {P : Program} {ops : Array Oper} {rest : List Oper} {o : Oper} {a : Act} {Q : Exit → Act → World → Prop} {Kc : Act → World → Prop} {α : Type}
end
end Kd
end Go.Proofs.YteejcpbngnojkaaW.PrintWords
end
section
namespace Go.Proofs.YteejcpbngnojkaaW.PrintLast
section
variable {P : Program} {ops : Array Oper} {Q : Exit → Act → World → Prop} {md : Region.Mode} {S : World → Prop} {ds : List Nat}
def Region.reachB (md : Region.Mode) (ops : Array Oper) (i : Nat) : Nat → Nat → Bool
  | 0, _ => false
  | fuel + 1, d => match ops[d]? with
    | some o => o.after.any fun e => Region.binds md e && (e.on == i || Region.reachB md ops i fuel e.on)
    | none => false
def Region.closedB (md : Region.Mode) (ops : Array Oper) (listed : Array Bool) : Bool :=
  (List.range ops.size).all fun j => !listed.getD j false || match ops[j]? with
    | some o => o.after.all fun e => !Region.binds md e || listed.getD e.on false
    | none => true
def Region.lastB (md : Region.Mode) (ops : Array Oper) (listed : Array Bool) (ds : List Nat) (i : Nat) : Bool :=
  ds.all fun d => listed.getD d true || Region.reachB md ops i ops.size d
def ListedClosed (md : Region.Mode) (ops : Array Oper) (listed : Array Bool) : Prop :=
  ∀ j oj, ops[j]? = some oj → listed.getD j false = true → ∀ e ∈ oj.after, Region.binds md e = true → listed.getD e.on false = true
theorem Region.closedB_spec {listed : Array Bool} (h : Region.closedB md ops listed = true) : ListedClosed md ops listed := by
  intro j oj hj hl e he hb
  have hlt : j < ops.size := (Array.getElem?_eq_some_iff.1 hj).1
  have h1 := List.all_eq_true.1 h j (List.mem_range.2 hlt)
  simp only [hl, hj, Bool.not_true, Bool.false_or] at h1
  have h2 := Array.all_eq_true_iff_forall_mem.1 h1 e he
  simpa [hb] using h2
theorem ListedClosed.set {listed : Array Bool} {i : Nat} (h : ListedClosed md ops listed) (hi : i ∈ Region.ready md ops listed) : ListedClosed md ops (listed.setIfInBounds i true) := by
  obtain ⟨_, oi, hoi, hall⟩ := mem_ready.1 hi
  intro j oj hj hl e he hb
  by_cases hij : i = j
  · subst hij
    have : oj = oi := Option.some.inj (hj.symm.trans hoi)
    subst this
    exact getD_set_true (hall e he hb)
  · rw [getD_set_ne false hij] at hl
    exact getD_set_true (h j oj hj hl e he hb)
theorem Region.reach_listed {listed : Array Bool} {i : Nat} (hc : ListedClosed md ops listed) : ∀ (fuel d : Nat), Region.reachB md ops i fuel d = true → listed.getD d false = true → listed.getD i false = true
  | 0, _, h, _ => by simp [Region.reachB] at h
  | fuel + 1, d, h, hl => by
    unfold Region.reachB at h
    cases ho : ops[d]? with
    | none => rw [ho] at h; simp at h
    | some o =>
      rw [ho] at h
      obtain ⟨e, he, h1⟩ := Array.any_eq_true'.1 h
      simp only [Bool.and_eq_true, Bool.or_eq_true, beq_iff_eq] at h1
      have hle := hc d o ho hl e he h1.1
      rcases h1.2 with h2 | h2
      · rw [← h2]; exact hle
      · exact Region.reach_listed hc fuel e.on h2 hle
theorem Region.reach_not_ready {listed : Array Bool} {i d fuel : Nat} (hc : ListedClosed md ops listed) (hr : Region.reachB md ops i fuel d = true) (hun : listed.getD i true = false) : d ∉ Region.ready md ops listed := by
  intro hd
  obtain ⟨_, o, ho, hall⟩ := mem_ready.1 hd
  have hi : listed.getD i false = true := by
    cases fuel with
    | zero => simp [Region.reachB] at hr
    | succ n =>
      unfold Region.reachB at hr
      rw [ho] at hr
      obtain ⟨e, he, h1⟩ := Array.any_eq_true'.1 hr
      simp only [Bool.and_eq_true, Bool.or_eq_true, beq_iff_eq] at h1
      have hle := hall e he h1.1
      rcases h1.2 with h2 | h2
      · rw [← h2]; exact hle
      · exact Region.reach_listed hc n e.on h2 hle
  rcases Nat.lt_or_ge i listed.size with h' | h'
  · simp [h'] at hun hi
    rw [hun] at hi
    cases hi
  · simp [Array.getElem?_eq_none h'] at hun
def wpAnyLast (P : Program) (md : Region.Mode) (ops : Array Oper) (Q : Exit → Act → World → Prop) (S : World → Prop) (ds : List Nat) : Nat → Array Bool → Act → World → Prop
  | 0, listed, a, w => Region.ready md ops listed = [] ∧ Q .normal a w
  | fuel + 1, listed, a, w =>
    (Region.ready md ops listed = [] → Q .normal a w) ∧
    ∀ i ∈ Region.ready md ops listed, wpOp P ops Q i (fun a' w' => (i ∉ ds → S w → S w') ∧ wpAnyLast P md ops Q S ds fuel (listed.setIfInBounds i true) a' w') a w
theorem wpAny_of_last : ∀ (fuel : Nat) (listed : Array Bool) (a : Act) (w : World), wpAnyLast P md ops Q S ds fuel listed a w → wpAny P md ops Q fuel listed a w
  | 0, _, _, _, h => h
  | fuel + 1, _, _, _, h => ⟨h.1, fun i hi => wpOp_mono (fun a' w' h' => wpAny_of_last fuel _ a' w' h'.2) (h.2 i hi)⟩
theorem wpAnyLast_first {i : Nat} {oi : Oper} {v : Value} (hi : ops[i]? = some oi) (hsel : ∀ (j : Nat) (o : Oper) cs b, ops[j]? = some o → o.op ≠ .select cs b)
    (hQ : ∀ c a w, Q (.panic c) (a.put oi.dst v) w → Q (.panic c) a w) (n : Nat) :
    ∀ (fuel : Nat) (listed : Array Bool) (a : Act) (w : World),
      (∀ j oj, ops[j]? = some oj → j ≠ i → listed.getD j true = false → (∀ e ∈ oj.after, Region.binds md e = true → e.on ≠ i) → oi.apart ops oj = true) →
      ListedClosed md ops listed → (∀ d ∈ ds, listed.getD d true = false → Region.reachB md ops i n d = true) →
      i ∈ Region.ready md ops listed → YieldsIf P ops S oi v a → S w →
      wpAnyLast P md ops Q S ds fuel (listed.setIfInBounds i true) (a.put oi.dst v) w → wpAnyLast P md ops Q S ds (fuel + 1) listed a w := by
  intro fuel
  induction fuel with
  | zero =>
    intro listed a w _ _ _ hr hy hS H
    refine ⟨fun h => (by rw [h] at hr; cases hr), fun j hj => ?_⟩
    by_cases hji : j = i
    · subst hji; exact hy.wpOp hi hS ⟨fun _ h => h, H⟩
    · have := ready_mono hj hji
      rw [H.1] at this
      cases this
  | succ fuel ih =>
    intro listed a w hfree hc hd hr hy hS H
    refine ⟨fun h => (by rw [h] at hr; cases hr), fun j hj => ?_⟩
    by_cases hji : j = i
    · subst hji; exact hy.wpOp hi hS ⟨fun _ h => h, H⟩
    · have h1 := H.2 j (ready_mono hj hji)
      obtain ⟨hjun, oj, hoj, hall⟩ := mem_ready.1 hj
      have hiun := (mem_ready.1 hr).1
      have hnot : ∀ e ∈ oj.after, Region.binds md e = true → e.on ≠ i := fun e he hb heq => by
        have h1 := hall e he hb
        rw [heq] at h1
        rcases Nat.lt_or_ge i listed.size with h' | h'
        · simp [h'] at hiun h1; rw [hiun] at h1; cases h1
        · simp [Array.getElem?_eq_none h'] at h1
      have hjd : j ∉ ds := fun hm => Region.reach_not_ready hc (hd j hm hjun) hiun hj
      have h2 := wpOp_putIf hoj (hfree j oj hoj hji hjun hnot) (fun cs b => hsel i oi cs b hi) (fun cs b => hsel j oj cs b hoj) hQ hy h1
      have hfree' : ∀ k ok, ops[k]? = some ok → k ≠ i → (listed.setIfInBounds j true).getD k true = false →
          (∀ e ∈ ok.after, Region.binds md e = true → e.on ≠ i) → oi.apart ops ok = true := fun k ok hk hki hun hno => by
        refine hfree k ok hk hki ?_ hno
        by_cases hjk : j = k
        · subst hjk; exact hjun
        · rw [getD_set_ne true hjk] at hun; exact hun
      have hd' : ∀ d ∈ ds, (listed.setIfInBounds j true).getD d true = false → Region.reachB md ops i n d = true := fun d hm hun => by
        refine hd d hm ?_
        by_cases hjk : j = d
        · subst hjk; exact hjun
        · rw [getD_set_ne true hjk] at hun; exact hun
      refine wpOp_mono (fun a' w' h3 => ⟨h3.2.1, ih (listed.setIfInBounds j true) a' w' hfree' (hc.set hj) hd' (ready_mono hr (Ne.symm hji)) h3.1 (h3.2.1 hjd hS) ?_⟩) h2
      rw [Array.setIfInBounds_comm _ _ hji]
      exact h3.2.2
theorem wpAnyLast_any {i : Nat} {oi : Oper} {v : Value} (hi : ops[i]? = some oi) (hsel : ∀ (j : Nat) (o : Oper) cs b, ops[j]? = some o → o.op ≠ .select cs b)
    (hQ : ∀ c a w, Q (.panic c) (a.put oi.dst v) w → Q (.panic c) a w) :
    ∀ (fuel : Nat) (listed : Array Bool) (a : Act) (w : World),
      (∀ j oj, ops[j]? = some oj → j ≠ i → listed.getD j true = false → (∀ e ∈ oj.after, Region.binds md e = true → e.on ≠ i) → oi.apart ops oj = true) →
      i ∈ Region.ready md ops listed → Yields P ops oi v a →
      wpAnyLast P md ops Q S ds fuel (listed.setIfInBounds i true) (a.put oi.dst v) w → wpAnyLast P md ops Q S ds (fuel + 1) listed a w := by
  intro fuel
  induction fuel with
  | zero =>
    intro listed a w _ hr hy H
    refine ⟨fun h => (by rw [h] at hr; cases hr), fun j hj => ?_⟩
    by_cases hji : j = i
    · subst hji; exact (hy.yieldsIf (S := fun _ => True)).wpOp hi trivial ⟨fun _ h => h, H⟩
    · have := ready_mono hj hji
      rw [H.1] at this
      cases this
  | succ fuel ih =>
    intro listed a w hfree hr hy H
    refine ⟨fun h => (by rw [h] at hr; cases hr), fun j hj => ?_⟩
    by_cases hji : j = i
    · subst hji; exact (hy.yieldsIf (S := fun _ => True)).wpOp hi trivial ⟨fun _ h => h, H⟩
    · have h1 := H.2 j (ready_mono hj hji)
      obtain ⟨hjun, oj, hoj, hall⟩ := mem_ready.1 hj
      have hiun := (mem_ready.1 hr).1
      have hnot : ∀ e ∈ oj.after, Region.binds md e = true → e.on ≠ i := fun e he hb heq => by
        have h1 := hall e he hb
        rw [heq] at h1
        rcases Nat.lt_or_ge i listed.size with h' | h'
        · simp [h'] at hiun h1; rw [hiun] at h1; cases h1
        · simp [Array.getElem?_eq_none h'] at h1
      have h2 := wpOp_put hoj (hfree j oj hoj hji hjun hnot) (fun cs b => hsel i oi cs b hi) (fun cs b => hsel j oj cs b hoj) hQ hy h1
      have hfree' : ∀ k ok, ops[k]? = some ok → k ≠ i → (listed.setIfInBounds j true).getD k true = false →
          (∀ e ∈ ok.after, Region.binds md e = true → e.on ≠ i) → oi.apart ops ok = true := fun k ok hk hki hun hno => by
        refine hfree k ok hk hki ?_ hno
        by_cases hjk : j = k
        · subst hjk; exact hjun
        · rw [getD_set_ne true hjk] at hun; exact hun
      refine wpOp_mono (fun a' w' h3 => ⟨h3.2.1, ih (listed.setIfInBounds j true) a' w' hfree' (ready_mono hr (Ne.symm hji)) h3.1 ?_⟩) h2
      rw [Array.setIfInBounds_comm _ _ hji]
      exact h3.2.2
theorem wpAnyLast_take {i : Nat} {oi : Oper} {v : Value} {fuel : Nat} {listed : Array Bool} {a : Act} {w : World} (hi : ops[i]? = some oi)
    (hs : Region.noSelect ops = true) (hf : Region.free md ops listed i = true) (hr : (Region.ready md ops listed).contains i = true)
    (hc : Region.closedB md ops listed = true) (hl : Region.lastB md ops listed ds i = true)
    (hQ : ∀ c a w, Q (.panic c) (a.put oi.dst v) w → Q (.panic c) a w) (hy : YieldsIf P ops S oi v a) (hS : S w)
    (h : wpAnyLast P md ops Q S ds fuel (listed.setIfInBounds i true) (a.put oi.dst v) w) : wpAnyLast P md ops Q S ds (fuel + 1) listed a w :=
  wpAnyLast_first hi (Region.noSelect_spec hs) hQ ops.size fuel listed a w (Region.free_spec hi hf) (Region.closedB_spec hc)
    (fun d hm hun => by have := List.all_eq_true.1 hl d hm; rw [hun] at this; simpa using this) (by simpa using hr) hy hS h
theorem wpAnyLast_all {rs : List Nat} {fuel : Nat} {listed : Array Bool} {a : Act} {w : World} (hr : Region.ready md ops listed = rs) (hne : rs ≠ [])
    (h : ∀ i ∈ rs, wpOp P ops Q i (fun a' w' => (i ∉ ds → S w → S w') ∧ wpAnyLast P md ops Q S ds fuel (listed.setIfInBounds i true) a' w') a w) : wpAnyLast P md ops Q S ds (fuel + 1) listed a w :=
  ⟨fun h0 => absurd (hr ▸ h0) hne, hr ▸ h⟩
theorem wpAnyLast_done {listed : Array Bool} {a : Act} {w : World} (hr : Region.ready md ops listed = []) (h : Q .normal a w) :
    ∀ fuel, wpAnyLast P md ops Q S ds fuel listed a w
  | 0 => ⟨hr, h⟩
  | _ + 1 => ⟨fun _ => h, by rw [hr]; simp⟩
theorem wp_region_last {id : Nat} {a : Act} {w : World} (hm : P.follows .mixedOrders = true)
    (h : wpAnyLast P .any ops Q S ds ops.size (Array.replicate ops.size false) a { w with drawn := w.drawn + 1 }) : (Code.region id ops true).wp P Q a w :=
  wp_region_any hm (wpAny_of_last _ _ _ _ h)
end
section
variable {P : Program} {ops : Array Oper} {Q : Exit → Act → World → Prop} {md : Region.Mode} {S : World → Prop} {ds : List Nat}
def AllReadyL (P : Program) (md : Region.Mode) (ops : Array Oper) (Q : Exit → Act → World → Prop) (S : World → Prop) (ds : List Nat) (fuel : Nat) (listed : Array Bool) (a : Act) (w : World) (rs : List Nat) : Prop :=
  ∀ i ∈ rs, wpOp P ops Q i (fun a' w' => (i ∉ ds → S w → S w') ∧ wpAnyLast P md ops Q S ds fuel (listed.setIfInBounds i true) a' w') a w
theorem AllReadyL.nil {fuel : Nat} {listed : Array Bool} {a : Act} {w : World} : AllReadyL P md ops Q S ds fuel listed a w [] := fun _ h => by cases h
theorem AllReadyL.cons {fuel : Nat} {listed : Array Bool} {a : Act} {w : World} {i : Nat} {o : Oper} {rs : List Nat} (ho : ops[i]? = some o) (hd : i ∉ ds)
    (h : ∀ K' : Act → World → Prop, Shut (∀ a w, S w → (S w → wpAnyLast P md ops Q S ds fuel (listed.setIfInBounds i true) a w) → K' a w) → if Region.wanted o (yielded ops a.tmps) = true then Oper.wp P o a w K' Q else K' (a.put o.dst undef) w)
    (hs : AllReadyL P md ops Q S ds fuel listed a w rs) : AllReadyL P md ops Q S ds fuel listed a w (i :: rs) := fun j hj => by
  rcases List.mem_cons.1 hj with rfl | hj
  · exact wpOp_step ho (fun K' hK => h K' (fun a w hS hW => hK a w ⟨fun _ _ => hS, hW hS⟩))
  · exact hs j hj
theorem AllReadyL.cons_last {fuel : Nat} {listed : Array Bool} {a : Act} {w : World} {i : Nat} {o : Oper} {rs : List Nat} (ho : ops[i]? = some o) (hd : i ∈ ds)
    (h : ∀ K' : Act → World → Prop, Shut (∀ a w, wpAnyLast P md ops Q S ds fuel (listed.setIfInBounds i true) a w → K' a w) → if Region.wanted o (yielded ops a.tmps) = true then Oper.wp P o a w K' Q else K' (a.put o.dst undef) w)
    (hs : AllReadyL P md ops Q S ds fuel listed a w rs) : AllReadyL P md ops Q S ds fuel listed a w (i :: rs) := fun j hj => by
  rcases List.mem_cons.1 hj with rfl | hj
  · exact wpOp_step ho (fun K' hK => h K' (fun a w hW => hK a w ⟨fun hn => absurd hd hn, hW⟩))
  · exact hs j hj
theorem wpAnyLast_ready {rs : List Nat} {fuel : Nat} {listed : Array Bool} {a : Act} {w : World} (hr : Region.ready md ops listed = rs) (hne : rs ≠ [])
    (h : AllReadyL P md ops Q S ds fuel listed a w rs) : wpAnyLast P md ops Q S ds (fuel + 1) listed a w := wpAnyLast_all hr hne h
theorem start_ {id n : Nat} {a : Act} {w : World} (l : Array Bool) (hm : P.follows .mixedOrders = true) (hn : ops.size = n) (hl : Array.replicate n false = l) (hS : S w.drew)
    (h : S w.drew → wpAnyLast P .any ops Q S ds n l a w.drew) : (Code.region id ops true).wp P Q a w := by
  subst hn
  subst hl
  exact wp_region_last hm (h hS)
def takeB (md : Region.Mode) (ops : Array Oper) (ds : List Nat) (l l' : Array Bool) (i : Nat) : Bool :=
  Region.noSelect ops && Region.free md ops l i && (Region.ready md ops l).contains i && Region.closedB md ops l && Region.lastB md ops l ds i && (l.setIfInBounds i true == l')
theorem take_ {i : Nat} {N : Option Tmp} {oi : Oper} {v : Value} {fuel : Nat} {l : Array Bool} {a : Act} {w : World} (l' : Array Bool) (hi : ops[i]? = some oi) (hN : oi.dst = N) (hc : takeB md ops ds l l' i = true)
    (hQ : ∀ c a w, Q (.panic c) (a.put oi.dst v) w → Q (.panic c) a w) (hy : YieldsIf P ops S oi v a) (hS : S w) {a' : Act} (ha : a.put N v = a')
    (h : wpAnyLast P md ops Q S ds fuel l' a' w) : wpAnyLast P md ops Q S ds (fuel + 1) l a w := by
  subst ha
  subst hN
  simp only [takeB, Bool.and_eq_true, beq_iff_eq] at hc
  obtain ⟨⟨⟨⟨⟨h1, h2⟩, h3⟩, h4⟩, h5⟩, h6⟩ := hc
  subst h6
  exact wpAnyLast_take hi h1 h2 h3 h4 h5 hQ hy hS h
def anyB (md : Region.Mode) (ops : Array Oper) (l l' : Array Bool) (i : Nat) : Bool :=
  Region.noSelect ops && Region.free md ops l i && (Region.ready md ops l).contains i && (l.setIfInBounds i true == l')
theorem pure_ {i : Nat} {N : Option Tmp} {oi : Oper} {v : Value} {fuel : Nat} {l : Array Bool} {a : Act} {w : World} (l' : Array Bool) (hi : ops[i]? = some oi) (hN : oi.dst = N) (hc : anyB md ops l l' i = true)
    (hQ : ∀ c a w, Q (.panic c) (a.put oi.dst v) w → Q (.panic c) a w) (hy : Yields P ops oi v a) {a' : Act} (ha : a.put N v = a')
    (h : wpAnyLast P md ops Q S ds fuel l' a' w) : wpAnyLast P md ops Q S ds (fuel + 1) l a w := by
  subst ha
  subst hN
  simp only [anyB, Bool.and_eq_true, beq_iff_eq] at hc
  obtain ⟨⟨⟨h1, h2⟩, h3⟩, h6⟩ := hc
  subst h6
  exact wpAnyLast_any hi (Region.noSelect_spec h1) hQ fuel l a w (Region.free_spec hi h2) (by simpa using h3) hy h
def readyB (md : Region.Mode) (ops : Array Oper) (l l' : Array Bool) (i : Nat) : Bool := (Region.ready md ops l == [i]) && (l.setIfInBounds i true == l')
theorem one_ {i : Nat} {N : Option Tmp} {oi : Oper} {fuel : Nat} {l : Array Bool} {a : Act} {w : World} (l' : Array Bool) (hi : ops[i]? = some oi) (hN : oi.dst = N) (hc : readyB md ops l l' i = true) (hd : i ∉ ds)
    (h : ∀ K : Act → World → Prop, Shut (∀ a' w', S w' → (S w' → wpAnyLast P md ops Q S ds fuel l' a' w') → K a' w') → if Region.wanted oi (yielded ops a.tmps) = true then Oper.wp P oi a w K Q else K (a.put N undef) w) :
    wpAnyLast P md ops Q S ds (fuel + 1) l a w := by
  subst hN
  simp only [readyB, Bool.and_eq_true, beq_iff_eq] at hc
  obtain ⟨h1, h2⟩ := hc
  subst h2
  exact wpAnyLast_ready h1 (by simp) (AllReadyL.cons hi hd (fun K hK => h K hK) AllReadyL.nil)
theorem last_ {i : Nat} {N : Option Tmp} {oi : Oper} {fuel : Nat} {l : Array Bool} {a : Act} {w : World} (l' : Array Bool) (hi : ops[i]? = some oi) (hN : oi.dst = N) (hc : readyB md ops l l' i = true) (hd : i ∈ ds)
    (h : ∀ K : Act → World → Prop, Shut (∀ a' w', wpAnyLast P md ops Q S ds fuel l' a' w' → K a' w') → if Region.wanted oi (yielded ops a.tmps) = true then Oper.wp P oi a w K Q else K (a.put N undef) w) :
    wpAnyLast P md ops Q S ds (fuel + 1) l a w := by
  subst hN
  simp only [readyB, Bool.and_eq_true, beq_iff_eq] at hc
  obtain ⟨h1, h2⟩ := hc
  subst h2
  exact wpAnyLast_ready h1 (by simp) (AllReadyL.cons_last hi hd (fun K hK => h K hK) AllReadyL.nil)
theorem done_ {l : Array Bool} {a : Act} {w : World} {n : Nat} (hr : (Region.ready md ops l == []) = true) (h : Q .normal a w) : wpAnyLast P md ops Q S ds n l a w := wpAnyLast_done (by simpa using hr) h n
theorem two_ {i j : Nat} {Ni Nj : Option Tmp} {oi oj : Oper} {fuel : Nat} {l : Array Bool} {a : Act} {w : World} (li lj : Array Bool) (hi : ops[i]? = some oi) (hj : ops[j]? = some oj) (hNi : oi.dst = Ni) (hNj : oj.dst = Nj)
    (hc : (Region.ready md ops l == [i, j] && l.setIfInBounds i true == li && l.setIfInBounds j true == lj) = true) (hdi : i ∉ ds) (hdj : j ∉ ds)
    (h1 : ∀ K : Act → World → Prop, Shut (∀ a' w', S w' → (S w' → wpAnyLast P md ops Q S ds fuel li a' w') → K a' w') → if Region.wanted oi (yielded ops a.tmps) = true then Oper.wp P oi a w K Q else K (a.put Ni undef) w)
    (h2 : ∀ K : Act → World → Prop, Shut (∀ a' w', S w' → (S w' → wpAnyLast P md ops Q S ds fuel lj a' w') → K a' w') → if Region.wanted oj (yielded ops a.tmps) = true then Oper.wp P oj a w K Q else K (a.put Nj undef) w) :
    wpAnyLast P md ops Q S ds (fuel + 1) l a w := by
  subst hNi
  subst hNj
  simp only [Bool.and_eq_true, beq_iff_eq] at hc
  obtain ⟨⟨h3, h4⟩, h5⟩ := hc
  subst h4
  subst h5
  exact wpAnyLast_ready h3 (by simp) (AllReadyL.cons hi hdi (fun K hK => h1 K hK) (AllReadyL.cons hj hdj (fun K hK => h2 K hK) AllReadyL.nil))
theorem three_ {i j k : Nat} {Ni Nj Nk : Option Tmp} {oi oj ok : Oper} {fuel : Nat} {l : Array Bool} {a : Act} {w : World} (li lj lk : Array Bool) (hi : ops[i]? = some oi) (hj : ops[j]? = some oj) (hk : ops[k]? = some ok) (hNi : oi.dst = Ni) (hNj : oj.dst = Nj) (hNk : ok.dst = Nk)
    (hc : (Region.ready md ops l == [i, j, k] && l.setIfInBounds i true == li && l.setIfInBounds j true == lj && l.setIfInBounds k true == lk) = true) (hdi : i ∉ ds) (hdj : j ∉ ds) (hdk : k ∉ ds)
    (h1 : ∀ K : Act → World → Prop, Shut (∀ a' w', S w' → (S w' → wpAnyLast P md ops Q S ds fuel li a' w') → K a' w') → if Region.wanted oi (yielded ops a.tmps) = true then Oper.wp P oi a w K Q else K (a.put Ni undef) w)
    (h2 : ∀ K : Act → World → Prop, Shut (∀ a' w', S w' → (S w' → wpAnyLast P md ops Q S ds fuel lj a' w') → K a' w') → if Region.wanted oj (yielded ops a.tmps) = true then Oper.wp P oj a w K Q else K (a.put Nj undef) w)
    (h3 : ∀ K : Act → World → Prop, Shut (∀ a' w', S w' → (S w' → wpAnyLast P md ops Q S ds fuel lk a' w') → K a' w') → if Region.wanted ok (yielded ops a.tmps) = true then Oper.wp P ok a w K Q else K (a.put Nk undef) w) :
    wpAnyLast P md ops Q S ds (fuel + 1) l a w := by
  subst hNi
  subst hNj
  subst hNk
  simp only [Bool.and_eq_true, beq_iff_eq] at hc
  obtain ⟨⟨⟨h4, h5⟩, h6⟩, h7⟩ := hc
  subst h5
  subst h6
  subst h7
  exact wpAnyLast_ready h4 (by simp) (AllReadyL.cons hi hdi (fun K hK => h1 K hK) (AllReadyL.cons hj hdj (fun K hK => h2 K hK) (AllReadyL.cons hk hdk (fun K hK => h3 K hK) AllReadyL.nil)))
def putAll : Act → List (Tmp × Value) → Act
  | a, [] => a
  | a, (n, v) :: r => putAll (a.put (some n) v) r
theorem join_ {σ : Type} {fuel : Nat} {l : Array Bool} {a : Act} {w : World} (fuel' : Nat) (l' : Array Bool) (ns : σ → List (Tmp × Value)) (F : σ → World → Prop)
    (hcont : ∀ s w', F s w' → wpAnyLast P md ops Q S ds fuel' l' (putAll a (ns s)) w')
    (h : (∀ s w', F s w' → wpAnyLast P md ops Q S ds fuel' l' (putAll a (ns s)) w') → wpAnyLast P md ops Q S ds fuel l a w) : wpAnyLast P md ops Q S ds fuel l a w := h hcont
theorem norm_ {fuel : Nat} {l : Array Bool} {a a' : Act} {w : World} (ha : a = a') (h : wpAnyLast P md ops Q S ds fuel l a' w) : wpAnyLast P md ops Q S ds fuel l a w := by
  subst ha
  exact h
theorem call_ {oi : Oper} {N : Option Tmp} {a : Act} {w : World} {K : Act → World → Prop} (f : FuncId) (args : Array Value) (hw : Region.wanted oi (yielded ops a.tmps) = true) (hN : oi.dst = N) (hrun : (execOp a.eval oi).run P w = .ok (.enter f args) w)
    (h : Calls P f args w fun e w' => ∃ v, e = .returned v ∧ K (a.put N v) w') : if Region.wanted oi (yielded ops a.tmps) = true then Oper.wp P oi a w K Q else K (a.put N undef) w := by
  rw [if_pos hw]
  subst hN
  unfold Oper.wp
  rw [hrun, Oper.upon_enter]
  refine h.mono fun e w'' hh => ?_
  obtain ⟨v, rfl, hk⟩ := hh
  exact hk
theorem enters_ {f : FuncId} {fn : Func} (hf : P.funcs[f]? = some fn) (hname : (fn.name == "runtime.NumGoroutine") = false) (hb : fn.body.isSome = true) (args : Array Value) (w : World) : (callFunc f args).run P w = .ok (.enter f args) w := by
  have h1 : fn.name ≠ "runtime.NumGoroutine" := by simpa using hname
  obtain ⟨c, hc⟩ := Option.isSome_iff_exists.1 hb
  simp [callFunc, hf, h1, hc]
theorem goes_ {oi : Oper} {N : Option Tmp} {a : Act} {w : World} {K : Act → World → Prop} {f : FuncId} {fn : Func} {as_ : Array Operand} {ts : Array TypeId} (hf : P.funcs[f]? = some fn) (hname : (fn.name == "runtime.NumGoroutine") = false) (hb : fn.body.isSome = true) (args : Array Value)
    (hw : Region.wanted oi (yielded ops a.tmps) = true) (hN : oi.dst = N) (hop : oi.op = .call { callee := .value (.func f), args := as_, argTypes := ts }) (hargs : as_.map a.eval = args)
    (h : Calls P f args w fun e w' => ∃ v, e = .returned v ∧ K (a.put N v) w') : if Region.wanted oi (yielded ops a.tmps) = true then Oper.wp P oi a w K Q else K (a.put N undef) w := by
  refine call_ f args hw hN ?_ h
  have he := enters_ hf hname hb args w
  unfold execOp
  simp [hop, resolve, Deferred.ofValue, invoke, Act.eval, hargs, he]
theorem goesL_ {rest : List Oper} {oi : Oper} {a : Act} {w : World} (N : Option Tmp) (hd : oi.dst = N) (hg : oi.guard = none) {f : FuncId} {fn : Func} {as_ : Array Operand} {ts : Array TypeId} (hf : P.funcs[f]? = some fn) (hname : (fn.name == "runtime.NumGoroutine") = false) (hb : fn.body.isSome = true) (args : Array Value)
    (hop : oi.op = .call { callee := .value (.func f), args := as_, argTypes := ts }) (hargs : as_.map a.eval = args)
    (h : Calls P f args w fun e w' => ∃ v, e = .returned v ∧ wpList P ops Q rest (a.put N v) w') : wpList P ops Q (oi :: rest) a w := by
  refine wpList_plain hg fun K hK => ?_
  have he := enters_ hf hname hb args w
  have hrun : (execOp a.eval oi).run P w = .ok (.enter f args) w := by
    unfold execOp
    simp [hop, resolve, Deferred.ofValue, invoke, Act.eval, hargs, he]
  unfold Oper.wp
  rw [hrun, Oper.upon_enter]
  refine h.mono fun e w'' hh => ?_
  obtain ⟨v, rfl, hk⟩ := hh
  subst hd
  exact hK _ _ hk
theorem value_ {oi : Oper} {N : Option Tmp} {a : Act} {w w1 : World} {v : Value} {K : Act → World → Prop} (hw : Region.wanted oi (yielded ops a.tmps) = true) (hN : oi.dst = N) (hrun : (execOp a.eval oi).run P w = .ok (.value v) w1)
    (h : K (a.put N v) w1) : if Region.wanted oi (yielded ops a.tmps) = true then Oper.wp P oi a w K Q else K (a.put N undef) w := by
  rw [if_pos hw]
  subst hN
  unfold Oper.wp
  rw [hrun]
  exact h
theorem skip_ {oi : Oper} {a : Act} {w w1 : World} {K : Act → World → Prop} (hw : Region.wanted oi (yielded ops a.tmps) = true) (hN : oi.dst = none) (hrun : (execOp a.eval oi).run P w = .ok .skip w1)
    (h : K a w1) : if Region.wanted oi (yielded ops a.tmps) = true then Oper.wp P oi a w K Q else K (a.put none undef) w := by
  rw [if_pos hw]
  unfold Oper.wp
  rw [hrun]
  show K (a.put oi.dst undef) w1
  rw [hN]
  exact h
theorem i64_w (n : Int) : IntKind.i64.wrap n = Go.RowKit.wrap64 n := by unfold Go.RowKit.wrap64; exact IntKind.wrap_i64 n
theorem i32_w (n : Int) : IntKind.i32.wrap n = Go.RowKit.wrap32 n := by unfold Go.RowKit.wrap32; exact IntKind.wrap_i32 n
end
end Go.Proofs.YteejcpbngnojkaaW.PrintLast
end
section
namespace Go.Proofs.YteejcpbngnojkaaW.PrintLast
open Go.Proofs.YteejcpbngnojkaaW.PrintWords (Aside0)
def needsOf (md : Region.Mode) (o : Oper) : List Nat := (o.after.toList.filter (fun e => Region.binds md e)).map (fun e => e.on)
def clashOf (md : Region.Mode) (ops : Array Oper) (i : Nat) (oi : Oper) : List Nat := (List.range ops.size).filter fun j => !(j == i) && match ops[j]? with
  | some oj => !(oj.after.any (fun e => Region.binds md e && e.on == i) || oi.apart ops oj)
  | none => false
def rtab (md : Region.Mode) (ops : Array Oper) : Bool × List (List Nat × List Nat) := (Region.noSelect ops, (List.range ops.size).map fun i => match ops[i]? with
  | some o => (needsOf md o, clashOf md ops i o)
  | none => ([], []))
def readyAt (T : List (List Nat × List Nat)) (l : List Bool) (i : Nat) : Bool := !l.getD i true && match T[i]? with
  | some r => r.1.all (fun j => l.getD j false)
  | none => false
def readyT (T : List (List Nat × List Nat)) (l : List Bool) : List Nat := (List.range T.length).filter (readyAt T l)
def freeT (T : List (List Nat × List Nat)) (l : List Bool) (i : Nat) : Bool := match T[i]? with
  | some r => r.2.all (fun j => l.getD j true)
  | none => false
def closedT (T : List (List Nat × List Nat)) (l : List Bool) : Bool := (List.range T.length).all fun j => !l.getD j false || match T[j]? with
  | some r => r.1.all (fun k => l.getD k false)
  | none => true
def reachT (T : List (List Nat × List Nat)) (i : Nat) : Nat → Nat → Bool
  | 0, _ => false
  | fuel + 1, d => match T[d]? with
    | some r => r.1.any fun j => j == i || reachT T i fuel j
    | none => false
def lastT (T : List (List Nat × List Nat)) (l : List Bool) (ds : List Nat) (i : Nat) : Bool := ds.all fun d => l.getD d true || reachT T i T.length d
section
variable {md : Region.Mode} {ops : Array Oper} {T : Bool × List (List Nat × List Nat)} {l l' li lj lk : Array Bool} {ds : List Nat} {i j k : Nat}
theorem gd (l : Array Bool) (j : Nat) (b : Bool) : l.getD j b = l.toList.getD j b := by simp [Array.getD_eq_getD_getElem?, List.getD_eq_getElem?_getD]
theorem needs_all (o : Oper) (p : Nat → Bool) : o.after.all (fun e => !Region.binds md e || p e.on) = (needsOf md o).all p := by
  unfold needsOf
  rw [← Array.all_toList]
  induction o.after.toList with
  | nil => rfl
  | cons e r ih =>
    rw [List.all_cons, ih, List.filter_cons]
    cases h : Region.binds md e <;> simp
theorem needs_any (o : Oper) (p : Nat → Bool) : o.after.any (fun e => Region.binds md e && p e.on) = (needsOf md o).any p := by
  unfold needsOf
  rw [← Array.any_toList]
  induction o.after.toList with
  | nil => rfl
  | cons e r ih =>
    rw [List.any_cons, ih, List.filter_cons]
    cases h : Region.binds md e <;> simp
theorem rtab_length : (rtab md ops).2.length = ops.size := by simp [rtab]
theorem rtab_some {o : Oper} (h : ops[i]? = some o) : (rtab md ops).2[i]? = some (needsOf md o, clashOf md ops i o) := by
  have hi := (Array.getElem?_eq_some_iff.1 h).1
  unfold rtab
  rw [List.getElem?_map, List.getElem?_range hi, Option.map_some, h]
theorem rtab_none (h : ops[i]? = none) : (rtab md ops).2[i]? = none := by
  have hi : ops.size ≤ i := Array.getElem?_eq_none_iff.1 h
  exact List.getElem?_eq_none (by rw [rtab_length]; exact hi)
theorem readyAt_eq : readyAt (rtab md ops).2 l.toList i = (!l.getD i true && ((ops[i]?).map (·.after.all fun e => !Region.binds md e || l.getD e.on false)).getD false) := by
  unfold readyAt
  rw [gd]
  cases h : ops[i]? with
  | none => rw [rtab_none h]; rfl
  | some o =>
    rw [rtab_some h]
    simp only [Option.map_some, Option.getD_some]
    rw [← needs_all]
    simp only [gd]
theorem ready_eq : Region.ready md ops l = readyT (rtab md ops).2 l.toList := by
  unfold Region.ready readyT
  rw [rtab_length]
  refine List.filter_congr (fun i _ => ?_)
  rw [readyAt_eq]
theorem free_eq : Region.free md ops l i = freeT (rtab md ops).2 l.toList i := by
  unfold Region.free freeT
  cases h : ops[i]? with
  | none => rw [rtab_none h]
  | some oi =>
    rw [rtab_some h]
    simp only [clashOf]
    rw [List.all_filter]
    congr 1
    funext j
    rw [gd]
    cases hj : ops[j]? with
    | none => cases (j == i) <;> cases (l.toList.getD j true) <;> simp
    | some oj =>
      cases (j == i) <;> cases (l.toList.getD j true) <;> cases (oj.after.any (fun e => Region.binds md e && e.on == i) || oi.apart ops oj) <;> simp_all
theorem closed_eq : Region.closedB md ops l = closedT (rtab md ops).2 l.toList := by
  unfold Region.closedB closedT
  rw [rtab_length]
  congr 1
  funext j
  rw [gd]
  cases h : ops[j]? with
  | none => rw [rtab_none h]
  | some o =>
    rw [rtab_some h]
    simp only
    rw [← needs_all]
    simp only [gd]
theorem reach_eq : ∀ (fuel d : Nat), Region.reachB md ops i fuel d = reachT (rtab md ops).2 i fuel d
  | 0, _ => rfl
  | fuel + 1, d => by
    unfold Region.reachB reachT
    cases h : ops[d]? with
    | none => rw [rtab_none h]
    | some o =>
      rw [rtab_some h]
      simp only
      rw [← needs_any]
      congr 1
      funext e
      rw [reach_eq fuel]
theorem last_eq : Region.lastB md ops l ds i = lastT (rtab md ops).2 l.toList ds i := by
  unfold Region.lastB lastT
  rw [rtab_length]
  congr 1
  funext d
  rw [gd, reach_eq]
theorem readyAt_mem (h : readyAt T.2 l.toList i = true) (hT : rtab md ops = T) : (Region.ready md ops l).contains i = true := by
  subst hT
  rw [ready_eq]
  unfold readyT
  rw [List.contains_iff_mem, List.mem_filter, List.mem_range]
  refine ⟨?_, h⟩
  unfold readyAt at h
  rw [Bool.and_eq_true] at h
  cases hq : (rtab md ops).2[i]? with
  | none => rw [hq] at h; simp at h
  | some r => exact (List.getElem?_eq_some_iff.1 hq).1
theorem set_of (h : (l.toList.set i true == l'.toList) = true) : (l.setIfInBounds i true == l') = true := by
  rw [beq_iff_eq] at h ⊢
  apply Array.ext'
  rw [Array.toList_setIfInBounds]
  exact h
def anyT (T : Bool × List (List Nat × List Nat)) (l l' : List Bool) (i : Nat) : Bool := T.1 && freeT T.2 l i && readyAt T.2 l i && (l.set i true == l')
theorem any_of (hT : rtab md ops = T) (h : anyT T l.toList l'.toList i = true) : anyB md ops l l' i = true := by
  simp only [anyT, Bool.and_eq_true] at h
  obtain ⟨⟨⟨h1, h2⟩, h3⟩, h4⟩ := h
  have h5 := readyAt_mem h3 hT
  have h6 := set_of h4
  subst hT
  simp only [anyB, Bool.and_eq_true]
  exact ⟨⟨⟨h1, by rw [free_eq]; exact h2⟩, h5⟩, h6⟩
def takeT (T : Bool × List (List Nat × List Nat)) (ds : List Nat) (l l' : List Bool) (i : Nat) : Bool := T.1 && freeT T.2 l i && readyAt T.2 l i && closedT T.2 l && lastT T.2 l ds i && (l.set i true == l')
theorem take_of (hT : rtab md ops = T) (h : takeT T ds l.toList l'.toList i = true) : takeB md ops ds l l' i = true := by
  simp only [takeT, Bool.and_eq_true] at h
  obtain ⟨⟨⟨⟨⟨h1, h2⟩, h3⟩, h4⟩, h5⟩, h6⟩ := h
  have h7 := readyAt_mem h3 hT
  have h8 := set_of h6
  subst hT
  simp only [takeB, Bool.and_eq_true]
  exact ⟨⟨⟨⟨⟨h1, by rw [free_eq]; exact h2⟩, h7⟩, by rw [closed_eq]; exact h4⟩, by rw [last_eq]; exact h5⟩, h8⟩
theorem one_of (hT : rtab md ops = T) (h : (readyT T.2 l.toList == [i] && l.toList.set i true == l'.toList) = true) : readyB md ops l l' i = true := by
  simp only [Bool.and_eq_true] at h
  obtain ⟨h1, h2⟩ := h
  subst hT
  simp only [readyB, Bool.and_eq_true]
  exact ⟨by rw [ready_eq]; exact h1, set_of h2⟩
theorem two_of (hT : rtab md ops = T) (h : (readyT T.2 l.toList == [i, j] && l.toList.set i true == li.toList && l.toList.set j true == lj.toList) = true) : (Region.ready md ops l == [i, j] && l.setIfInBounds i true == li && l.setIfInBounds j true == lj) = true := by
  simp only [Bool.and_eq_true] at h ⊢
  obtain ⟨⟨h1, h2⟩, h3⟩ := h
  subst hT
  exact ⟨⟨by rw [ready_eq]; exact h1, set_of h2⟩, set_of h3⟩
theorem three_of (hT : rtab md ops = T) (h : (readyT T.2 l.toList == [i, j, k] && l.toList.set i true == li.toList && l.toList.set j true == lj.toList && l.toList.set k true == lk.toList) = true) :
    (Region.ready md ops l == [i, j, k] && l.setIfInBounds i true == li && l.setIfInBounds j true == lj && l.setIfInBounds k true == lk) = true := by
  simp only [Bool.and_eq_true] at h ⊢
  obtain ⟨⟨⟨h1, h2⟩, h3⟩, h4⟩ := h
  subst hT
  exact ⟨⟨⟨by rw [ready_eq]; exact h1, set_of h2⟩, set_of h3⟩, set_of h4⟩
theorem done_of (hT : rtab md ops = T) (h : (readyT T.2 l.toList == []) = true) : (Region.ready md ops l == []) = true := by
  subst hT
  rw [ready_eq]
  exact h
def upM (B : List Nat) (d : Nat) : List Nat → Nat
  | [] => 0
  | n :: r => (2 ^ n ||| (if n < d then B.getD n 0 else 0)) ||| upM B d r
def waitsOk (T : List (List Nat × List Nat)) (B : List Nat) : Bool := (List.range T.length).all fun d => match T[d]? with
  | some r => (B.getD d 0 ||| upM B d r.1) == upM B d r.1
  | none => false
theorem upM_bit {B : List Nat} {d i : Nat} : ∀ {ns : List Nat}, (upM B d ns).testBit i = true → ∃ n ∈ ns, n = i ∨ (n < d ∧ (B.getD n 0).testBit i = true)
  | [], h => by simp [upM] at h
  | n :: r, h => by
    unfold upM at h
    rw [Nat.testBit_or, Nat.testBit_or, Bool.or_eq_true, Bool.or_eq_true] at h
    rcases h with (h | h) | h
    · rw [Nat.testBit_two_pow] at h
      exact ⟨n, List.mem_cons_self, .inl (by simpa using h)⟩
    · by_cases hn : n < d
      · rw [if_pos hn] at h
        exact ⟨n, List.mem_cons_self, .inr ⟨hn, h⟩⟩
      · rw [if_neg hn] at h
        simp at h
    · obtain ⟨m, hm, h2⟩ := upM_bit h
      exact ⟨m, List.mem_cons_of_mem _ hm, h2⟩
theorem reach_bit {T : List (List Nat × List Nat)} {B : List Nat} (hB : waitsOk T B = true) : ∀ (fuel d : Nat), d < fuel → d < T.length → (B.getD d 0).testBit i = true → reachT T i fuel d = true
  | 0, d, h, _, _ => by omega
  | fuel + 1, d, h, hd, hb => by
    have h1 := List.all_eq_true.1 hB d (List.mem_range.2 hd)
    cases hr : T[d]? with
    | none => rw [hr] at h1; simp at h1
    | some r =>
      rw [hr] at h1
      simp only [beq_iff_eq] at h1
      have h2 : (upM B d r.1).testBit i = true := by rw [← h1, Nat.testBit_or, hb, Bool.true_or]
      obtain ⟨n, hn, h3⟩ := upM_bit h2
      unfold reachT
      rw [hr]
      simp only
      rw [List.any_eq_true]
      refine ⟨n, hn, ?_⟩
      rcases h3 with rfl | ⟨h4, h5⟩
      · simp
      · rw [reach_bit hB fuel n (by omega) (by omega) h5, Bool.or_true]
def lastW (T : List (List Nat × List Nat)) (B : List Nat) (l : List Bool) (ds : List Nat) (i : Nat) : Bool := ds.all fun d => l.getD d true || (decide (d < T.length) && (B.getD d 0).testBit i)
def takeW (T : Bool × List (List Nat × List Nat)) (B : List Nat) (ds : List Nat) (l l' : List Bool) (i : Nat) : Bool := T.1 && freeT T.2 l i && readyAt T.2 l i && closedT T.2 l && lastW T.2 B l ds i && (l.set i true == l')
theorem take_ofW {B : List Nat} (hT : rtab md ops = T) (hB : waitsOk T.2 B = true) (h : takeW T B ds l.toList l'.toList i = true) : takeB md ops ds l l' i = true := by
  refine take_of hT ?_
  simp only [takeW, takeT, Bool.and_eq_true] at h ⊢
  obtain ⟨⟨⟨⟨⟨h1, h2⟩, h3⟩, h4⟩, h5⟩, h6⟩ := h
  refine ⟨⟨⟨⟨⟨h1, h2⟩, h3⟩, h4⟩, ?_⟩, h6⟩
  unfold lastW at h5
  unfold lastT
  rw [List.all_eq_true] at h5 ⊢
  intro d hd
  have h7 := h5 d hd
  rw [Bool.or_eq_true, Bool.and_eq_true, decide_eq_true_eq] at h7
  rcases h7 with h7 | ⟨h8, h9⟩
  · rw [h7, Bool.true_or]
  · rw [reach_bit hB _ d h8 h8 h9, Bool.or_true]
theorem with_tabW {P : Program} {Q : Exit → Act → World → Prop} {S : World → Prop} {n : Nat} {a : Act} {w : World} {B : List Nat} (hT : rtab md ops = T) (hB : waitsOk T.2 B = true) (h : Aside0 (rtab md ops = T) → Aside0 (waitsOk T.2 B = true) → wpAnyLast P md ops Q S ds n l a w) : wpAnyLast P md ops Q S ds n l a w := h ⟨hT⟩ ⟨hB⟩
end
def opsIn : Code → Nat → Option (Array Oper)
  | .region id ops _, k => if id == k then some ops else none
  | .seq a b, k => match opsIn a k with
    | some o => some o
    | none => opsIn b k
  | .cond _ a b, k => match opsIn a k with
    | some o => some o
    | none => opsIn b k
  | .block _ c, k => opsIn c k
  | .loop c, k => opsIn c k
  | .scope c, k => opsIn c k
  | .rangeFunc _ _ a b, k => match opsIn a k with
    | some o => some o
    | none => opsIn b k
  | _, _ => none
def opsOf (f : Func) (k : Nat) : Array Oper := ((f.body.bind fun c => opsIn c k)).getD #[]
end Go.Proofs.YteejcpbngnojkaaW.PrintLast
end
section
namespace Go.Proofs.YteejcpbngnojkaaW.PrintLast
section
variable {P : Program} {ops : Array Oper} {Q : Exit → Act → World → Prop} {md : Region.Mode} {S : World → Prop} {ds : List Nat} {T : Bool × List (List Nat × List Nat)}
end
end Go.Proofs.YteejcpbngnojkaaW.PrintLast
end
section
namespace Go.Proofs.YteejcpbngnojkaaW.PrintWords
open Go.RowKit
namespace Kd
section
variable {α : Type} {d : Kd α} {e base g o n cap : Nat} {ok okp : Nat → Prop} {w W : World} {v : Value} {xs : List α}
end
section
variable {α : Type} {enc : α → Value} {h1 : ∀ x, (enc x).oneCell' = true} {e base g o n cap : Nat} {ok : Nat → Prop} {W : World} {xs : List α}
end
end Kd
end Go.Proofs.YteejcpbngnojkaaW.PrintWords
end
section
namespace Go.Proofs.YteejcpbngnojkaaW.PrintWords
open Go.RowKit
namespace Kd
def bare {α : Type} (d : Kd α) : Kd α where
  sz := d.sz
  E := d.E
  K := d.K
  M := fun w base _ x cs => d.M w base (fun _ => False) x cs
  K_len := fun h => d.K_len h
  K_one := fun h => d.K_one h
  K_below := fun hb h => d.K_below hb h
  K_of_M := fun h => d.K_of_M h
  M_mono := fun _ h => h
  M_bound := fun h => h
  M_move := fun _ h => d.M_move (fun _ hk => hk.elim) h
  M_lower := fun hb h => d.M_lower hb h
section
variable {α β : Type} {d : Kd α} {d' : Kd β} {e e' : Nat} {w w1 W : World} {base b : Nat} {ok ok' okv oku : Nat → Prop} {u v : Value} {xs : List α} {ys : List β}
theorem R_tight (hE : d.E = []) (h : d.R e w base ok v xs) : d.R e w base (fun k => some k = v.ownBlock) v xs := by
  obtain ⟨h0, inner, ho, hr⟩ := h
  refine ⟨fun k hk => hk.symm, inner, ho, hr.imp_ (fun p c hp => d.M_mono (fun k hk => ?_) (d.M_bound hp))⟩
  obtain ⟨_, _, _, q, hq, _⟩ := hk
  rw [hE] at hq
  cases hq
end
section
variable {α β : Type} {d : Kd α} {d' : Kd β} {e e' g : Nat} {w w1 W : World} {base b : Nat} {ok ok' okv oku : Nat → Prop} {u v : Value} {xs : List α} {ys : List β}
end
section
variable {P : Program} {ops : Array Oper} {rest : List Oper} {o : Oper} {a : Act} {Q : Exit → Act → World → Prop} {Kc : Act → World → Prop} {α : Type}
end
def gap {α : Type} (f : Nat → Nat) (d : Kd α) (i : Nat) (c : List Value) : Kd (α × Nat) where
  sz := d.sz
  E := d.E
  K := fun w x cs => (x.2 = i → cs = c ∧ cs.length = d.sz ∧ ∀ u ∈ cs, u.oneCell' = true) ∧ (x.2 ≠ i → d.K w x.1 cs)
  M := fun w base ok x cs => (x.2 = i → cs = c ∧ cs.length = d.sz ∧ ∀ u ∈ cs, u.oneCell' = true) ∧ (x.2 ≠ i → d.M w base (fun k => ok k ∧ f k = x.2) x.1 cs)
  K_len := fun {w x cs} h => by
    by_cases hx : x.2 = i
    · exact (h.1 hx).2.1
    · exact d.K_len (h.2 hx)
  K_one := fun {w x cs} h => by
    by_cases hx : x.2 = i
    · exact (h.1 hx).2.2
    · exact d.K_one (h.2 hx)
  K_below := fun hb h => ⟨h.1, fun hx => d.K_below hb (h.2 hx)⟩
  K_of_M := fun h => ⟨h.1, fun hx => d.K_of_M (h.2 hx)⟩
  M_mono := fun hok h => ⟨h.1, fun hx => d.M_mono (fun k hk => ⟨hok k hk.1, hk.2⟩) (h.2 hx)⟩
  M_bound := fun h => ⟨h.1, fun hx => d.M_mono (fun _ hk => ⟨⟨hk.1.1, hk.2⟩, hk.1.2⟩) (d.M_bound (h.2 hx))⟩
  M_move := fun hm h => ⟨h.1, fun hx => d.M_move (fun k hk => hm k hk.1) (h.2 hx)⟩
  M_lower := fun hb h => ⟨h.1, fun hx => d.M_lower hb (h.2 hx)⟩
def H {α : Type} (d : Kd α) (e : Nat) (w : World) (base : Nat) (ok : Nat → Prop) (v : Value) (xs : List α) (i : Int) (oki : Nat → Prop) (c : List Value) : Prop :=
  (∀ k, oki k → ok k) ∧ ∃ f, (gap f d i.toNat c).R e w base (fun k => ok k ∧ ¬ oki k) v xs.zipIdx
section
variable {α β : Type} {d : Kd α} {e e' g n cap : Nat} {w w1 W : World} {base : Nat} {ok ok' oki okp : Nat → Prop} {u v : Value} {xs : List α} {i : Int} {c : List Value}
end
section
variable {P : Program} {ops : Array Oper} {rest : List Oper} {o : Oper} {a : Act} {Q : Exit → Act → World → Prop} {α : Type}
end
end Kd
end Go.Proofs.YteejcpbngnojkaaW.PrintWords
end
section
namespace Go.Proofs.YteejcpbngnojkaaW.PrintWords
open Go.RowKit
namespace Kd
section
variable {α : Type} {n : Nat} {d : Kd α} {hs : 0 < d.sz} {w : World} {base : Nat} {ok : Nat → Prop} {xs : List α} {cs : List Value}
end
section
variable {α : Type} {n : Nat} {enc : α → Value} {h1 : ∀ x, (enc x).oneCell' = true} {hs : 0 < (scalar enc h1).sz} {w : World} {base : Nat} {ok : Nat → Prop} {xs : List α} {cs : List Value}
end
end Kd
end Go.Proofs.YteejcpbngnojkaaW.PrintWords
end
section
namespace Go.Proofs.YteejcpbngnojkaaW.PrintWords
open Go.RowKit
section
variable {P : Program}
end
namespace Kd
section
variable {P : Program} {ops : Array Oper} {rest : List Oper} {o : Oper} {a : Act} {Q : Exit → Act → World → Prop} {Kc : Act → World → Prop} {α : Type}
end
section
variable {α : Type} {d : Kd α} {e : Nat} {w : World} {base : Nat} {ok : Nat → Prop} {v : Value} {xs : List α}
end
section
variable {P : Program} {ops : Array Oper} {rest : List Oper} {o : Oper} {a : Act} {Q : Exit → Act → World → Prop} {Kc : Act → World → Prop} {α : Type}
end
end Kd
end Go.Proofs.YteejcpbngnojkaaW.PrintWords
end
section
namespace Go.Proofs.YteejcpbngnojkaaW.PrintWords
open Go.RowKit
namespace Kd
structure Heap {α : Type} (d : Kd α) : Prop where
  K : ∀ {w w1 : World} {x : α} {cs : List Value}, (∀ k, k < w.heap.size → w1.heap[k]? = w.heap[k]?) → d.K w x cs → d.K w1 x cs
theorem cell_heap {w w1 : World} (hb : ∀ k, k < w.heap.size → w1.heap[k]? = w.heap[k]?) {a : Addr} {v : Value} (h : w.cell? a = some v) : w1.cell? a = some v := by
  have := hb a.block (World.block_lt_of_cell? w a h)
  simpa [World.cell?, this] using h
theorem Heap.C {α : Type} {d : Kd α} (hd : Heap d) {w w1 : World} {A : Option Addr} {n : Nat} {xs : List α} (hb : ∀ k, k < w.heap.size → w1.heap[k]? = w.heap[k]?) (h : d.C w A n xs) : d.C w1 A n xs :=
  ⟨h.1, h.2.1, fun hn => by
    obtain ⟨ad, e, hc⟩ := h.2.2 hn
    refine ⟨ad, e, fun j p hj => ?_⟩
    obtain ⟨c, hs, hr, hcell⟩ := hc j p hj
    exact ⟨c, hs, hd.K hb hr, fun i u hu => cell_heap hb (hcell i u hu)⟩⟩
section
variable {α : Type} {d : Kd α} {e base g n c : Nat} {ok : Nat → Prop} {w w0 W : World} {A : Option Addr} {xs : List α}
end
end Kd
end Go.Proofs.YteejcpbngnojkaaW.PrintWords
end
section
namespace Go.Proofs.YteejcpbngnojkaaW.PrintWords
open Go.RowKit
def Kept (w W : World) (S : Nat → Prop) : Prop := w.heap.size ≤ W.heap.size ∧ ∀ i, i < w.heap.size → ¬ S i → W.heap[i]? = w.heap[i]?
section
variable {w W W2 : World} {S S2 S' : Nat → Prop}
theorem Kept.refl (w : World) (S : Nat → Prop) : Kept w w S := ⟨Nat.le_refl _, fun _ _ _ => rfl⟩
theorem Kept.mono (h : Kept w W S) (hs : ∀ k, S k → S' k) : Kept w W S' := ⟨h.1, fun i hi hn => h.2 i hi (fun hk => hn (hs i hk))⟩
theorem Kept.then_ (h : Kept w W S) (k : Kept W W2 S2) (hs : ∀ k, S2 k → S k ∨ w.heap.size ≤ k) : Kept w W2 S :=
  ⟨Nat.le_trans h.1 k.1, fun i hi hn => (k.2 i (Nat.lt_of_lt_of_le hi h.1) (fun h2 => (hs i h2).elim hn (fun h3 => by omega))).trans (h.2 i hi hn)⟩
theorem Kept.of_grown {row : Option Nat} (hg : W.grownBy W2 row) (h : Kept w W S) (hr : ∀ k, row = some k → S k ∨ w.heap.size ≤ k) : Kept w W2 S :=
  h.then_ (S2 := fun k => row = some k) ⟨hg.size, fun i hi hn => hg.block i hi (fun he => hn he.symm)⟩ hr
theorem Kept.drewN (h : Kept w W S) (m : Nat) : Kept w (W.drewN m) S := h
theorem Kept.setCell (h : Kept w W S) {p : Addr} (hp : S p.block ∨ w.heap.size ≤ p.block) (u : Value) : Kept w (W.setCell p u) S :=
  h.then_ (S2 := fun k => k = p.block) ⟨by simp [World.setCell], fun i _ hn => Below.heap_setCell W p u i hn⟩ (fun k hk => by rw [hk]; exact hp)
theorem blk_kept {g : Nat} {o : Obj} (hb : W.heap[g]? = some o) (hk : Kept W W2 S) (hne : ¬ S g) : W2.heap[g]? = some o := (hk.2 g (blk_lt hb) hne).trans hb
end
namespace Kd
section
variable {α : Type} {d : Kd α} {e base n c : Nat} {ok oki S S2 : Nat → Prop} {w w0 W W1 W2 : World} {v : Value} {A : Option Addr} {xs : List α} {i : Int} {cs : List Value}
theorem R_kept (h : d.R e W base ok v xs) (hk : Kept W W2 S) (hne : ∀ k, ok k → ¬ S k) : d.R e W2 base ok v xs := R_step h (fun k ho hlt => hk.2 k hlt (hne k ho))
theorem C_kept_call (h : ∀ W', Kept w W' S → d.C W' A n xs) (hk : Kept w W S) (hs : ∀ k, S2 k → S k ∨ w.heap.size ≤ k) : ∀ W', Kept W W' S2 → d.C W' A n xs := fun W' hk' => h W' (hk.then_ hk' hs)
theorem C_kept_now (h : ∀ W', Kept w W' S → d.C W' A n xs) (hk : Kept w W S) : d.C W A n xs := h W hk
end
end Kd
end Go.Proofs.YteejcpbngnojkaaW.PrintWords
end
section
namespace Go.Proofs.YteejcpbngnojkaaW.PrintWords
open Go.RowKit
def Foot (P : World → Prop) (W : World) (ok : Nat → Prop) : Prop := ∀ W' : World, (∀ k, ok k → k < W.heap.size → W'.heap[k]? = W.heap[k]?) → P W'
theorem heap_lt {W W1 : World} {k : Nat} (h : W1.heap[k]? = W.heap[k]?) (hlt : k < W.heap.size) : k < W1.heap.size := by
  rw [Array.getElem?_eq_getElem hlt] at h
  exact (Array.getElem?_eq_some_iff.1 h).1
namespace Foot
variable {P Q : World → Prop} {W W1 : World} {ok ok' : Nat → Prop}
theorem now (h : Foot P W ok) : P W := h W (fun _ _ _ => rfl)
theorem mono (h : Foot P W ok) (hok : ∀ k, ok k → ok' k) : Foot P W ok' := fun W' hW => h W' (fun k hk hlt => hW k (hok k hk) hlt)
theorem bound (h : Foot P W ok) : Foot P W (fun k => ok k ∧ k < W.heap.size) := fun W' hW => h W' (fun k hk hlt => hW k ⟨hk, hlt⟩ hlt)
theorem step (h : Foot P W ok) (hm : ∀ k, ok k → k < W.heap.size → W1.heap[k]? = W.heap[k]?) : Foot P W1 ok := fun W' hW => h W' (fun k hk hlt => (hW k hk (heap_lt (hm k hk hlt) hlt)).trans (hm k hk hlt))
theorem imp (h : Foot P W ok) (hi : ∀ W', P W' → Q W') : Foot Q W ok := fun W' hW => hi W' (h W' hW)
theorem old (h : Foot P W ok) (hb : Below W.heap.size W W1) : Foot P W1 (fun k => ok k ∧ k < W.heap.size) := (h.bound).step (fun k _ hlt => hb.block k hlt)
end Foot
namespace Kd
def F {α : Type} (d : Kd α) (W : World) (ok : Nat → Prop) (A : Option Addr) (n : Nat) (xs : List α) : Prop := Foot (fun W => d.C W A n xs) W ok
section
variable {α β : Type} {d : Kd α} {e base n n' cc g N : Nat} {ok ok' okp S : Nat → Prop} {w w0 w1 W W1 : World} {A A' : Option Addr} {u v v1 : Value} {xs : List α} {xs' : List β} {d' : Kd β} {x : α} {c : List Value}
theorem F_now (h : F d W ok A n xs) : d.C W A n xs := Foot.now h
theorem F_mono (h : F d W ok A n xs) (hok : ∀ k, ok k → ok' k) : F d W ok' A n xs := Foot.mono h hok
theorem F_bound (h : F d W ok A n xs) : F d W (fun k => ok k ∧ k < W.heap.size) A n xs := Foot.bound h
theorem F_step (h : F d W ok A n xs) (hm : ∀ k, ok k → k < W.heap.size → W1.heap[k]? = W.heap[k]?) : F d W1 ok A n xs := Foot.step h hm
theorem F_imp (h : F d W ok A n xs) (hi : ∀ W', d.C W' A n xs → d'.C W' A' n' xs') : F d' W ok A' n' xs' := Foot.imp h hi
theorem F_below (h : F d W ok A n xs) (hb : Below W.heap.size W W1) : F d W1 ok A n xs := F_step h (fun k _ hlt => hb.block k hlt)
theorem F_alloc (h : F d W ok A n xs) (o : Obj) : F d (W.alloc o) ok A n xs := F_below h (below_alloc (Below.refl _ _) o)
theorem F_drew (h : F d W ok A n xs) : F d W.drew ok A n xs := F_below h (below_drew (Below.refl _ _))
theorem F_grown (h : F d W ok A n xs) {row : Option Nat} (hg : W.grownBy W1 row) (hok : ∀ k, ok k → some k ≠ row) : F d W1 ok A n xs := F_step h (fun k hk hlt => hg.block k hlt (hok k hk))
theorem F_far (h : F d W ok A n xs) {p : Addr} (hok : ∀ k, ok k → k ≠ p.block) (u : Value) : F d (W.setCell p u) ok A n xs := F_step h (fun k hk _ => Below.heap_setCell W p u k (hok k hk))
theorem F_kept (h : F d W ok A n xs) (hk : Kept W W1 S) (hok : ∀ k, ok k → ¬ S k) : F d W1 ok A n xs := F_step h (fun k ho hlt => hk.2 k hlt (hok k ho))
theorem F_nil (d : Kd α) (W : World) (ok : Nat → Prop) : F d W ok none ([] : List α).length [] := fun W' _ => C_nil d W'
theorem F_elder' (h : F d W ok A n xs) (hbase : ∀ k, v.ownBlock = some k → W.heap.size ≤ k) (hb : Below W.heap.size W W1) : F d W1 (fun k => ok k ∧ some k ≠ v.ownBlock) A n xs :=
  F_mono (Foot.old h hb) (fun k hk => ⟨hk.1, fun he => by have := hbase k he.symm; have := hk.2; omega⟩)
theorem F_elderB (h : F d W ok A n xs) (a : Nat) (ha : W.heap.size ≤ a) : F d W (fun k => ok k ∧ k ≠ a) A n xs := F_mono (F_bound h) (fun k hk => ⟨hk.1, by have := hk.2; omega⟩)
theorem R_F (h : d.R e W base ok (.slice A n cc) xs) : F d W ok A n xs := fun W' hW => by
  have h2 := R_reads' (R_step h hW)
  rw [h2.1]
  exact h2.2.2
end
end Kd
end Go.Proofs.YteejcpbngnojkaaW.PrintWords
end
section
namespace Go.Proofs.YteejcpbngnojkaaW.PrintWords
open Go.RowKit
namespace Kd
section
variable {α : Type} {d : Kd α} {e base n cc g : Nat} {ok ok' okp S : Nat → Prop} {w w1 W W1 : World} {A : Option Addr} {u v v1 : Value} {xs : List α} {x : α} {c : List Value}
end
end Kd
end Go.Proofs.YteejcpbngnojkaaW.PrintWords
end
section
namespace Go.Proofs.YteejcpbngnojkaaW.PrintWords
open Go.RowKit
namespace Kd
section
variable {α : Type} {d : Kd α} {W : World} {g n : Nat} {S ok : Nat → Prop} {A : Option Addr} {ad : Addr} {xs : List α}
end
end Kd
end Go.Proofs.YteejcpbngnojkaaW.PrintWords
end
section
namespace Go.Proofs.YteejcpbngnojkaaW.PrintWords
open Go.RowKit
section
variable {w w' u : World} {m B g : Nat} {o : Obj} {row : Option Nat} {S : Nat → Prop} {a : Addr} {v : Value}
end
namespace Kd
section
variable {α : Type} {d : Kd α} {e base n m : Nat} {ok : Nat → Prop} {w w' : World} {v : Value} {A : Option Addr} {xs : List α}
end
end Kd
end Go.Proofs.YteejcpbngnojkaaW.PrintWords
end
section
namespace Go.Proofs.YteejcpbngnojkaaW.PrintWords
open Go.RowKit
section
variable {P : Program} {d : Nat} {xs ys : Array Value} {f : Field} {fs : List Field} {a b : Value} {r s : Bool} {w : World}
end
end Go.Proofs.YteejcpbngnojkaaW.PrintWords
end
section
namespace Go.Proofs.YteejcpbngnojkaaW.PrintWords
theorem Reps.one {α : Type} {R : α → List Value → Prop} {ps : List α} {cs : List Value} {p : α} {v : Value} (hp : R p [v]) (h : Reps R 1 ps cs) : Reps R 1 (p :: ps) (v :: cs) := by
  refine ⟨by simp [h.1], fun j q hq => ?_⟩
  cases j with
  | zero =>
    simp only [List.getElem?_cons_zero, Option.some.injEq] at hq
    subst hq
    simpa using hp
  | succ j =>
    simp only [List.getElem?_cons_succ] at hq
    have h1 := h.2 j q hq
    simpa [Nat.mul_one] using h1
theorem Reps.front {α : Type} {R : α → List Value → Prop} {size : Nat} {ps : List α} {cs c all : List Value} {p : α} (hp : R p c) (hc : c.length = size) (h : Reps R size ps cs) (ha : c ++ cs = all) : Reps R size (p :: ps) all := by
  subst ha
  refine ⟨by rw [List.length_append, hc, h.1, List.length_cons, Nat.succ_mul, Nat.add_comm], fun j q hq => ?_⟩
  cases j with
  | zero =>
    simp only [List.getElem?_cons_zero, Option.some.injEq] at hq
    subst hq
    rw [Nat.zero_mul, List.drop_zero, List.take_append_of_le_length (by omega), List.take_of_length_le (by omega)]
    exact hp
  | succ j =>
    simp only [List.getElem?_cons_succ] at hq
    have h1 := h.2 j q hq
    rw [Nat.succ_mul, List.drop_append, List.drop_of_length_le (by rw [hc]; exact Nat.le_add_left _ _), List.nil_append, hc, Nat.add_sub_cancel]
    exact h1
theorem Reps.c2 {α : Type} {R : α → List Value → Prop} {ps : List α} {cs : List Value} {p : α} {va vb : Value} (hp : R p [va, vb]) (h : Reps R 2 ps cs) : Reps R 2 (p :: ps) (va :: vb :: cs) := Reps.front hp rfl h rfl
theorem Reps.c3 {α : Type} {R : α → List Value → Prop} {ps : List α} {cs : List Value} {p : α} {va vb vc : Value} (hp : R p [va, vb, vc]) (h : Reps R 3 ps cs) : Reps R 3 (p :: ps) (va :: vb :: vc :: cs) := Reps.front hp rfl h rfl
theorem Reps.c4 {α : Type} {R : α → List Value → Prop} {ps : List α} {cs : List Value} {p : α} {va vb vc vd : Value} (hp : R p [va, vb, vc, vd]) (h : Reps R 4 ps cs) : Reps R 4 (p :: ps) (va :: vb :: vc :: vd :: cs) := Reps.front hp rfl h rfl
theorem Reps.c5 {α : Type} {R : α → List Value → Prop} {ps : List α} {cs : List Value} {p : α} {va vb vc vd ve : Value} (hp : R p [va, vb, vc, vd, ve]) (h : Reps R 5 ps cs) : Reps R 5 (p :: ps) (va :: vb :: vc :: vd :: ve :: cs) := Reps.front hp rfl h rfl
theorem Reps.c6 {α : Type} {R : α → List Value → Prop} {ps : List α} {cs : List Value} {p : α} {va vb vc vd ve vf : Value} (hp : R p [va, vb, vc, vd, ve, vf]) (h : Reps R 6 ps cs) : Reps R 6 (p :: ps) (va :: vb :: vc :: vd :: ve :: vf :: cs) := Reps.front hp rfl h rfl
theorem Reps.c7 {α : Type} {R : α → List Value → Prop} {ps : List α} {cs : List Value} {p : α} {va vb vc vd ve vf vg : Value} (hp : R p [va, vb, vc, vd, ve, vf, vg]) (h : Reps R 7 ps cs) : Reps R 7 (p :: ps) (va :: vb :: vc :: vd :: ve :: vf :: vg :: cs) := Reps.front hp rfl h rfl
theorem Reps.c8 {α : Type} {R : α → List Value → Prop} {ps : List α} {cs : List Value} {p : α} {va vb vc vd ve vf vg vh : Value} (hp : R p [va, vb, vc, vd, ve, vf, vg, vh]) (h : Reps R 8 ps cs) : Reps R 8 (p :: ps) (va :: vb :: vc :: vd :: ve :: vf :: vg :: vh :: cs) := Reps.front hp rfl h rfl
theorem Reps.c9 {α : Type} {R : α → List Value → Prop} {ps : List α} {cs : List Value} {p : α} {va vb vc vd ve vf vg vh vi : Value} (hp : R p [va, vb, vc, vd, ve, vf, vg, vh, vi]) (h : Reps R 9 ps cs) : Reps R 9 (p :: ps) (va :: vb :: vc :: vd :: ve :: vf :: vg :: vh :: vi :: cs) := Reps.front hp rfl h rfl
theorem Reps.c10 {α : Type} {R : α → List Value → Prop} {ps : List α} {cs : List Value} {p : α} {va vb vc vd ve vf vg vh vi vj : Value} (hp : R p [va, vb, vc, vd, ve, vf, vg, vh, vi, vj]) (h : Reps R 10 ps cs) : Reps R 10 (p :: ps) (va :: vb :: vc :: vd :: ve :: vf :: vg :: vh :: vi :: vj :: cs) := Reps.front hp rfl h rfl
end Go.Proofs.YteejcpbngnojkaaW.PrintWords
end
section
namespace Go.Proofs.YteejcpbngnojkaaW.PrintLast
section
variable {P : Program} {ops : Array Oper} {Q : Exit → Act → World → Prop} {md : Region.Mode} {T : Bool × List (List Nat × List Nat)} {B : List Nat} {O : List Nat} {b : Nat → Bool} {i j n : Nat}
end
end Go.Proofs.YteejcpbngnojkaaW.PrintLast
end
section
namespace Go.Proofs.YteejcpbngnojkaaW.PrintWords
open Go.RowKit
end Go.Proofs.YteejcpbngnojkaaW.PrintWords
namespace Go.Proofs.YteejcpbngnojkaaW.PrintLast
section
variable {ops : Array Oper} {a : Act} {o og : Oper} {g : Nat} {t : Tmp} {u : Bool}
end
end Go.Proofs.YteejcpbngnojkaaW.PrintLast
end
section
namespace Go.Proofs.YteejcpbngnojkaaW.PrintWords
open Go.RowKit
section
variable {P : Program} {ops : Array Oper} {rest : List Oper} {o : Oper} {a : Act} {Q : Exit → Act → World → Prop} {W : World}
theorem gate_guard (hw : Region.wanted o (yielded ops a.tmps) = true) (h : wpList P ops Q ({ o with guard := none } :: rest) a W) : wpList P ops Q (o :: rest) a W := by
  have h1 : Region.wanted { o with guard := none } (yielded ops a.tmps) = true := rfl
  unfold wpList at h ⊢
  rw [if_pos h1] at h
  rw [if_pos hw]
  exact h
end
end Go.Proofs.YteejcpbngnojkaaW.PrintWords
end
section
namespace Go.Proofs.YteejcpbngnojkaaW.PrintWords
open Go.RowKit
namespace Kd
section
variable {α : Type} {d : Kd α} {e base n cap g : Nat} {ok ok' okp : Nat → Prop} {w w1 W : World} {v v1 : Value} {xs ys : List α}
end
section
variable {P : Program} {ops : Array Oper} {rest : List Oper} {o : Oper} {a : Act} {Q : Exit → Act → World → Prop} {Kc : Act → World → Prop} {α : Type}
end
end Kd
end Go.Proofs.YteejcpbngnojkaaW.PrintWords
end
section
namespace Go.Proofs.YteejcpbngnojkaaW.PrintMore
open Go.RowKit Go.Proofs.YteejcpbngnojkaaW.PrintWords
namespace Kd
open Go.Proofs.YteejcpbngnojkaaW.PrintWords.Kd
end Kd
namespace Kd
open Go.Proofs.YteejcpbngnojkaaW.PrintWords.Kd
section
variable {α : Type} {d : Kd α} {e base g N : Nat} {ok : Nat → Prop} {W w1 : World} {u v : Value} {xs : List α}
end
end Kd
theorem max2_int (k k' : IntKind) (x y : Int) : Builtin.max2 (.int k x) (.int k' y) = pure (.int k (if x < y then y else x)) := by simp only [Builtin.max2, gt_iff_lt]
theorem min2_int (k k' : IntKind) (x y : Int) : Builtin.min2 (.int k x) (.int k' y) = pure (.int k (if y < x then y else x)) := by simp only [Builtin.min2]
theorem max_two (ats : Array TypeId) (ty : TypeId) (a b : Value) : Builtin.max_ ats ty #[a, b] = (Builtin.max2 a b >>= fun s => pure s) := by simp only [Builtin.max_, List.foldlM_cons, List.foldlM_nil]
theorem min_two (ats : Array TypeId) (ty : TypeId) (a b : Value) : Builtin.min_ ats ty #[a, b] = (Builtin.min2 a b >>= fun s => pure s) := by simp only [Builtin.min_, List.foldlM_cons, List.foldlM_nil]
theorem max_three (ats : Array TypeId) (ty : TypeId) (a b c : Value) : Builtin.max_ ats ty #[a, b, c] = (Builtin.max2 a b >>= fun s => Builtin.max2 s c >>= fun s => pure s) := by simp only [Builtin.max_, List.foldlM_cons, List.foldlM_nil]
theorem min_three (ats : Array TypeId) (ty : TypeId) (a b c : Value) : Builtin.min_ ats ty #[a, b, c] = (Builtin.min2 a b >>= fun s => Builtin.min2 s c >>= fun s => pure s) := by simp only [Builtin.min_, List.foldlM_cons, List.foldlM_nil]
theorem max_four (ats : Array TypeId) (ty : TypeId) (a b c d : Value) : Builtin.max_ ats ty #[a, b, c, d] = (Builtin.max2 a b >>= fun s => Builtin.max2 s c >>= fun s => Builtin.max2 s d >>= fun s => pure s) := by simp only [Builtin.max_, List.foldlM_cons, List.foldlM_nil]
theorem min_four (ats : Array TypeId) (ty : TypeId) (a b c d : Value) : Builtin.min_ ats ty #[a, b, c, d] = (Builtin.min2 a b >>= fun s => Builtin.min2 s c >>= fun s => Builtin.min2 s d >>= fun s => pure s) := by simp only [Builtin.min_, List.foldlM_cons, List.foldlM_nil]
end Go.Proofs.YteejcpbngnojkaaW.PrintMore
namespace Go.Proofs.YteejcpbngnojkaaW.PrintWords
open Go.RowKit
section
variable {P : Program} {ops : Array Oper} {rest : List Oper} {o : Oper} {a : Act} {Q : Exit → Act → World → Prop} {W : World}
theorem gate_callee {f : FuncId} {as_ : Array Operand} {ts : Array TypeId} (_ho : o.op = .call { callee := .value (.func f), args := as_, argTypes := ts }) (h : wpList P ops Q (o :: rest) a W) : wpList P ops Q (o :: rest) a W := h
theorem gate_builtin {b : Builtin} {xs : Array Operand} {ts : Array TypeId} (_ho : o.op = .call { callee := .builtin b, args := xs, argTypes := ts }) (h : wpList P ops Q (o :: rest) a W) : wpList P ops Q (o :: rest) a W := h
end
def mn (a b : Int) : Int := if b < a then b else a
def shl (k : IntKind) (x y : Int) : Int := k.wrap (x * 2 ^ min y.toNat k.bits)
def shr (k : IntKind) (x y : Int) : Int := x / 2 ^ min y.toNat k.bits
theorem shl_small {k : IntKind} {x y j : Int} (h : shl k x y = j) (hy : y ≤ k.bits) : k.wrap (x * 2 ^ y.toNat) = j := by rw [← h]; unfold shl; rw [Nat.min_eq_left (by omega)]
theorem shr_small {k : IntKind} {x y j : Int} (h : shr k x y = j) (hy : y ≤ k.bits) : x / 2 ^ y.toNat = j := by rw [← h]; unfold shr; rw [Nat.min_eq_left (by omega)]
theorem drewN_self (w : World) (n : Nat) : w.drewN n = w.drewN n := rfl
namespace Kd
section
variable {α : Type} {d : Kd α} {e base : Nat} {ok : Nat → Prop} {W w1 : World} {v : Value} {xs : List α}
end
section
variable {α : Type} {d : Kd α} {e base g n cap : Nat} {ok oki okp : Nat → Prop} {W : World} {xs : List α} {i : Int} {c : List Value}
end
section
variable {α : Type} {d : Kd α} {e base b b' g N : Nat} {ok ok1 : Nat → Prop} {W W2 w1 : World} {u v : Value} {xs ys : List α} {S : Nat → Prop}
theorem R_reok (hE : d.E = []) (h : d.R e W base ok1 v xs) (hok : ∀ k, v.ownBlock = some k → ok k) : d.R e W base ok v xs := R_mono (R_tight hE h) (fun k hk => hok k hk.symm)
theorem R_keptB (h : d.R e W base ok v xs) (hk : Kept W W2 S) (hne : ∀ k, ok k → ¬ S k) : d.R e W2 base (fun k => ok k ∧ (¬ S k ∧ k < W.heap.size)) v xs :=
  R_kept (R_mono (R_bound h) (fun k hk => ⟨hk.1, hne k hk.1, hk.2.2.1⟩)) hk (fun _ hk => hk.2.1)
end
end Kd
end Go.Proofs.YteejcpbngnojkaaW.PrintWords
namespace Go.Proofs.YteejcpbngnojkaaW.PrintWords
open Go.RowKit
namespace Kd
def V {α : Type} (d : Kd α) (_e : Nat) (W : World) (_base : Nat) (ok : Nat → Prop) (v : Value) (xs : List α) : Prop := ∃ A c, v = .slice A xs.length c ∧ xs.length ≤ c ∧ F d W ok A xs.length xs
section
variable {α β : Type} {d : Kd α} {e base base' n m c g N' lo hi : Nat} {ok ok' S : Nat → Prop} {w W w1 : World} {A : Option Addr} {ad : Addr} {u v v1 : Value} {xs : List α}
theorem V_map (h : V d e W base ok v xs) (hF : ∀ A, F d W ok A xs.length xs → F d w1 ok' A xs.length xs) : V d e w1 base' ok' v xs := by
  obtain ⟨A, c, hv, hl, hf⟩ := h
  exact ⟨A, c, hv, hl, hF A hf⟩
theorem V_mk (hl : xs.length ≤ c) (hf : F d W ok A xs.length xs) : V d e W base ok (.slice A xs.length c) xs := ⟨A, c, rfl, hl, hf⟩
theorem V_slice (h : V d e W base ok v xs) : ∃ A c, v = .slice A xs.length c := by
  obtain ⟨A, c, hv, _⟩ := h
  exact ⟨A, c, hv⟩
theorem V_at (h : V d e W base ok (.slice A n c) xs) : n = xs.length ∧ n ≤ c ∧ F d W ok A xs.length xs := by
  obtain ⟨A', c', hv, hl, hf⟩ := h
  injection hv with ha hn hc
  subst ha; subst hc
  exact ⟨hn, by rw [hn]; exact hl, hf⟩
theorem V_reads' (h : V d e W base ok (.slice A n c) xs) : n = xs.length ∧ n ≤ c ∧ d.C W A xs.length xs := ⟨(V_at h).1, (V_at h).2.1, F_now (V_at h).2.2⟩
theorem V_nil (d : Kd α) (e : Nat) (W : World) (base : Nat) (ok : Nat → Prop) : V d e W base ok (.slice none 0 0) [] := ⟨none, 0, rfl, Nat.le_refl _, F_nil d W ok⟩
theorem R_V (h : d.R e W base ok v xs) : V d e W base' ok v xs := by
  obtain ⟨A, c, rfl⟩ := R_slice h
  exact ⟨A, c, rfl, (R_reads' h).2.1, R_F h⟩
theorem V_mono (h : V d e W base ok v xs) (hok : ∀ k, ok k → ok' k) : V d e W base ok' v xs := V_map h (fun _ hf => F_mono hf hok)
theorem V_bound (h : V d e W base ok v xs) : V d e W base (fun k => ok k ∧ k < W.heap.size) v xs := V_map h (fun _ hf => F_bound hf)
theorem V_lower (h : V d e W base ok v xs) (_ : base' ≤ base) : V d e W base' ok v xs := h
theorem V_below (h : V d e W base ok v xs) (hb : Below W.heap.size W w1) : V d e w1 base ok v xs := V_map h (fun _ hf => F_below hf hb)
theorem V_alloc (h : V d e W base ok v xs) (o : Obj) : V d e (W.alloc o) base ok v xs := V_map h (fun _ hf => F_alloc hf o)
theorem V_drew (h : V d e W base ok v xs) : V d e W.drew base ok v xs := V_map h (fun _ hf => F_drew hf)
theorem V_grown (h : V d e W base ok v xs) {row : Option Nat} (hg : W.grownBy w1 row) (hok : ∀ k, ok k → some k ≠ row) : V d e w1 base ok v xs := V_map h (fun _ hf => F_grown hf hg hok)
theorem V_far (h : V d e W base ok v xs) {p : Addr} (hok : ∀ k, ok k → k ≠ p.block) (u : Value) : V d e (W.setCell p u) base ok v xs := V_map h (fun _ hf => F_far hf hok u)
theorem V_kept (h : V d e W base ok v xs) (hk : Kept W w1 S) (hok : ∀ k, ok k → ¬ S k) : V d e w1 base ok v xs := V_map h (fun _ hf => F_kept hf hk hok)
theorem V_elder' (h : V d e W base ok v xs) (hbase : ∀ k, u.ownBlock = some k → W.heap.size ≤ k) (hb : Below W.heap.size W w1) : V d e w1 base (fun k => ok k ∧ some k ≠ u.ownBlock) v xs := V_map h (fun _ hf => F_elder' hf hbase hb)
theorem V_elderB (h : V d e W base ok v xs) (a : Nat) (ha : W.heap.size ≤ a) : V d e W base (fun k => ok k ∧ k ≠ a) v xs := V_map h (fun _ hf => F_elderB hf a ha)
theorem F_take (h : F d W ok A xs.length xs) (hm : m ≤ xs.length) : F d W ok A (xs.take m).length (xs.take m) := F_imp h (fun _ hC => C_take hC hm)
theorem C_kept_ownV (h : V d e W base ok (.slice A n c) xs) (hok : ∀ k, ok k → ¬ S k) : ∀ W', Kept W W' S → d.C W' A n xs := fun W' hk => by
  have h2 := V_reads' (V_kept h hk hok)
  rw [h2.1]
  exact h2.2.2
theorem R_newM {M : Nat → Prop} (h : d.R e w1 W.heap.size ok v xs) (hle : w.heap.size ≤ W.heap.size) (hM : ∀ k, w.heap.size ≤ k → M k) : d.R e w1 W.heap.size (fun k => M k ∧ ok k) v xs := R_mono (R_bound h) (fun k hk => ⟨hM k (Nat.le_trans hle hk.2.1), hk.1⟩)
end
end Kd
end Go.Proofs.YteejcpbngnojkaaW.PrintWords
end
section
namespace Go.Proofs.Yteejcpbngnojkaa.P
open Go.RowKit Go.Proofs.YteejcpbngnojkaaW.PrintWords Go.Proofs.YteejcpbngnojkaaW.PrintLast Go.Proofs.YteejcpbngnojkaaW.PrintMore
attribute [local go_sem] max2_int min2_int max_two min_two max_three min_three max_four min_four
set_option linter.unusedVariables false
set_option linter.unusedSimpArgs false
def errW : Option Int → Value
 |none => .nilIface
 |some c => .iface 0 (.int .i64 c)
theorem errW_none : errW none = .nilIface:=rfl
theorem errW_some (c : Int) : errW (some c) = .iface 0 (.int .i64 c):=rfl
theorem info4 : (Try.prog.info? 4).map (fun i => (i.zero,i.size,i.bytes)) = some (some (.bool false),1,1):=by kernel_rfl
theorem info5 : (Try.prog.info? 5).map (fun i => (i.zero,i.size,i.bytes)) = some (some (.int .u8 0),1,1):=by kernel_rfl
theorem info23 : (Try.prog.info? 23).map (fun i => (i.zero,i.size,i.bytes)) = some (some (.int .u32 0),1,4):=by kernel_rfl
structure S38 where
 f0 : (List Int)
structure S96 where
 f0 : Int
 f1 : Int
 f2 : (List Int)
structure S105 where
 f0 : S38
 f1 : S38
 f2 : (List S38)
structure S108 where
 f0 : (List Bool)
 f1 : (List Bool)
 f2 : (List (List Bool))
end Go.Proofs.Yteejcpbngnojkaa.P
end
section
namespace Go.Proofs.Yteejcpbngnojkaa.P
open Go.RowKit Go.Proofs.YteejcpbngnojkaaW.PrintWords Go.Proofs.YteejcpbngnojkaaW.PrintLast Go.Proofs.YteejcpbngnojkaaW.PrintMore
section
variable {α : Type} {d : Kd α} {e base : Nat} {ok : Nat → Prop} {v u : Value} {xs : List α} {w w0 w1 w2 : World}
theorem qVm {ok' : Nat → Prop} (h : Aside0 (Kd.V d e w base ok v xs)) (hm : ∀ k, ok k → ok' k := by first | (with_reducible exact fun _ h => h) | ((try simp only [and_imp]); intros; (repeat' apply And.intro) <;> first | assumption | exact trivial)) (ha : Kd.V d e w base ok v xs → Kd.V d e w1 base ok v xs := by intro h_; (with_reducible repeat (first | exact h_ | apply Kd.V_alloc | apply Kd.V_drewN | apply Kd.V_drew | refine Kd.V_far ?_ (by (try simp only [and_imp]); intros; assumption) _)); try exact h_) : Kd.V d e w1 base ok' v xs := Kd.V_mono (ha h.out) hm
theorem qVh (hw : w2 = w1) (h : Aside0 (Kd.V d e w base ok v xs)) (ha : Kd.V d e w base ok v xs → Kd.V d e w1 base ok v xs := by intro h_; (with_reducible repeat (first | exact h_ | apply Kd.V_alloc | apply Kd.V_drewN | apply Kd.V_drew | refine Kd.V_far ?_ (by (try simp only [and_imp]); intros; assumption) _)); try exact h_) : Aside0 (Kd.V d e w2 base ok v xs) := ⟨hw ▸ ha h.out⟩
theorem qRm {ok' : Nat → Prop} (h : Aside0 (Kd.R d e w base ok v xs)) (hm : ∀ k, ok k → ok' k := by first | (with_reducible exact fun _ h => h) | ((try simp only [and_imp]); intros; (repeat' apply And.intro) <;> first | assumption | exact trivial)) (ha : Kd.R d e w base ok v xs → Kd.R d e w1 base ok v xs := by intro h_; (with_reducible repeat (first | exact h_ | apply Kd.R_alloc | apply Kd.R_drewN | apply Kd.R_drew | refine Kd.R_far ?_ (by (try simp only [and_imp]); intros; assumption) _)); try exact h_) : Kd.R d e w1 base ok' v xs := Kd.R_mono (ha h.out) hm
theorem blk_put1 {g : Nat} {t : TypeId} {c u : Value} (h : w.heap[g]? = some (.cells #[c] t (0, 0))) : (w.setCell ⟨g, 0, none⟩ u).heap[g]? = some (.cells #[u] t (0, 0)) := blk_put h 0 u rfl
theorem qB {g : Nat} {o : Obj} (h : w.heap[g]? = some o) (ha : w.heap[g]? = some o → w1.heap[g]? = some o := by intro h_; (with_reducible repeat (first | refine blk_drewN ?_ _ | refine blk_drew ?_ | refine blk_alloc ?_ _)); exact h_) : w1.heap[g]? = some o := ha h
theorem qS (h : Aside0 (Below w0.heap.size w0 w)) (ha : Below w0.heap.size w0 w → Below w0.heap.size w0 w1 := by intro h_; repeat (first | (with_reducible first | exact h_ | apply below_alloc | apply pw_below_drewN | apply below_drew1 | refine below_set ?_ (Aside0.out (by assumption))) | exact h_)) : Below w0.heap.size w0 w1 := ha h.out
theorem qb {g : Nat} {o : Obj} (h : Aside0 (w.heap[g]? = some o)) (hb : Below w1.heap.size w1 w2) (ha : w.heap[g]? = some o → w1.heap[g]? = some o := by intro h_; (with_reducible repeat (first | exact h_ | refine blk_drewN ?_ _ | refine blk_drew ?_ | refine blk_alloc ?_ _ | refine blk_far ?_ (Aside0.out (by assumption)) _)); try exact h_) : Aside0 (w2.heap[g]? = some o) := ⟨blk_below (ha h.out) hb⟩
theorem qBh {g : Nat} {o : Obj} (hw : w2 = w1) (h : Aside0 (w.heap[g]? = some o)) (ha : w.heap[g]? = some o → w1.heap[g]? = some o := by intro h_; (with_reducible repeat (first | exact h_ | refine blk_drewN ?_ _ | refine blk_drew ?_ | refine blk_alloc ?_ _ | refine blk_far ?_ (Aside0.out (by assumption)) _)); try exact h_) : Aside0 (w2.heap[g]? = some o) := ⟨hw ▸ ha h.out⟩
theorem qBp {g : Nat} {c u : Value} {t : TypeId} (hw : w2 = w1) (h : Aside0 (w.heap[g]? = some (.cells #[c] t (0, 0)))) (ha : w.heap[g]? = some (.cells #[c] t (0, 0)) → w1.heap[g]? = some (.cells #[u] t (0, 0)) := by intro h_; (with_reducible repeat (first | exact h_ | refine blk_drewN ?_ _ | refine blk_drew ?_ | refine blk_alloc ?_ _ | refine blk_far ?_ (Aside0.out (by assumption)) _ | apply blk_put1)); try exact h_) : Aside0 (w2.heap[g]? = some (.cells #[u] t (0, 0))) := ⟨hw ▸ ha h.out⟩
theorem qSh (hw : w2 = w1) (h : Aside0 (Below w0.heap.size w0 w)) (ha : Below w0.heap.size w0 w → Below w0.heap.size w0 w1 := by intro h_; repeat (first | (with_reducible first | exact h_ | apply below_alloc | apply pw_below_drewN | apply below_drew1 | refine below_set ?_ (Aside0.out (by assumption))) | exact h_)) : Aside0 (Below w0.heap.size w0 w2) := ⟨hw ▸ ha h.out⟩
theorem qVb (h : Aside0 (Kd.V d e w base ok v xs)) (hb : Below w1.heap.size w1 w2) (ha : Kd.V d e w base ok v xs → Kd.V d e w1 base ok v xs := by intro h_; (with_reducible repeat (first | exact h_ | apply Kd.V_alloc | apply Kd.V_drewN | apply Kd.V_drew | refine Kd.V_far ?_ (by (try simp only [and_imp]); intros; assumption) _)); try exact h_) : Aside0 (Kd.V d e w2 base ok v xs) := ⟨Kd.V_below (ha h.out) hb⟩
theorem qRb (h : Aside0 (Kd.R d e w base ok v xs)) (hb : Below w1.heap.size w1 w2) (ha : Kd.R d e w base ok v xs → Kd.R d e w1 base ok v xs := by intro h_; (with_reducible repeat (first | exact h_ | apply Kd.R_alloc | apply Kd.R_drewN | apply Kd.R_drew | refine Kd.R_far ?_ (by (try simp only [and_imp]); intros; assumption) _)); try exact h_) : Aside0 (Kd.R d e w2 base ok v xs) := ⟨Kd.R_below (ha h.out) hb⟩
theorem qVe {a : Nat} (h : Aside0 (Kd.V d e w base ok v xs)) (hb : Below w1.heap.size w1 w2) (hg : a = w1.heap.size) (ha : Kd.V d e w base ok v xs → Kd.V d e w1 base ok v xs := by intro h_; (with_reducible repeat (first | apply Kd.V_alloc | apply Kd.V_drewN | apply Kd.V_drew)); exact h_) : Aside0 (Kd.V d e w2 base (fun k => ok k ∧ k ≠ a) v xs) := ⟨Kd.V_below (Kd.V_elderB (ha h.out) a (Nat.le_of_eq hg.symm)) hb⟩
theorem qRd {β : Type} {d' : Kd β} {e' : Nat} {ok' : Nat → Prop} {ys : List β} (h : Aside0 (Kd.R d e w base ok v xs)) (ho : Kd.R d' e' w2 w1.heap.size ok' u ys) (hb : Below w1.heap.size w1 w2) (ha : Kd.R d e w base ok v xs → Kd.R d e w1 base ok v xs := by intro h_; (with_reducible repeat (first | apply Kd.R_alloc | apply Kd.R_drewN | apply Kd.R_drew)); exact h_) : Aside0 (Kd.R d e w2 base (fun k => ok k ∧ some k ≠ u.ownBlock) v xs) := ⟨Kd.R_elder' (ha h.out) (Kd.R_base ho) hb⟩
theorem qVd {β : Type} {d' : Kd β} {e' : Nat} {ok' : Nat → Prop} {ys : List β} (h : Aside0 (Kd.V d e w base ok v xs)) (ho : Kd.R d' e' w2 w1.heap.size ok' u ys) (hb : Below w1.heap.size w1 w2) (ha : Kd.V d e w base ok v xs → Kd.V d e w1 base ok v xs := by intro h_; (with_reducible repeat (first | apply Kd.V_alloc | apply Kd.V_drewN | apply Kd.V_drew)); exact h_) : Aside0 (Kd.V d e w2 base (fun k => ok k ∧ some k ≠ u.ownBlock) v xs) := ⟨Kd.V_elder' (ha h.out) (Kd.R_base ho) hb⟩
theorem qs (h : Aside0 (Below w0.heap.size w0 w)) (hb : Below w1.heap.size w1 w2) (ha : Below w0.heap.size w0 w → Below w0.heap.size w0 w1 := by intro h_; repeat (first | (with_reducible first | exact h_ | apply below_alloc | apply pw_below_drewN | apply below_drew1 | refine below_set ?_ (Aside0.out (by assumption))) | exact h_)) : Aside0 (Below w0.heap.size w0 w2) := ⟨below_step (ha h.out) hb⟩
theorem qbd {g : Nat} {o : Obj} (h : Aside0 (w.heap[g]? = some o)) : Aside0 (w.drew.heap[g]? = some o) := ⟨blk_drew h.out⟩
theorem qsd {b : Nat} (h : Aside0 (Below b w0 w)) : Aside0 (Below b w0 w.drew) := ⟨below_drew1 h.out⟩
theorem qVw (h : Aside0 (Kd.V d e w base ok v xs)) : Aside0 (Kd.V d e w.drew base ok v xs) := ⟨Kd.V_drew h.out⟩
theorem qRw (h : Aside0 (Kd.R d e w base ok v xs)) : Aside0 (Kd.R d e w.drew base ok v xs) := ⟨Kd.R_drew h.out⟩
theorem ql {g a : Nat} {o : Obj} (hg : a = w1.heap.size) (h : Aside0 (w.heap[g]? = some o)) (ha : w.heap[g]? = some o → w1.heap[g]? = some o := by intro h_; (with_reducible repeat (first | refine blk_drewN ?_ _ | refine blk_drew ?_ | refine blk_alloc ?_ _)); exact h_) : Aside0 (g ≠ a) := ⟨by rw [hg]; exact Nat.ne_of_lt (blk_lt (ha h.out))⟩
theorem qg {g a : Nat} {o : Obj} (hg : a = w1.heap.size) (h : Aside0 (w.heap[g]? = some o)) (ha : w.heap[g]? = some o → w1.heap[g]? = some o := by intro h_; (with_reducible repeat (first | refine blk_drewN ?_ _ | refine blk_drew ?_ | refine blk_alloc ?_ _)); exact h_) : Aside0 (a ≠ g) := ⟨by rw [hg]; exact Nat.ne_of_gt (blk_lt (ha h.out))⟩
theorem qh {a : Nat} (hg : a = w1.heap.size) (h : Aside0 (Below w0.heap.size w0 w)) (ha : Below w0.heap.size w0 w → Below w0.heap.size w0 w1 := by intro h_; repeat (first | (with_reducible first | exact h_ | apply below_alloc | apply pw_below_drewN | apply below_drew1 | refine below_set ?_ (Aside0.out (by assumption))) | exact h_)) : Aside0 (w0.heap.size ≤ a) := ⟨by rw [hg]; exact below_size (ha h.out)⟩
theorem qCB {A : Option Addr} {n : Nat} (h : Aside0 (Kd.C d w A n xs)) (hb : Aside0 (Below w.heap.size w w1)) (ha : Kd.C d w1 A n xs → Kd.C d w2 A n xs := by intro h_; repeat (first | exact h_ | (with_reducible refine Kd.C_alloc ?_ _) | (with_reducible refine Kd.C_drewN ?_ _) | (with_reducible refine Kd.C_drew ?_))) : Kd.C d w2 A n xs := ha (Kd.C_below h.out hb.out)
theorem qCV {A : Option Addr} {n c : Nat} (h : Aside0 (Kd.V d e w base ok (.slice A n c) xs)) (ha : Kd.C d w A xs.length xs → Kd.C d w1 A xs.length xs := by intro h_; repeat (first | exact h_ | (with_reducible refine Kd.C_alloc ?_ _) | (with_reducible refine Kd.C_drewN ?_ _) | (with_reducible refine Kd.C_drew ?_))) : Kd.C d w1 A xs.length xs := ha (Kd.V_reads' h.out).2.2
theorem qCR {A : Option Addr} {n c : Nat} (h : Aside0 (Kd.R d e w base ok (.slice A n c) xs)) (ha : Kd.C d w A xs.length xs → Kd.C d w1 A xs.length xs := by intro h_; repeat (first | exact h_ | (with_reducible refine Kd.C_alloc ?_ _) | (with_reducible refine Kd.C_drewN ?_ _) | (with_reducible refine Kd.C_drew ?_))) : Kd.C d w1 A xs.length xs := ha (Kd.R_reads' h.out).2.2
end
theorem od {p : Prop} [Decidable p] (h : decide p = true := by first | (with_reducible assumption) | assumption) : p := of_decide_eq_true h
theorem qH {α β : Type} {x : Option α} {f : α → Option β} {b : β} (h : x.bind f = some b) : ∃ a, Aside0 (x = some a) ∧ f a = some b := by
  obtain ⟨a, h1, h2⟩ := Option.bind_eq_some_iff.mp h
  exact ⟨a, ⟨h1⟩, h2⟩
theorem qFT {α : Type} {a b : α} : (if false = true then a else b) = b := if_neg (show ¬ (false = true) by decide)
section
variable {P : Program} {ops : Array Oper} {Q : Exit → Act → World → Prop} {md : Region.Mode} {S : World → Prop} {ds : List Nat} {T : Bool × List (List Nat × List Nat)} {B : List Nat} {oi : Oper} {v : Value} {fuel : Nat} {l l' : Array Bool} {a a' : Act} {w : World}
theorem qP (i n : Nat) (hT : Aside0 (rtab md ops = T)) (h : wpAnyLast P md ops Q S ds fuel l' a' w) (hi : ops[i]? = some oi := by exact rfl) (hN : oi.dst = some n := by rfl) (_hl : l.setIfInBounds i true = l' := by (simp only [List.setIfInBounds_toArray, List.set_cons_zero, List.set_cons_succ]; rfl)) (hc : anyT T l.toList l'.toList i = true := by kernel_rfl) (hQ : ∀ c a w, Q (.panic c) (a.put oi.dst v) w → Q (.panic c) a w := by exact fun _ _ _ h => h) (hw : Region.wanted oi (yielded ops a.tmps) = true := by rfl) (hy : ∀ w, (execOp a.eval oi).run P w = .ok (.value v) w := by intro w'; go_simp; with_reducible rfl) (ha : a.put (some n) v = a' := by (simp only [Act.put, List.setIfInBounds_toArray, List.set_cons_zero, List.set_cons_succ, i64_w, i32_w]; rfl)) : wpAnyLast P md ops Q S ds (fuel + 1) l a w :=
  pure_ l' hi hN (any_of hT.out hc) hQ (Or.inl ⟨hw, hy⟩) ha h
theorem qT (i n : Nat) (hT : Aside0 (rtab md ops = T)) (hB : Aside0 (waitsOk T.2 B = true)) (hS : S w) (h : wpAnyLast P md ops Q S ds fuel l' a' w) (hi : ops[i]? = some oi := by exact rfl) (hN : oi.dst = some n := by rfl) (_hl : l.setIfInBounds i true = l' := by (simp only [List.setIfInBounds_toArray, List.set_cons_zero, List.set_cons_succ]; rfl)) (hc : takeW T B ds l.toList l'.toList i = true := by kernel_rfl) (hQ : ∀ c a w, Q (.panic c) (a.put oi.dst v) w → Q (.panic c) a w := by exact fun _ _ _ h => h) (hw : Region.wanted oi (yielded ops a.tmps) = true := by rfl) (hy : ∀ w, S w → (execOp a.eval oi).run P w = .ok (.value v) w := by intro w' h_; (repeat (have s_ := And.left h_; replace h_ := And.right h_)); go_simp; with_reducible rfl) (ha : a.put (some n) v = a' := by (simp only [Act.put, List.setIfInBounds_toArray, List.set_cons_zero, List.set_cons_succ, i64_w, i32_w]; rfl)) : wpAnyLast P md ops Q S ds (fuel + 1) l a w :=
  take_ l' hi hN (take_ofW hT.out hB.out hc) hQ (Or.inl ⟨hw, hy⟩) hS ha h
theorem qU (i n : Nat) (hT : Aside0 (rtab md ops = T)) (h : wpAnyLast P md ops Q S ds fuel l' a' w) (hi : ops[i]? = some oi := by exact rfl) (hN : oi.dst = some n := by rfl) (_hl : l.setIfInBounds i true = l' := by (simp only [List.setIfInBounds_toArray, List.set_cons_zero, List.set_cons_succ]; rfl)) (hc : anyT T l.toList l'.toList i = true := by kernel_rfl) (hQ : ∀ c a w, Q (.panic c) (a.put oi.dst undef) w → Q (.panic c) a w := by exact fun _ _ _ h => h) (hw : Region.wanted oi (yielded ops a.tmps) = false := by rfl) (ha : a.put (some n) undef = a' := by (simp only [Act.put, List.setIfInBounds_toArray, List.set_cons_zero, List.set_cons_succ, i64_w, i32_w]; rfl)) : wpAnyLast P md ops Q S ds (fuel + 1) l a w :=
  pure_ l' hi hN (any_of hT.out hc) hQ (Or.inr ⟨hw, rfl⟩) ha h
theorem q1 (i : Nat) (N : Option Tmp) (hT : Aside0 (rtab md ops = T)) (hi : ops[i]? = some oi) (h : ∀ K : Act → World → Prop, Shut (∀ a' w', S w' → (S w' → wpAnyLast P md ops Q S ds fuel l' a' w') → K a' w') → if Region.wanted oi (yielded ops a.tmps) = true then Oper.wp P oi a w K Q else K (a.put N undef) w) (hN : oi.dst = N := by rfl) (_hl : l.setIfInBounds i true = l' := by (simp only [List.setIfInBounds_toArray, List.set_cons_zero, List.set_cons_succ]; rfl)) (hc : (readyT T.2 l.toList == [i] && l.toList.set i true == l'.toList) = true := by kernel_rfl) (hd : i ∉ ds := by decide) : wpAnyLast P md ops Q S ds (fuel + 1) l a w :=
  one_ l' hi hN (one_of hT.out hc) hd h
theorem q2 (i j : Nat) (Ni Nj : Option Tmp) (hT : Aside0 (rtab md ops = T)) {oj : Oper} {lj : Array Bool} (hi : ops[i]? = some oi) (hj : ops[j]? = some oj) (h1 : ∀ K : Act → World → Prop, Shut (∀ a' w', S w' → (S w' → wpAnyLast P md ops Q S ds fuel l' a' w') → K a' w') → if Region.wanted oi (yielded ops a.tmps) = true then Oper.wp P oi a w K Q else K (a.put Ni undef) w)
    (h2 : ∀ K : Act → World → Prop, Shut (∀ a' w', S w' → (S w' → wpAnyLast P md ops Q S ds fuel lj a' w') → K a' w') → if Region.wanted oj (yielded ops a.tmps) = true then Oper.wp P oj a w K Q else K (a.put Nj undef) w) (hNi : oi.dst = Ni := by rfl) (hNj : oj.dst = Nj := by rfl) (_hl : l.setIfInBounds i true = l' := by (simp only [List.setIfInBounds_toArray, List.set_cons_zero, List.set_cons_succ]; rfl)) (_hlj : l.setIfInBounds j true = lj := by (simp only [List.setIfInBounds_toArray, List.set_cons_zero, List.set_cons_succ]; rfl))
    (hc : (readyT T.2 l.toList == [i, j] && l.toList.set i true == l'.toList && l.toList.set j true == lj.toList) = true := by kernel_rfl) (hdi : i ∉ ds := by decide) (hdj : j ∉ ds := by decide) : wpAnyLast P md ops Q S ds (fuel + 1) l a w :=
  two_ l' lj hi hj hNi hNj (two_of hT.out hc) hdi hdj h1 h2
theorem qD (hT : Aside0 (rtab md ops = T)) {n : Nat} (h : Q .normal a w) (hr : (readyT T.2 l.toList == []) = true := by kernel_rfl) : wpAnyLast P md ops Q S ds n l a w := done_ (done_of hT.out hr) h
theorem qO (n : Tmp) {a0 : Act} (h : wpAnyLast P md ops Q S ds fuel l a' w) (hs : a = a0.put (some n) v := by exact rfl) (ha : a0.put (some n) v = a' := by (simp only [Act.put, List.setIfInBounds_toArray, List.set_cons_zero, List.set_cons_succ, i64_w, i32_w]; rfl)) : wpAnyLast P md ops Q S ds fuel l a w := norm_ (hs.trans ha) h
end
section
variable {P : Program} {ops : Array Oper} {Q : Exit → Act → World → Prop} {rest : List Oper} {oi : Oper} {a : Act} {w : World}
theorem gL (N : Option Tmp) {f : FuncId} {fn : Func} {as_ : Array Operand} {ts : Array TypeId} (hf : P.funcs[f]? = some fn) (args : Array Value) (h : Calls P f args w fun e w' => ∃ v, e = .returned v ∧ wpList P ops Q rest (a.put N v) w') (hd : oi.dst = N := by rfl) (hg : oi.guard = none := by rfl) (hname : (fn.name == "runtime.NumGoroutine") = false := by kernel_rfl) (hb : fn.body.isSome = true := by rfl)
    (hop : oi.op = .call { callee := .value (.func f), args := as_, argTypes := ts } := by rfl) (hargs : as_.map a.eval = args := by (try simp only [List.map_toArray, List.map_cons, List.map_nil]); first | done | rfl | (simp only [List.length_drop, List.length_take]; rfl)) : wpList P ops Q (oi :: rest) a w := goesL_ N hd hg hf hname hb args hop hargs h
theorem g_ {N : Option Tmp} {K : Act → World → Prop} {f : FuncId} {fn : Func} {as_ : Array Operand} {ts : Array TypeId} (hf : P.funcs[f]? = some fn) (args : Array Value) (h : Calls P f args w fun e w' => ∃ v, e = .returned v ∧ K (a.put N v) w') (hname : (fn.name == "runtime.NumGoroutine") = false := by kernel_rfl) (hb : fn.body.isSome = true := by rfl)
    (hw : Region.wanted oi (yielded ops a.tmps) = true := by rfl) (hN : oi.dst = N := by rfl) (hop : oi.op = .call { callee := .value (.func f), args := as_, argTypes := ts } := by rfl) (hargs : as_.map a.eval = args := by (try simp only [List.map_toArray, List.map_cons, List.map_nil]); first | done | rfl | (simp only [List.length_drop, List.length_take]; rfl)) : if Region.wanted oi (yielded ops a.tmps) = true then Oper.wp P oi a w K Q else K (a.put N undef) w := goes_ hf hname hb args hw hN hop hargs h
theorem qX (cs : Array Value) (t : TypeId) {N : Tmp} (h : ∀ g, g = w.heap.size → ∀ w1, w1.heap[g]? = some (.cells cs t (0, 0)) → Below w.heap.size w w1 → wpList P ops Q rest (a.put oi.dst (.pointer (some ⟨g, 0, none⟩))) w1) (_hd : oi.dst = some N := by rfl) (hgd : oi.guard = none := by rfl)
    (hrun : (execOp a.eval oi).run P w = .ok (.value (.pointer (some ⟨w.heap.size, 0, none⟩))) (w.alloc (.cells cs t (0, 0))) := by first | (go_simp; done) | (go_simp; rfl)) : wpList P ops Q (oi :: rest) a w := box_event hgd _hd hrun h
theorem qSt {t : TypeId} {p : Tmp} {v : Operand} (w1 : World) (h : ∀ w', w' = w1 → wpList P ops Q rest a w') (ho : oi.op = .store t (.tmp p) v := by rfl) (hgd : oi.guard = none := by rfl) (hN : oi.dst = none := by rfl) (hrun : (execOp a.eval oi).run P w = .ok .skip w1 := by first | (go_simp; done) | (go_simp; rfl)) : wpList P ops Q (oi :: rest) a w := store_event hgd ho hN hrun h
end
theorem bc {w : World} {g : Nat} {t : TypeId} {cs : Array Value} {v : Value} (h : Aside0 (w.heap[g]? = some (.cells cs t (0, 0)))) (hv : cs[0]? = some v := by rfl) : w.cell? ⟨g, 0, none⟩ = some v := (blk_cell h.out 0).trans hv
theorem bz {w : World} {g : Nat} {t : TypeId} {cs : Array Value} (h : Aside0 (w.heap[g]? = some (.cells cs t (0, 0)))) : w.frozen? ⟨g, 0, none⟩ = false := blk_frozen h.out 0
theorem qL {α : Type} {d : Kd α} {e base : Nat} {ok : Nat → Prop} {xs : List α} {w : World} {A : Option Addr} {n c : Nat} (h : Aside0 (Kd.V d e w base ok (.slice A n c) xs)) : n ≤ c := (Kd.V_reads' h.out).2.1
theorem qLR {α : Type} {d : Kd α} {e base : Nat} {ok : Nat → Prop} {xs : List α} {w : World} {A : Option Addr} {n c : Nat} (h : Aside0 (Kd.R d e w base ok (.slice A n c) xs)) : n ≤ c := (Kd.R_reads' h.out).2.1
end Go.Proofs.Yteejcpbngnojkaa.P
end
section
namespace Go.Proofs.Yteejcpbngnojkaa.P
open Go.RowKit Go.Shelf Go.Proofs.YteejcpbngnojkaaW.PrintWords
attribute [local go_sem] Oper.semAt_some
def wat (l : List Int) (j : Nat) : Int := l[j]?.getD 0
def back (N k : Nat) : List (Fin N) := (List.finRange N).reverse.take k
theorem back_length {N k : Nat} (h : k ≤ N) : (back N k).length = k := by simp [back]; omega
theorem back_succ {N k : Nat} (h : k < N) : back N (k + 1) = back N k ++ [⟨N - 1 - k, by omega⟩] := by
  unfold back
  rw [List.take_succ_eq_append_getElem (by simpa using h)]
  simp
def Kb (n₀ Bs : Nat) (W W' : World) : Prop := Below n₀ W W' ∧ ∀ v, W.cell? ⟨Bs, 0, none⟩ = some v → W'.cell? ⟨Bs, 0, none⟩ = some v
theorem Kb.refl (n₀ Bs : Nat) (W : World) : Kb n₀ Bs W W := ⟨Below.refl _ _, fun _ h => h⟩
theorem Kb.trans {n₀ Bs : Nat} {A B C : World} (h : Kb n₀ Bs A B) (k : Kb n₀ Bs B C) : Kb n₀ Bs A C := ⟨h.1.trans k.1, fun v e => k.2 v (h.2 v e)⟩
theorem Kb.put {n₀ Bs : Nat} {w : World} (hn : n₀ ≤ w.heap.size) (W : World) (l : Nat) (o o' : Obj) (hl : w.heap.size ≤ l) (h : W.heap[l]? = some o) (hc : o.isCells = false) (hw : o.isWalk = false) : Kb n₀ Bs W (W.putObj l o') :=
  ⟨belowK_b hn W l o o' hl h hc hw, fun v e => cell_kept e (grownBy_putObj' W l o') (fun r e => by cases e; exact ⟨o, h, hc⟩)⟩
set_option maxRecDepth 100000 in
set_option maxHeartbeats 2000000 in
theorem back1_in (F : Fence) (n : Nat) (h8 : F.fn 129) (hro : F.round = none) (hn : 1 ≤ n) (l Bs n₀ b off cap : Nat) (zs : List Int) (hreach : zs.length ≤ 9223372036854775807) (hb : b < n₀) (J Jx : List (Fin zs.length) → World → Prop)
    (hY : ∀ pre x W, J pre W → pre.length < zs.length → YieldAt F (n - 1) Try.prog l #[.int .i64 (x.1 : Int), .int .u32 (wat zs x.1)] W fun e W' =>
      (e = .returned (.bool true) ∧ J (pre ++ [x]) W' ∧ Kb n₀ Bs W W') ∨ (e = .returned (.bool false) ∧ Jx (pre ++ [x]) W'))
    (W : World) (hBs : W.cell? ⟨Bs, 0, none⟩ = some (.slice (some ⟨b, off, none⟩) zs.length cap)) (hc : ∀ j, j < zs.length → W.cell? ⟨b, off + j, none⟩ = some (.int .u32 (wat zs j))) (h0 : J [] W) :
    CallsIn F n Try.prog 129 #[.func (.yield l) #[] #[], .pointer (some ⟨Bs, 0, none⟩)] W fun e W' => (∃ v, e = .returned v) ∧
      ((∃ ys, ys = back zs.length zs.length ∧ J ys W') ∨ (∃ pre, (∃ k, k ≤ zs.length ∧ pre = back zs.length k) ∧ Jx pre W')) := by
  refine callsIn_of_wp Try.func129 rfl h8 ?_ hro
  simp only [Try.ntmps129, List.size_toArray, List.length_cons, List.length_nil, Nat.reduceAdd, Nat.reduceSub, Array.replicate_succ, Array.replicate_zero, List.push_toArray, List.append_toArray, List.nil_append, List.cons_append]
  gi_wp2
  gi_loopw [3] (fun i wr => ∃ m : Nat, m ≤ zs.length ∧ i = .int .i64 ((m : Int) - 1) ∧ J (back zs.length (zs.length - m)) wr ∧ Kb n₀ Bs W wr)
    (fun i _ => (intOf i + 1).toNat)
  case atStart =>
    refine ⟨zs.length, Nat.le_refl _, ?_, by rw [Nat.sub_self]; exact h0, Kb.refl _ _ _⟩
    rfl
  case round =>
    obtain ⟨m, hm, rfl, hJs, hnx⟩ := hrel
    have hBr := hnx.2 _ hBs
    cases m with
    | zero =>
      gi_wp2
      go_end0
      exact ⟨⟨_, rfl⟩, .inl ⟨_, rfl, hJs⟩⟩
    | succ k =>
      have hk1 : (((k + 1 : Nat) : Int) - 1) = (k : Int) := by omega
      simp only [hk1]
      have hcx : wr.cell? ⟨b, off + k, none⟩ = some (.int .u32 (wat zs k)) := (hnx.1.cell (p := ⟨b, off + k, none⟩) hb).trans (hc k (by omega))
      obtain ⟨fn, tmps, assign, body, hy, hR⟩ := hY _ ⟨k, by omega⟩ wr hJs (by rw [back_length (by omega)]; omega)
      dsimp only at hy
      clear hk1
      gi_wp2
      have hbs : back zs.length (zs.length - k) = back zs.length (zs.length - (k + 1)) ++ [⟨k, by omega⟩] := by
        rw [show zs.length - k = (zs.length - (k + 1)) + 1 by omega, back_succ (by omega)]
        congr 3
        omega
      replace hbs := Aside0.mk hbs
      refine hR.mono ?_
      rintro e W3 (⟨rfl, hJ3, hk3⟩ | ⟨rfl, hJx3⟩)
      · gi_wp2
        go_roundw
        case rel => exact ⟨k, by omega, rfl, by rw [hbs.1]; exact hJ3, hnx.trans hk3⟩
        case measure => simp [intOf]
      · gi_wp2
        refine bodyPost_ret (results_none rfl _ _ _) rfl ?_
        exact ⟨⟨_, rfl⟩, .inr ⟨_, ⟨zs.length - k, by omega, hbs.1.symm⟩, hJx3⟩⟩
def Words32 (n₀ : Nat) (W : World) (sv : Value) (zs : List Int) : Prop :=
  (∃ a cap, sv = .slice a 0 cap ∧ zs = []) ∨ ∃ b off cap, sv = .slice (some ⟨b, off, none⟩) zs.length cap ∧ b < n₀ ∧ ∀ j, j < zs.length → W.cell? ⟨b, off + j, none⟩ = some (.int .u32 (wat zs j))
theorem Words32.below {n₀ : Nat} {A B : World} (h : Below n₀ A B) {sv : Value} {zs : List Int} : Words32 n₀ A sv zs → Words32 n₀ B sv zs
  | .inl e => .inl e
  | .inr ⟨b, off, cap, e, hb, hc⟩ => .inr ⟨b, off, cap, e, hb, fun j hj => (h.cell (p := ⟨b, off + j, none⟩) hb).trans (hc j hj)⟩
set_option maxRecDepth 100000 in
set_option maxHeartbeats 1000000 in
theorem back1_nil_in {α : Type} (F : Fence) (n : Nat) (h8 : F.fn 129) (hro : F.round = none) (l Bs cap : Nat) (a : Option Addr) (J : List α → World → Prop) (W : World) (hBs : W.cell? ⟨Bs, 0, none⟩ = some (.slice a 0 cap)) (h0 : J [] W) :
    CallsIn F n Try.prog 129 #[.func (.yield l) #[] #[], .pointer (some ⟨Bs, 0, none⟩)] W fun e W' => (∃ v, e = .returned v) ∧ J [] W' := by
  refine callsIn_of_wp Try.func129 rfl h8 ?_ hro
  simp only [Try.ntmps129, List.size_toArray, List.length_cons, List.length_nil, Nat.reduceAdd, Nat.reduceSub, Array.replicate_succ, Array.replicate_zero, List.push_toArray, List.append_toArray, List.nil_append, List.cons_append]
  gi_wp2
  gi_loopw [3] (fun i wr => i = .int .i64 (-1) ∧ J [] wr) (fun _ _ => 0)
  case atStart => exact ⟨rfl, h0⟩
  case round =>
    obtain ⟨rfl, hJs⟩ := hrel
    gi_wp2
    go_end0
    exact ⟨⟨_, rfl⟩, hJs⟩
set_option maxHeartbeats 1000000 in
theorem backward_in (F : Fence) (n : Nat) (h6 : F.fn 103) (hro : F.round = none) (a : Option Addr) (len cap : Nat) (w : World) :
    CallsIn F n Try.prog 103 #[.slice a len cap] w fun e w' => e = .returned (.func (.func 129) #[] #[.pointer (some ⟨w.heap.size, 0, none⟩)]) ∧ w' = w.alloc (.cells #[.slice a len cap] 36) := by
  refine callsIn_of_wp Try.func103 rfl h6 ?_ hro
  simp only [Try.ntmps103, List.size_toArray, List.length_cons, List.length_nil, Nat.reduceAdd, Nat.reduceSub, Array.replicate_succ, Array.replicate_zero, List.push_toArray, List.append_toArray, List.nil_append, List.cons_append]
  gi_wp2
  go_ret
  exact ⟨rfl, rfl⟩
theorem back_stops (F : Fence) (n : Nat) (h8 : F.fn 129) (hro : F.round = none) (hn : 1 ≤ n) (Bs n₀ : Nat) (sv : Value) (zs : List Int) (hreach : zs.length ≤ 9223372036854775807) (w : World) (hBs : Bs < w.heap.size) (hn₀ : n₀ ≤ w.heap.size)
    (hc : w.cell? ⟨Bs, 0, none⟩ = some sv) (hI : Words32 n₀ w sv zs) :
    SeqStopsK F n Try.prog 129 #[.pointer (some ⟨Bs, 0, none⟩)] (fun x : Fin zs.length => #[Value.int .i64 (x.1 : Int), Value.int .u32 (wat zs x.1)]) (Kb n₀ Bs) (fun ys => ys = back zs.length zs.length)
      (fun pre => ∃ k, k ≤ zs.length ∧ pre = back zs.length k) zs.length w := fun l J Jx W hW _ _ hY h0 => by
  have hc' := (hW.cell (p := ⟨Bs, 0, none⟩) hBs).trans hc
  rcases hI.below (hW.mono hn₀) with ⟨a, cap, rfl, rfl⟩ | ⟨b, off, cap, rfl, hb, hcs⟩
  · exact (back1_nil_in F n h8 hro l Bs cap a J W hc' h0).mono fun e W' ⟨he, hj⟩ => ⟨he, .inl ⟨_, rfl, hj⟩⟩
  · exact back1_in F n h8 hro hn l Bs n₀ b off cap zs hreach hb J Jx hY W hc' hcs h0
theorem Words32.of_reads {w : World} {A : Option Addr} {c : Nat} {xs : List Int} (h : ReadsInt w .u32 A xs.length xs) : Words32 w.heap.size w (.slice A xs.length c) xs := by
  rcases Nat.eq_zero_or_pos xs.length with h0 | h0
  · exact .inl ⟨A, c, by rw [h0], List.eq_nil_of_length_eq_zero h0⟩
  · obtain ⟨ad, rfl, hc⟩ := h.2.2 h0
    obtain ⟨b, off, spot⟩ := ad
    have c0 := hc 0 h0
    have hs : spot = none ∧ b < w.heap.size := by
      simp only [Addr.add, if_true, World.cell?] at c0
      constructor
      · cases spot with
        | none => rfl
        | some s => split at c0 <;> simp at c0
      · rcases Nat.lt_or_ge b w.heap.size with hlt | hge
        · exact hlt
        · rw [Array.getElem?_eq_none hge] at c0
          cases c0
    obtain ⟨rfl, hb⟩ := hs
    refine .inr ⟨b, off, c, rfl, hb, fun j hj => ?_⟩
    have := hc j hj
    rw [List.getD_eq_getElem?_getD] at this
    unfold Addr.add at this
    unfold wat
    by_cases hj0 : j = 0
    · subst hj0; simpa using this
    · rw [if_neg hj0] at this; exact this
end Go.Proofs.Yteejcpbngnojkaa.P
end
section
namespace Go.Proofs.Yteejcpbngnojkaa.P
open Go.RowKit Go.Shelf Go.Proofs.YteejcpbngnojkaaW.PrintWords
attribute [local go_sem] Oper.semAt_some
set_option linter.unusedVariables false
def cmpW (a b : List Int) : Nat → Int
  | 0 => 0
  | m + 1 => if (wat a m) = (wat b m) then cmpW a b m else if (wat a m) < (wat b m) then -1 else 1
def nat_Nat_Cmp.f (_k : Nat) (l0_0 : List Int) (l1_0 : List Int) : Option (Int) := if l0_0.length = l1_0.length then some (cmpW l0_0 l1_0 l0_0.length) else if l0_0.length < l1_0.length then some (-1) else some 1
theorem nat_Nat_Cmp.mono : ∀ a0 a1 k, LeO (nat_Nat_Cmp.f k a0 a1) (nat_Nat_Cmp.f (k + 1) a0 a1) := fun _ _ _ => LeO.refl _
theorem cmpW_pre (a b : List Int) (k : Nat) (hk : k ≤ a.length) (h : ∀ p ∈ back a.length k, (wat a p.1) = (wat b p.1)) : cmpW a b a.length = cmpW a b (a.length - k) := by
  induction k with
  | zero => rfl
  | succ k ih =>
    rw [back_succ (by omega)] at h
    rw [ih (by omega) (fun p hp => h p (List.mem_append_left _ hp)), show a.length - k = (a.length - (k + 1)) + 1 by omega, cmpW, if_pos]
    have := h ⟨a.length - 1 - k, by omega⟩ (List.mem_append_right _ (List.mem_singleton.2 rfl))
    simpa only [show a.length - 1 - k = a.length - (k + 1) by omega] using this
set_option maxRecDepth 100000 in
set_option maxHeartbeats 4000000 in
theorem cmp_same_in (F : Fence) (n : Nat) (h4 : F.fn 45) (h6 : F.fn 103) (h8 : F.fn 129) (hro : F.round = none) (hn : 3 ≤ n) (A0 : Option Addr) (c0 : Nat) (l0 : List Int) (A1 : Option Addr) (c1 : Nat) (l1 : List Int) (w : World)
    (b0 : l0.length ≤ 9223372036854775807) (e1 : Aside0 (l1.length = l0.length)) (hI : Words32 w.heap.size w (.slice A0 l0.length c0) l0) (hI1 : Words32 w.heap.size w (.slice A1 l1.length c1) l1) :
    CallsIn F n Try.prog 45 #[.agg #[.slice A0 l0.length c0], .agg #[.slice A1 l0.length c1]] w fun e W' => e = .returned (.int .i64 (cmpW l0 l1 l0.length)) ∧ Below w.heap.size w W' := by
  have h1 : 1 ≤ n := by omega
  refine callsIn_of_wp_marks Try.func45 rfl h4 ?_ hro
  simp only [Try.ntmps45, List.size_toArray, List.length_cons, List.length_nil, Nat.reduceAdd, Nat.reduceSub, Array.replicate_succ, Array.replicate_zero, List.push_toArray, List.append_toArray, List.nil_append, List.cons_append]
  gi_wp2_with (gi_at_call 103; refine (backward_in F (n - 1) h6 hro _ _ _ _).mono ?_; rintro e w' ⟨rfl, rfl⟩)
  have bB := Boxed.new (w.alloc (.cells #[.slice A0 l0.length c0] 38)) 38 (.slice A1 l0.length c1)
  have bR := Boxed.new ((w.alloc (.cells #[.slice A0 l0.length c0] 38)).alloc (.cells #[.slice A1 l0.length c1] 38)) 3 (.int .i64 0)
  have bN := Boxed.new (((w.alloc (.cells #[.slice A0 l0.length c0] 38)).alloc (.cells #[.slice A1 l0.length c1] 38)).alloc (.cells #[.int .i64 0] 3)) 36 (.slice A0 l0.length c0)
  rw [World.size_alloc] at bB
  rw [World.size_alloc, World.size_alloc] at bR
  rw [World.size_alloc, World.size_alloc, World.size_alloc] at bN
  have hB0 : Below w.heap.size w ((((w.alloc (.cells #[.slice A0 l0.length c0] 38)).alloc (.cells #[.slice A1 l0.length c1] 38)).alloc (.cells #[.int .i64 0] 3)).alloc (.cells #[.slice A0 l0.length c0] 36)) :=
    ((((Below.refl _ w).alloc (Nat.le_refl _) _).alloc (by simp) _).alloc (by simp; omega) _).alloc (by simp; omega) _
  refine wpIn_rangeFunc_ownG hro h1 (gf := 129) (lb := #[.pointer (some ⟨w.heap.size + 1 + 1 + 1, 0, none⟩)]) rfl h8 (enters_of Try.func129 (by kernel_rfl) rfl)
    (back_stops F (n - 1) h8 hro (by omega) (w.heap.size + 1 + 1 + 1) w.heap.size _ l0 b0 _ (by simp) (by simp; omega) bN.cell (hI.below hB0)) (fun h k => h.trans k) (Kb.put (by simp; omega)) (Below.refl _ _) (fun _ => rfl)
    (fun pre W => ((∀ p ∈ pre, (wat l0 p.1) = (wat l1 p.1)) ∧ W.cell? ⟨w.heap.size + 1, 0, none⟩ = some (.slice A1 l0.length c1) ∧ W.cell? ⟨w.heap.size + 1 + 1, 0, none⟩ = some (.int .i64 0) ∧ W.frozen? ⟨w.heap.size + 1 + 1, 0, none⟩ = false) ∧ Below w.heap.size w W)
    (fun c pre W => (c = .ret ∧ ∃ ini last, pre = ini ++ [last] ∧ (∀ p ∈ ini, (wat l0 p.1) = (wat l1 p.1)) ∧ (wat l0 last.1) ≠ (wat l1 last.1) ∧ W.cell? ⟨w.heap.size + 1 + 1, 0, none⟩ = some (.int .i64 (if (wat l0 last.1) < (wat l1 last.1) then -1 else 1))) ∧ Below w.heap.size w W)
    (OwnFrom.and (Own.from (fun s A B row hs hg hr => ⟨hs.1, cell_kept hs.2.1 hg hr, cell_kept hs.2.2.1 hg hr, (frozen_kept hs.2.2.1 hg hr).trans hs.2.2.2⟩) _) (ownFrom_below (Nat.le_refl _) (by simp; omega)))
    (fun c => OwnFrom.and (Own.from (fun s A B row hs hg hr => by obtain ⟨hc, ini, last, q1, q2, q3, q4⟩ := hs; exact ⟨hc, ini, last, q1, q2, q3, cell_kept q4 hg hr⟩) _) (ownFrom_below (Nat.le_refl _) (by simp; omega)))
    ⟨⟨by simp, ((bB.alloc _).alloc _).cell, (bR.alloc _).cell, (bR.alloc _).frozen⟩, hB0⟩
    (fun x => { tmps := #[Value.agg #[Value.slice A0 l0.length c0], Value.agg #[Value.slice A1 l0.length c1],
              Value.pointer (some { block := w.heap.size, off := 0 }),
              Value.pointer (some { block := w.heap.size + 1, off := 0 }),
              Value.pointer (some { block := w.heap.size + 1 + 1, off := 0 }), .int .i64 (x.1 : Int), .int .u32 (wat l0 x.1),
              Value.pointer (some { block := w.heap.size, off := 0 }), Value.slice A0 l0.length c0,
              Value.int IntKind.i64 l0.length, Value.pointer (some { block := w.heap.size + 1, off := 0 }),
              Value.slice A1 l0.length c1, Value.int IntKind.i64 l0.length, Value.bool false, undef, undef, undef,
              undef, undef, undef, undef, Value.pointer (some { block := w.heap.size, off := 0 }),
              Value.slice A0 l0.length c0, .func (.func 129) #[] #[.pointer (some ⟨w.heap.size + 1 + 1 + 1, 0, none⟩)], .int .i64 (x.1 : Int), .int .u32 (wat l0 x.1), undef, undef, undef, undef, undef, undef, undef, undef,
              undef, undef, undef, undef, undef, undef], defers := [] }) ?assign ?body ?done ?stop
  case assign =>
    intro l x W K hK
    gi_wp2
    exact hK
  case body =>
    rintro l pre ⟨j, hj⟩ W ⟨⟨hp, hcb, hcr, hfr⟩, hB⟩ _
    dsimp only
    rcases hI1 with ⟨a, cap, e, rfl⟩ | ⟨b1, off1, cap1, e, hb1, hcs⟩
    · have := e1.out
      simp at this
      omega
    · obtain ⟨rfl, -, rfl⟩ : A1 = some ⟨b1, off1, none⟩ ∧ l1.length = l1.length ∧ c1 = cap1 := by simpa using e
      have hv : W.cell? ⟨b1, off1 + j, none⟩ = some (.int .u32 (wat l1 j)) := (hB.cell (p := ⟨b1, off1 + j, none⟩) hb1).trans (hcs j (by rw [e1.out]; exact hj))
      generalize hu : (wat l0 j) = u
      generalize hq : (wat l1 j) = v at hv
      replace hu := Aside0.mk hu
      replace hq := Aside0.mk hq
      gi_wp2
      · have hne : ¬ u = v := bne_iff_ne.1 (by assumption)
        have hlt : u < v := by assumption
        exact ⟨(KeepsOthers.setCell _ _ _).from _, ⟨rfl, pre, ⟨j, hj⟩, rfl, hp, by rw [hu.out, hq.out]; exact hne, by rw [hu.out, hq.out, if_pos hlt]; exact World.cell?_setCell_same' _ _ _ (by rw [hcr]; rfl)⟩, hB.setCell (p := ⟨w.heap.size + 1 + 1, 0, none⟩) (by show w.heap.size ≤ w.heap.size + 1 + 1; omega) _⟩
      · have hne : ¬ u = v := bne_iff_ne.1 (by assumption)
        have hlt : v ≤ u := by assumption
        exact ⟨(KeepsOthers.setCell _ _ _).from _, ⟨rfl, pre, ⟨j, hj⟩, rfl, hp, by rw [hu.out, hq.out]; exact hne, by rw [hu.out, hq.out, if_neg (by omega)]; exact World.cell?_setCell_same' _ _ _ (by rw [hcr]; rfl)⟩, hB.setCell (p := ⟨w.heap.size + 1 + 1, 0, none⟩) (by show w.heap.size ≤ w.heap.size + 1 + 1; omega) _⟩
      · have he : u = v := by simpa using (by assumption : (u != v) = false)
        exact ⟨KeepsFrom.refl _ _, Kb.refl _ _ _, ⟨fun p hp' => (List.mem_append.1 hp').elim (hp p) (fun e => by rw [List.mem_singleton] at e; subst e; show wat l0 j = wat l1 j; rw [hu.out, hq.out, he]), hcb, hcr, hfr⟩, hB⟩
  case done =>
    rintro D ys W hD rfl ⟨⟨hall, hcb, hcr, hfr⟩, hB⟩ hK
    gi_wp2
    have hK' := (KeepsOthers.setCell W ⟨w.heap.size + 1 + 1, 0, none⟩ (.int .i64 0)).same D _ hK rfl
    refine ⟨by simp, .inl ⟨_, _, rfl, run_takeDeferred hK', ?_⟩⟩
    have hc5 := cell_kept (World.cell?_setCell_same' W ⟨w.heap.size + 1 + 1, 0, none⟩ (.int .i64 0) (by rw [hcr]; rfl)) (grownBy_putObj' _ D (.deferred none)) (fun r e => by cases e; exact ⟨_, hK', rfl⟩)
    refine ⟨.int .i64 0, ?_, ?_, (hB.setCell (p := ⟨w.heap.size + 1 + 1, 0, none⟩) (by show w.heap.size ≤ w.heap.size + 1 + 1; omega) _).trans (belowK_b (w := w) (Nat.le_refl _) _ D _ _ (by simp at hD; omega) hK' rfl rfl)⟩
    · simp [results, Try.f45, go_sem, hc5]
    · rw [cmpW_pre l0 l1 l0.length (Nat.le_refl _) hall, Nat.sub_self]
      rfl
  case stop =>
    rintro D c pre W hD ⟨k, hk, rfl⟩ ⟨⟨rfl, ini, last, q1, q2, q3, hcr⟩, hB⟩ hK
    gi_wp2
    refine ⟨by simp, .inl ⟨_, _, rfl, run_takeDeferred hK, ?_⟩⟩
    have hc5 := cell_kept hcr (grownBy_putObj' _ D (.deferred none)) (fun r e => by cases e; exact ⟨_, hK, rfl⟩)
    refine ⟨_, by simp [results, Try.f45, go_sem, hc5]; rfl, ?_, hB.trans (belowK_b (w := w) (Nat.le_refl _) W D _ _ (by simp at hD; omega) hK rfl rfl)⟩
    obtain ⟨k', rfl⟩ : ∃ k', k = k' + 1 := by
      cases k with
      | zero => simp [back] at q1
      | succ k' => exact ⟨k', rfl⟩
    rw [back_succ (by omega)] at q1
    obtain ⟨rfl, e5⟩ := List.append_inj' q1 rfl
    obtain rfl : (⟨l0.length - 1 - k', by omega⟩ : Fin l0.length) = last := by simpa using e5
    rw [cmpW_pre l0 l1 k' (by omega) q2, show l0.length - k' = (l0.length - 1 - k') + 1 by omega, cmpW, if_neg q3]
set_option maxRecDepth 100000 in
set_option maxHeartbeats 4000000 in
theorem cmp_diff_in (F : Fence) (n : Nat) (h4 : F.fn 45) (h6 : F.fn 103) (h8 : F.fn 129) (hro : F.round = none) (hn : 3 ≤ n) (A0 : Option Addr) (c0 N : Nat) (A1 : Option Addr) (c1 M : Nat) (w : World) (hne : ¬ N = M) :
    CallsIn F n Try.prog 45 #[.agg #[.slice A0 N c0], .agg #[.slice A1 M c1]] w fun e W' => e = .returned (.int .i64 (if N < M then -1 else 1)) ∧ Below w.heap.size w W' := by
  have h1 : 1 ≤ n := by omega
  have hne' : ((N : Int) != (M : Int)) = true := bne_iff_ne.2 (fun e => hne (Int.ofNat.inj e))
  have hB0 : Below w.heap.size w (((w.alloc (.cells #[.slice A0 N c0] 38)).alloc (.cells #[.slice A1 M c1] 38)).alloc (.cells #[.int .i64 0] 3)) :=
    (((Below.refl _ w).alloc (Nat.le_refl _) _).alloc (by simp) _).alloc (by simp; omega) _
  refine callsIn_of_wp Try.func45 rfl h4 ?_ hro
  simp only [Try.ntmps45, List.size_toArray, List.length_cons, List.length_nil, Nat.reduceAdd, Nat.reduceSub, Array.replicate_succ, Array.replicate_zero, List.push_toArray, List.append_toArray, List.nil_append, List.cons_append]
  gi_wp2
  · have hlt : N < M := by assumption
    have bV := Boxed.new ((w.alloc (.cells #[.slice A0 N c0] 38)).alloc (.cells #[.slice A1 M c1] 38)) 3 (.int .i64 (-1))
    rw [World.size_alloc, World.size_alloc] at bV
    have hc := bV.cell
    refine bodyPost_ret (v := .int .i64 (-1)) (by simp [results, Try.f45, go_sem, hc]) rfl ?_
    exact ⟨rfl, (((Below.refl _ w).alloc (Nat.le_refl _) _).alloc (by simp) _).alloc (by simp; omega) _⟩
  · have hlt : ¬ N < M := by assumption
    have bV := Boxed.new ((w.alloc (.cells #[.slice A0 N c0] 38)).alloc (.cells #[.slice A1 M c1] 38)) 3 (.int .i64 1)
    rw [World.size_alloc, World.size_alloc] at bV
    have hc := bV.cell
    refine bodyPost_ret (v := .int .i64 1) (by simp [results, Try.f45, go_sem, hc]) rfl ?_
    exact ⟨rfl, (((Below.refl _ w).alloc (Nat.le_refl _) _).alloc (by simp) _).alloc (by simp; omega) _⟩
theorem nat_Nat_Cmp.calls (k : Nat) (A0_0 : Option Addr) (c0_0 : Nat) (l0_0 : List Int) (A1_0 : Option Addr) (c1_0 : Nat) (l1_0 : List Int) (r : Int) (w : World) (hr0_0 : Kd.C (Kd.int .u32) w A0_0 l0_0.length l0_0) (hc0_0 : l0_0.length ≤ c0_0) (hr1_0 : Kd.C (Kd.int .u32) w A1_0 l1_0.length l1_0) (hc1_0 : l1_0.length ≤ c1_0) (h : nat_Nat_Cmp.f k l0_0 l1_0 = some r) :
    Calls Try.prog 45 #[.agg #[.slice A0_0 l0_0.length c0_0], .agg #[.slice A1_0 l1_0.length c1_0]] w fun e w' => e = .returned (.int .i64 r) ∧ Below w.heap.size w w' := by
  have r0 := Kd.reads_of_C (enc := Value.int .u32) (d := (0 : Int)) (h1 := fun _ => rfl) hr0_0
  have r1 := Kd.reads_of_C (enc := Value.int .u32) (d := (0 : Int)) (h1 := fun _ => rfl) hr1_0
  refine (callsIn_wide (n := 3)).1 ?_
  unfold nat_Nat_Cmp.f at h
  by_cases he : l0_0.length = l1_0.length
  · rw [if_pos he] at h
    cases h
    rw [← he]
    exact cmp_same_in Fence.wide 3 trivial trivial trivial rfl (Nat.le_refl _) A0_0 c0_0 l0_0 A1_0 c1_0 l1_0 w r0.2.1 ⟨he.symm⟩ (Words32.of_reads r0) (Words32.of_reads r1)
  · rw [if_neg he] at h
    refine (cmp_diff_in Fence.wide 3 trivial trivial trivial rfl (Nat.le_refl _) A0_0 c0_0 l0_0.length A1_0 c1_0 l1_0.length w he).mono ?_
    rintro e w' ⟨rfl, hB⟩
    refine ⟨?_, hB⟩
    by_cases hlt : l0_0.length < l1_0.length
    · rw [if_pos hlt] at h ⊢; cases h; rfl
    · rw [if_neg hlt] at h ⊢; cases h; rfl
end Go.Proofs.Yteejcpbngnojkaa.P
end
section
namespace Go.Proofs.Yteejcpbngnojkaa.P
open Go.RowKit Go.Proofs.YteejcpbngnojkaaW.PrintWords Go.Proofs.YteejcpbngnojkaaW.PrintLast Go.Proofs.YteejcpbngnojkaaW.PrintMore
attribute [local go_sem] max2_int min2_int max_two min_two max_three min_three max_four min_four
set_option linter.unusedVariables false
set_option linter.unusedSimpArgs false
def sacristyref01_Bytes.l0 : Nat → Int → List Int → List Bool → Int → Int → Option (List Int × Bool)
 |0,_,_,_,_,_ => none
 |k + 1,x1,x6,x17,x18,x19 => if x19 < x18 then (if 0 ≤ x19 then (if x19 < (x17.length : Int) then (if rdOf false x17 x19 = true then (if 0 ≤ (wrap64 ((wrap64 (x1 - 1)) - (wrap64 (Int.tdiv x19 8)))) then (if (wrap64 ((wrap64 (x1 - 1)) - (wrap64 (Int.tdiv x19 8)))) < (x6.length : Int) then (if 0 ≤ (Int.tmod x19 8) then (sacristyref01_Bytes.l0 k x1 (x6.set ((wrap64 ((wrap64 (x1 - 1)) - (wrap64 (Int.tdiv x19 8)))) : Int).toNat (((rd x6 (wrap64 ((wrap64 (x1 - 1)) - (wrap64 (Int.tdiv x19 8))))) + (shl .u8 1 (Int.tmod x19 8))) % 256)) x17 x18 (wrap64 (x19 + 1))) else (none)) else (none)) else (none)) else (sacristyref01_Bytes.l0 k x1 x6 x17 x18 (wrap64 (x19 + 1)))) else (none)) else (none)) else (some (x6,true))
def sacristyref01_Bytes.f (k : Nat) (l0 : List Bool) (a1 : Int) : Option (List Int × Bool):=if (wrap64 (Int.tdiv (wrap64 ((l0.length : Int) + 7)) 8)) > a1 then (some (([] : List Int),false)) else (if 0 ≤ a1 then (if (a1 : Int).toNat ≤ 281474976710656 then (sacristyref01_Bytes.l0 k a1 (List.replicate (a1 : Int).toNat 0) l0 (l0.length : Int) 0) else (none)) else (none))
theorem sacristyref01_Bytes.mono_l : ∀ k,(∀ y0 y1 y2 y3 y4,LeO (sacristyref01_Bytes.l0 k y0 y1 y2 y3 y4) (sacristyref01_Bytes.l0 (k + 1) y0 y1 y2 y3 y4))
 |0 => fun _ _ _ _ _ r h => by simp [sacristyref01_Bytes.l0] at h
 |k + 1 => by
  have ih0:=sacristyref01_Bytes.mono_l k
  ·intro y0 y1 y2 y3 y4
   unfold sacristyref01_Bytes.l0
   repeat' first
   |(with_reducible exact ih0 _ _ _ _ _)
   |(with_reducible exact LeO.refl _)
   |(with_reducible exact LeO.none _)
   |(with_reducible refine LeO.ite ?_ ?_)
   |(with_reducible refine LeO.bind ?_ (fun _ => ?_))
   |exact ih0 _ _ _ _ _
   |exact LeO.none _
   |refine LeO.ite ?_ ?_
   |refine LeO.bind ?_ (fun _ => ?_)
theorem sacristyref01_Bytes.mono : ∀ a0 a1 k,LeO (sacristyref01_Bytes.f k a0 a1) (sacristyref01_Bytes.f (k + 1) a0 a1):=by
 intro a0 a1 k
 have ih0:=sacristyref01_Bytes.mono_l k
 unfold sacristyref01_Bytes.f
 repeat' first
   |(with_reducible exact ih0 _ _ _ _ _)
   |(with_reducible exact LeO.refl _)
   |(with_reducible exact LeO.none _)
   |(with_reducible refine LeO.ite ?_ ?_)
   |(with_reducible refine LeO.bind ?_ (fun _ => ?_))
   |exact ih0 _ _ _ _ _
   |exact LeO.none _
   |refine LeO.ite ?_ ?_
   |refine LeO.bind ?_ (fun _ => ?_)
def sacristyref01_Bytes.T8 : Bool × List (List Nat × List Nat):=(true,[([],[]),([],[]),([1],[1]),([],[]),([3],[3]),([2,4],[2,4]),([0,5],[0,5]),([6],[6]),([],[]),([8],[8]),([9],[9]),([7,10],[7,10]),([0,5,0,1,2,3,4,5,6,7,8,9,10,11],[0,5]),([12,11,0,1,2,3,4,5,6,7,8,9,10,11],[11,12])])
def sacristyref01_Bytes.B8 : List Nat:=[0,0,2,0,8,30,63,127,0,256,768,2047,4095,8191]
theorem sacristyref01_Bytes.tab8 : rtab .any (opsOf Try.f39 8) = sacristyref01_Bytes.T8:=by kernel_rfl
theorem sacristyref01_Bytes.bits8 : waitsOk sacristyref01_Bytes.T8.2 sacristyref01_Bytes.B8 = true:=by kernel_rfl
set_option maxHeartbeats 8000000 in
set_option maxRecDepth 100000 in
theorem sacristyref01_Bytes.calls (k : Nat) (A0 : Option Addr) (c0 : Nat) (l0 : List Bool) (a1 : Int) (r1 : List Int) (r2 : Bool) (w : World) (hr0 : Kd.C Kd.bool w A0 l0.length l0) (hc0 : l0.length ≤ c0) (h : sacristyref01_Bytes.f k l0 a1 = some (r1,r2)) :
  Calls Try.prog 39 #[.slice A0 l0.length c0,.int .i64 a1] w fun e w' => ∃ v0_ : Value,e = .returned (.tuple #[v0_,.bool r2]) ∧ Kd.R (Kd.int .u8) 5 w' w.heap.size (fun _ => True) v0_ r1 ∧ Below w.heap.size w w':=by
 have HR0:=Aside0.mk hr0
 have HC0:=Aside0.mk hc0
 clear hr0 hc0
 have HB:=Aside0.mk (Below.refl w.heap.size w)
 have H : (if (wrap64 (Int.tdiv (wrap64 ((l0.length : Int) + 7)) 8)) > a1 then (some (([] : List Int),false)) else (if 0 ≤ a1 then (if (a1 : Int).toNat ≤ 281474976710656 then (sacristyref01_Bytes.l0 k a1 (List.replicate (a1 : Int).toNat 0) l0 (l0.length : Int) 0) else (none)) else (none))) = some (r1,r2):=h
 clear h
 by_cases c3 : (wrap64 (Int.tdiv (wrap64 ((l0.length : Int) + 7)) 8)) > a1
 ·rw [if_pos c3] at H
  have c3b0 : decide (a1 < (wrap64 (Int.tdiv (wrap64 ((l0.length : Int) + 7)) 8))) = true:=decide_eq_true c3
  clear c3
  simp only [Option.some.injEq,Prod.mk.injEq] at H
  obtain ⟨rfl,rfl⟩:=H
  go_enter Try.func39,Try.ntmps39
  go_wp2
  (first|go_ret2|(refine ⟨_,results_tmp2 rfl _ _ _,?_⟩))
  exact ⟨_,by first|rfl|(simp [errW_none,errW_some] <;> rfl)|(simp [*,errW_none,errW_some] <;> rfl),by first|exact Kd.R_nil _ _ _ _ _|exact Kd.N_nil _ _ _ _ _|exact Kd.V_nil _ _ _ _ _|exact Kd.Q_nil _ _ _ _ _|exact Kd.S_nil _ _ _ _ _,qS HB⟩
 ·rw [if_neg c3] at H
  have c3b0 : decide (a1 < (wrap64 (Int.tdiv (wrap64 ((l0.length : Int) + 7)) 8))) = false:=decide_eq_false c3
  clear c3
  by_cases c4 : 0 ≤ a1
  ·rw [if_pos c4] at H
   have c4b0:=eq_true c4
   have c4b1 : decide (0 ≤ a1) = true:=decide_eq_true c4
   clear c4
   by_cases c5 : (a1 : Int).toNat ≤ 281474976710656
   ·rw [if_pos c5] at H
    have c5b0:=eq_true c5
    have c5b1 : decide ((a1 : Int).toNat ≤ 281474976710656) = true:=decide_eq_true c5
    clear c5
    obtain ⟨y290,hy290⟩ : ∃ y_ : List Int,y_ = (List.replicate (a1 : Int).toNat 0):=⟨_,rfl⟩
    replace H : (sacristyref01_Bytes.l0 k a1 y290 l0 (l0.length : Int) 0) = some (r1,r2):=by first|(rw [hy290];with_reducible exact H)|(have H2_:=(Option.bind_some _ _).symm.trans H;rw [hy290];with_reducible exact H2_)|(have H2_:=(Option.bind_some _ _).symm.trans H;with_reducible exact H2_)|with_reducible exact H|(rw [hy290];exact H)|exact H
    have Ny290:=Aside0.mk hy290
    clear hy290
    have H':=Aside0.mk H
    clear H
    go_enter Try.func39,Try.ntmps39
    go_wp2_with (first|((with_reducible refine gate_dst (N:=16) rfl ?_);refine Kd.R_make (Kd.int .u8) _ 5 rfl (N:=16) rfl 22 _ _ rfl a1 rfl rfl Try.underlying22 (.int .u8 0) 1 info5 rfl (by decide) (by omega) 0 (ok:=fun _ => True) (okp:=fun _ => True) rfl (fun _ hk => hk) trivial (od) (Nat.le_trans (Nat.mul_le_mul_right _ (od : a1.toNat ≤ 281474976710656)) (by omega)) (Below.refl _ _) (Nat.le_refl _) ?_;intro v291 w6 ho7 hb hg_ hnew_;clear hg_ hnew_;(first|rw [← Ny290.out] at ho7|(simp only [Int.reduceToNat] at ho7;rw [← Ny290.out] at ho7));have HO292:=Aside0.mk (Kd.R_lower ho7 (below_size (qS HB)));replace HB:=qs HB hb;clear hb ho7))
    go_loopg [19] k (fun kq v19 w' => ∃ (x6_1 : List Int) (x19_1 : Int),v19 = .int .i64 x19_1 ∧ Aside0 (sacristyref01_Bytes.l0 kq a1 x6_1 l0 (l0.length : Int) x19_1 = some (r1,r2)) ∧ Aside0 (kq ≤ k) ∧ Aside0 (Kd.R (Kd.int .u8) 5 w' w.heap.size (fun _ => True) v291 x6_1) ∧ Aside0 (Below w.heap.size w w'))
    case atStart => exact ⟨(y290),(0),(by first|rfl|(simp;done)|(simp [*];done)),H',⟨Nat.le_refl _⟩,⟨qRm HO292⟩,⟨qS HB⟩⟩
    case round =>
     clear H'
     try clear p2
     try clear c3
     try clear c3b0
     try clear c4
     try clear c4b0
     try clear c4b1
     try clear c5
     try clear c5b0
     try clear c5b1
     try clear p6
     obtain ⟨x6_1,x19_1,rfl,HA,HK1,HO_6,HB⟩:=hrel
     cases gk with
     |zero => exact absurd HA.out (by simp [sacristyref01_Bytes.l0])
     |succ k1 =>
      have H:=HA.out
      clear HA
      simp only [sacristyref01_Bytes.l0] at H
      by_cases c8 : x19_1 < (l0.length : Int)
      ·rw [if_pos c8] at H
       have c8b0 : decide (x19_1 < (l0.length : Int)) = true:=decide_eq_true c8
       clear c8
       by_cases c9 : 0 ≤ x19_1
       ·rw [if_pos c9] at H
        have c9b0 : decide (0 ≤ x19_1) = true:=decide_eq_true c9
        clear c9
        by_cases c10 : x19_1 < (l0.length : Int)
        ·rw [if_pos c10] at H
         have c10b0 : decide (x19_1 < (l0.length : Int)) = true:=decide_eq_true c10
         clear c10
         obtain ⟨bq11,hbq11⟩ : ∃ b_ : Bool,b_ = (rdOf false l0 x19_1):=⟨_,rfl⟩
         replace H : (if bq11 = true then (if 0 ≤ (wrap64 ((wrap64 (a1 - 1)) - (wrap64 (Int.tdiv x19_1 8)))) then (if (wrap64 ((wrap64 (a1 - 1)) - (wrap64 (Int.tdiv x19_1 8)))) < (x6_1.length : Int) then (if 0 ≤ (Int.tmod x19_1 8) then (sacristyref01_Bytes.l0 k1 a1 (x6_1.set ((wrap64 ((wrap64 (a1 - 1)) - (wrap64 (Int.tdiv x19_1 8)))) : Int).toNat (((rd x6_1 (wrap64 ((wrap64 (a1 - 1)) - (wrap64 (Int.tdiv x19_1 8))))) + (shl .u8 1 (Int.tmod x19_1 8))) % 256)) l0 (l0.length : Int) (wrap64 (x19_1 + 1))) else (none)) else (none)) else (none)) else (sacristyref01_Bytes.l0 k1 a1 x6_1 l0 (l0.length : Int) (wrap64 (x19_1 + 1)))) = some (r1,r2):=by rw [← hbq11] at H;exact H
         have Nbq11:=Aside0.mk hbq11
         clear hbq11
         by_cases c12 : bq11 = true
         ·subst c12
          rw [if_pos rfl] at H
          obtain ⟨ji13,hji13⟩ : ∃ j_ : Int,(wrap64 ((wrap64 (a1 - 1)) - (wrap64 (Int.tdiv x19_1 8)))) = j_:=⟨_,rfl⟩
          (first|rw [hji13] at H|simp only [hji13] at H)
          have hji13w : (IntKind.i64.wrap ((wrap64 (a1 - 1)) - (wrap64 (Int.tdiv x19_1 8)))) = ji13:=(i64_w _).trans hji13
          by_cases c14 : 0 ≤ (ji13)
          ·rw [if_pos c14] at H
           have c14b0 : decide (0 ≤ (ji13)) = true:=decide_eq_true c14
           clear c14
           by_cases c15 : (ji13) < (x6_1.length : Int)
           ·rw [if_pos c15] at H
            have c15b0 : decide ((ji13) < (x6_1.length : Int)) = true:=decide_eq_true c15
            clear c15
            obtain ⟨ji16,hji16⟩ : ∃ j_ : Int,(Int.tmod x19_1 8) = j_:=⟨_,rfl⟩
            (first|rw [hji16] at H|simp only [hji16] at H)
            by_cases c17 : 0 ≤ (ji16)
            ·rw [if_pos c17] at H
             have c17b0:=eq_true c17
             have c17b1 : decide (0 ≤ (ji16)) = true:=decide_eq_true c17
             clear c17
             obtain ⟨ji18,hji18⟩ : ∃ j_ : Int,(shl .u8 1 (ji16)) = j_:=⟨_,rfl⟩
             (first|rw [hji18] at H|simp only [hji18] at H)
             have hji18_ : (IntKind.u8.wrap (1 * 2 ^ min (ji16).toNat 8)) = ji18:=hji18
             have hji18z : (ji16) ≤ 8 → (IntKind.u8.wrap (1 * 2 ^ (ji16).toNat)) = ji18:=shl_small hji18
             have hji18u : (IntKind.u8.wrap (2 ^ min (ji16).toNat 8)) = ji18:=by have h_:=hji18_;rw [Int.one_mul] at h_;exact h_
             have hji18v : (ji16) ≤ 8 → (IntKind.u8.wrap (2 ^ (ji16).toNat)) = ji18:=fun hle_ => by have h_:=hji18z hle_;rw [Int.one_mul] at h_;exact h_
             obtain ⟨y295,hy295⟩ : ∃ y_ : List Int,y_ = (x6_1.set ((ji13) : Int).toNat (((rd x6_1 (ji13)) + (ji18)) % 256)):=⟨_,rfl⟩
             replace H : (sacristyref01_Bytes.l0 k1 a1 y295 l0 (l0.length : Int) (wrap64 (x19_1 + 1))) = some (r1,r2):=by first|(rw [hy295];with_reducible exact H)|(have H2_:=(Option.bind_some _ _).symm.trans H;rw [hy295];with_reducible exact H2_)|(have H2_:=(Option.bind_some _ _).symm.trans H;with_reducible exact H2_)|with_reducible exact H|(rw [hy295];exact H)|exact H
             have Ny295:=Aside0.mk hy295
             clear hy295
             have H':=Aside0.mk H
             clear H
             have p293 : 0 ≤ (x19_1 : Int):=od
             have q293 : x19_1 < (l0.length : Int):=od
             obtain ⟨ad293,e293,hx293_0⟩:=Kd.at_bool HR0.out x19_1 p293 q293
             (try rw [← Nbq11.out] at hx293_0)
             cases e293
             replace hx293_0:=(HB.out.cell (World.block_lt_of_cell? w _ hx293_0)).trans hx293_0
             replace p293:=eq_true p293
             replace q293:=eq_true q293
             try go_wp2
             replace HO_6:=qRw HO_6
             replace HB:=qsd HB
             obtain ⟨Ao21,co21,eo21⟩:=Kd.R_slice HO_6.out
             (first|subst eo21|(injection eo21 with f1_ f2_ f3_;have f4_:=f1_.symm;have f5_:=f3_.symm;clear f1_ f2_ f3_;subst f4_;subst f5_))
             have p294 : 0 ≤ ((ji13) : Int):=od
             have q294 : (ji13) < (x6_1.length : Int):=od
             obtain ⟨ad294,e294,hx294_0⟩:=Kd.at_int (Kd.R_reads' HO_6.out).2.2 (ji13) p294 q294
             cases e294
             replace p294:=eq_true p294
             replace q294:=eq_true q294
             have p19 : 0 ≤ ((ji13) : Int):=od
             have q19 : ((ji13) : Int) < ((x6_1.length : Int) : Int):=od
             obtain ⟨go19,co19,eo19,gb19,gl19,cl19,HG19⟩:=Kd.R_form HO_6.out (by omega)
             (first|cases eo19|(injection eo19 with ea_ en_ ec_;(first|subst ea_|(injection ea_ with ea_;subst ea_));subst ec_;clear en_))
             have GB19:=Aside0.mk gb19
             have GG19:=Aside0.mk HG19
             clear gb19 gl19 HG19
             (first|simp only [add_plain] at hx294_0|skip)
             obtain ⟨hx19_0,hf19_0⟩:=Kd.R_celln 0 HO_6.out ((ji13) : Int) p19 q19
             replace p19:=eq_true p19
             replace q19:=eq_true q19
             have HP22:=Kd.R_putn HO_6.out ((ji13) : Int) (((rd x6_1 (ji13)) + (ji18)) % 256)
             rw [← Ny295.out] at HP22
             have HQ22:=Aside0.mk HP22
             clear HP22
             refine start_ (n:=14) (S:=fun w' => w'.cell? ⟨go19,((ji13)).toNat,none⟩ = some (.int .u8 (rd x6_1 (ji13)))) (ds:=[13]) #[false,false,false,false,false,false,false,false,false,false,false,false,false,false] (by kernel_rfl) rfl rfl (hx294_0) (fun hHeld => ?_);refine with_tabW sacristyref01_Bytes.tab8 sacristyref01_Bytes.bits8 (fun HT_ HW_ => ?_)
             generalize wr.drew = w20 at HO_6 HB GG19 HQ22 hf19_0 hx19_0 hx294_0 hHeld ⊢
             refine qP 0 25 HT_ ?_
             refine qP 1 26 HT_ ?_
             refine qP 2 27 HT_ ?_
             refine qP 3 28 HT_ ?_
             refine qP 4 29 HT_ ?_
             refine qP 5 30 HT_ ?_
             refine qP 6 31 HT_ ?_
             refine qP 8 33 HT_ ?_
             refine qP 9 34 HT_ ?_
             refine qP 10 35 HT_ ?_
             refine qT 7 32 HT_ HW_ hHeld ?_
             refine qP 11 36 HT_ ?_
             refine qP 12 37 HT_ ?_
             refine last_ (i:=13) (N:=none) #[true,true,true,true,true,true,true,true,true,true,true,true,true,true] rfl rfl (one_of HT_.out (by kernel_rfl)) (by decide) (fun K hK => ?_)
             refine skip_ (w1:=?_) (by rfl) rfl ?_ ?_
             rotate_left
             ·go_simp
              rfl
             refine hK.out _ _ ?_
             clear hK K
             refine qD HT_ ?_
             try go_wp2
             go_roundg k1
             case measure => have:=HK1.out;omega
             case rel => exact ⟨(y295),(wrap64 (x19_1 + 1)),(by first|rfl|(simp;done)|(simp [*];done)),H',⟨by have:=HK1.out;omega⟩,⟨qRm HQ22⟩,⟨qS HB⟩⟩
            ·rw [if_neg c17] at H
             exact absurd H (by simp)
           ·rw [if_neg c15] at H
            exact absurd H (by simp)
          ·rw [if_neg c14] at H
           exact absurd H (by simp)
         ·replace c12:=Bool.eq_false_iff.mpr c12
          subst c12
          rw [qFT] at H
          have H':=Aside0.mk H
          clear H
          have p293 : 0 ≤ (x19_1 : Int):=od
          have q293 : x19_1 < (l0.length : Int):=od
          obtain ⟨ad293,e293,hx293_0⟩:=Kd.at_bool HR0.out x19_1 p293 q293
          (try rw [← Nbq11.out] at hx293_0)
          cases e293
          replace hx293_0:=(HB.out.cell (World.block_lt_of_cell? w _ hx293_0)).trans hx293_0
          replace p293:=eq_true p293
          replace q293:=eq_true q293
          go_wp2
          go_roundg k1
          case measure => have:=HK1.out;omega
          case rel => exact ⟨(x6_1),(wrap64 (x19_1 + 1)),(by first|rfl|(simp;done)|(simp [*];done)),H',⟨by have:=HK1.out;omega⟩,⟨qRm HO_6⟩,⟨qS HB⟩⟩
        ·rw [if_neg c10] at H
         exact absurd H (by simp)
       ·rw [if_neg c9] at H
        exact absurd H (by simp)
      ·rw [if_neg c8] at H
       have c8b0 : decide (x19_1 < (l0.length : Int)) = false:=decide_eq_false c8
       clear c8
       simp only [Option.some.injEq,Prod.mk.injEq] at H
       obtain ⟨rfl,rfl⟩:=H
       go_wp2
       (first|go_ret2|(refine ⟨_,results_tmp2 rfl _ _ _,?_⟩))
       exact ⟨_,by first|rfl|(simp [errW_none,errW_some] <;> rfl)|(simp [*,errW_none,errW_some] <;> rfl),qRm HO_6,qS HB⟩
   ·rw [if_neg c5] at H
    exact absurd H (by simp)
  ·rw [if_neg c4] at H
   exact absurd H (by simp)
end Go.Proofs.Yteejcpbngnojkaa.P
end
section
namespace Go.Proofs.Yteejcpbngnojkaa.P
open Go.RowKit Go.Proofs.YteejcpbngnojkaaW.PrintWords Go.Proofs.YteejcpbngnojkaaW.PrintLast Go.Proofs.YteejcpbngnojkaaW.PrintMore
attribute [local go_sem] max2_int min2_int max_two min_two max_three min_three max_four min_four
set_option linter.unusedVariables false
set_option linter.unusedSimpArgs false
def bits_Len32.f (a0 : Int) : Option (Int):=if a0 ≥ 65536 then (if (a0 / 65536) ≥ 256 then (if 0 ≤ (((a0 / 65536) / 256) % 256) then (if (((a0 / 65536) / 256) % 256) < 256 then (some (wrap64 ((16 + 8) + (wrap64 (bt (⟨#[0,1,2,2,3,3,3,3,4,4,4,4,4,4,4,4,5,5,5,5,5,5,5,5,5,5,5,5,5,5,5,5,6,6,6,6,6,6,6,6,6,6,6,6,6,6,6,6,6,6,6,6,6,6,6,6,6,6,6,6,6,6,6,6,7,7,7,7,7,7,7,7,7,7,7,7,7,7,7,7,7,7,7,7,7,7,7,7,7,7,7,7,7,7,7,7,7,7,7,7,7,7,7,7,7,7,7,7,7,7,7,7,7,7,7,7,7,7,7,7,7,7,7,7,7,7,7,7,8,8,8,8,8,8,8,8,8,8,8,8,8,8,8,8,8,8,8,8,8,8,8,8,8,8,8,8,8,8,8,8,8,8,8,8,8,8,8,8,8,8,8,8,8,8,8,8,8,8,8,8,8,8,8,8,8,8,8,8,8,8,8,8,8,8,8,8,8,8,8,8,8,8,8,8,8,8,8,8,8,8,8,8,8,8,8,8,8,8,8,8,8,8,8,8,8,8,8,8,8,8,8,8,8,8,8,8,8,8,8,8,8,8,8,8,8,8,8,8,8,8,8,8,8,8,8,8]⟩ : ByteArray) (((a0 / 65536) / 256) % 256)))))) else (none)) else (none)) else (if 0 ≤ ((a0 / 65536) % 256) then (if ((a0 / 65536) % 256) < 256 then (some (wrap64 (16 + (wrap64 (bt (⟨#[0,1,2,2,3,3,3,3,4,4,4,4,4,4,4,4,5,5,5,5,5,5,5,5,5,5,5,5,5,5,5,5,6,6,6,6,6,6,6,6,6,6,6,6,6,6,6,6,6,6,6,6,6,6,6,6,6,6,6,6,6,6,6,6,7,7,7,7,7,7,7,7,7,7,7,7,7,7,7,7,7,7,7,7,7,7,7,7,7,7,7,7,7,7,7,7,7,7,7,7,7,7,7,7,7,7,7,7,7,7,7,7,7,7,7,7,7,7,7,7,7,7,7,7,7,7,7,7,8,8,8,8,8,8,8,8,8,8,8,8,8,8,8,8,8,8,8,8,8,8,8,8,8,8,8,8,8,8,8,8,8,8,8,8,8,8,8,8,8,8,8,8,8,8,8,8,8,8,8,8,8,8,8,8,8,8,8,8,8,8,8,8,8,8,8,8,8,8,8,8,8,8,8,8,8,8,8,8,8,8,8,8,8,8,8,8,8,8,8,8,8,8,8,8,8,8,8,8,8,8,8,8,8,8,8,8,8,8,8,8,8,8,8,8,8,8,8,8,8,8,8,8,8,8,8,8]⟩ : ByteArray) ((a0 / 65536) % 256)))))) else (none)) else (none))) else (if a0 ≥ 256 then (if 0 ≤ ((a0 / 256) % 256) then (if ((a0 / 256) % 256) < 256 then (some (wrap64 ((0 + 8) + (wrap64 (bt (⟨#[0,1,2,2,3,3,3,3,4,4,4,4,4,4,4,4,5,5,5,5,5,5,5,5,5,5,5,5,5,5,5,5,6,6,6,6,6,6,6,6,6,6,6,6,6,6,6,6,6,6,6,6,6,6,6,6,6,6,6,6,6,6,6,6,7,7,7,7,7,7,7,7,7,7,7,7,7,7,7,7,7,7,7,7,7,7,7,7,7,7,7,7,7,7,7,7,7,7,7,7,7,7,7,7,7,7,7,7,7,7,7,7,7,7,7,7,7,7,7,7,7,7,7,7,7,7,7,7,8,8,8,8,8,8,8,8,8,8,8,8,8,8,8,8,8,8,8,8,8,8,8,8,8,8,8,8,8,8,8,8,8,8,8,8,8,8,8,8,8,8,8,8,8,8,8,8,8,8,8,8,8,8,8,8,8,8,8,8,8,8,8,8,8,8,8,8,8,8,8,8,8,8,8,8,8,8,8,8,8,8,8,8,8,8,8,8,8,8,8,8,8,8,8,8,8,8,8,8,8,8,8,8,8,8,8,8,8,8,8,8,8,8,8,8,8,8,8,8,8,8,8,8,8,8,8,8]⟩ : ByteArray) ((a0 / 256) % 256)))))) else (none)) else (none)) else (if 0 ≤ ((a0) % 256) then (if ((a0) % 256) < 256 then (some (wrap64 (0 + (wrap64 (bt (⟨#[0,1,2,2,3,3,3,3,4,4,4,4,4,4,4,4,5,5,5,5,5,5,5,5,5,5,5,5,5,5,5,5,6,6,6,6,6,6,6,6,6,6,6,6,6,6,6,6,6,6,6,6,6,6,6,6,6,6,6,6,6,6,6,6,7,7,7,7,7,7,7,7,7,7,7,7,7,7,7,7,7,7,7,7,7,7,7,7,7,7,7,7,7,7,7,7,7,7,7,7,7,7,7,7,7,7,7,7,7,7,7,7,7,7,7,7,7,7,7,7,7,7,7,7,7,7,7,7,8,8,8,8,8,8,8,8,8,8,8,8,8,8,8,8,8,8,8,8,8,8,8,8,8,8,8,8,8,8,8,8,8,8,8,8,8,8,8,8,8,8,8,8,8,8,8,8,8,8,8,8,8,8,8,8,8,8,8,8,8,8,8,8,8,8,8,8,8,8,8,8,8,8,8,8,8,8,8,8,8,8,8,8,8,8,8,8,8,8,8,8,8,8,8,8,8,8,8,8,8,8,8,8,8,8,8,8,8,8,8,8,8,8,8,8,8,8,8,8,8,8,8,8,8,8,8,8]⟩ : ByteArray) ((a0) % 256)))))) else (none)) else (none)))
set_option maxHeartbeats 8000000 in
set_option maxRecDepth 100000 in
theorem bits_Len32.calls (a0 : Int) (r : Int) (w : World) (h : bits_Len32.f a0 = some r) :
  Calls Try.prog 102 #[.int .u32 a0] w fun e w' => e = .returned (.int .i64 r) ∧ Drawn0 w w':=by
 have H : (if a0 ≥ 65536 then (if (a0 / 65536) ≥ 256 then (if 0 ≤ (((a0 / 65536) / 256) % 256) then (if (((a0 / 65536) / 256) % 256) < 256 then (some (wrap64 ((16 + 8) + (wrap64 (bt (⟨#[0,1,2,2,3,3,3,3,4,4,4,4,4,4,4,4,5,5,5,5,5,5,5,5,5,5,5,5,5,5,5,5,6,6,6,6,6,6,6,6,6,6,6,6,6,6,6,6,6,6,6,6,6,6,6,6,6,6,6,6,6,6,6,6,7,7,7,7,7,7,7,7,7,7,7,7,7,7,7,7,7,7,7,7,7,7,7,7,7,7,7,7,7,7,7,7,7,7,7,7,7,7,7,7,7,7,7,7,7,7,7,7,7,7,7,7,7,7,7,7,7,7,7,7,7,7,7,7,8,8,8,8,8,8,8,8,8,8,8,8,8,8,8,8,8,8,8,8,8,8,8,8,8,8,8,8,8,8,8,8,8,8,8,8,8,8,8,8,8,8,8,8,8,8,8,8,8,8,8,8,8,8,8,8,8,8,8,8,8,8,8,8,8,8,8,8,8,8,8,8,8,8,8,8,8,8,8,8,8,8,8,8,8,8,8,8,8,8,8,8,8,8,8,8,8,8,8,8,8,8,8,8,8,8,8,8,8,8,8,8,8,8,8,8,8,8,8,8,8,8,8,8,8,8,8,8]⟩ : ByteArray) (((a0 / 65536) / 256) % 256)))))) else (none)) else (none)) else (if 0 ≤ ((a0 / 65536) % 256) then (if ((a0 / 65536) % 256) < 256 then (some (wrap64 (16 + (wrap64 (bt (⟨#[0,1,2,2,3,3,3,3,4,4,4,4,4,4,4,4,5,5,5,5,5,5,5,5,5,5,5,5,5,5,5,5,6,6,6,6,6,6,6,6,6,6,6,6,6,6,6,6,6,6,6,6,6,6,6,6,6,6,6,6,6,6,6,6,7,7,7,7,7,7,7,7,7,7,7,7,7,7,7,7,7,7,7,7,7,7,7,7,7,7,7,7,7,7,7,7,7,7,7,7,7,7,7,7,7,7,7,7,7,7,7,7,7,7,7,7,7,7,7,7,7,7,7,7,7,7,7,7,8,8,8,8,8,8,8,8,8,8,8,8,8,8,8,8,8,8,8,8,8,8,8,8,8,8,8,8,8,8,8,8,8,8,8,8,8,8,8,8,8,8,8,8,8,8,8,8,8,8,8,8,8,8,8,8,8,8,8,8,8,8,8,8,8,8,8,8,8,8,8,8,8,8,8,8,8,8,8,8,8,8,8,8,8,8,8,8,8,8,8,8,8,8,8,8,8,8,8,8,8,8,8,8,8,8,8,8,8,8,8,8,8,8,8,8,8,8,8,8,8,8,8,8,8,8,8,8]⟩ : ByteArray) ((a0 / 65536) % 256)))))) else (none)) else (none))) else (if a0 ≥ 256 then (if 0 ≤ ((a0 / 256) % 256) then (if ((a0 / 256) % 256) < 256 then (some (wrap64 ((0 + 8) + (wrap64 (bt (⟨#[0,1,2,2,3,3,3,3,4,4,4,4,4,4,4,4,5,5,5,5,5,5,5,5,5,5,5,5,5,5,5,5,6,6,6,6,6,6,6,6,6,6,6,6,6,6,6,6,6,6,6,6,6,6,6,6,6,6,6,6,6,6,6,6,7,7,7,7,7,7,7,7,7,7,7,7,7,7,7,7,7,7,7,7,7,7,7,7,7,7,7,7,7,7,7,7,7,7,7,7,7,7,7,7,7,7,7,7,7,7,7,7,7,7,7,7,7,7,7,7,7,7,7,7,7,7,7,7,8,8,8,8,8,8,8,8,8,8,8,8,8,8,8,8,8,8,8,8,8,8,8,8,8,8,8,8,8,8,8,8,8,8,8,8,8,8,8,8,8,8,8,8,8,8,8,8,8,8,8,8,8,8,8,8,8,8,8,8,8,8,8,8,8,8,8,8,8,8,8,8,8,8,8,8,8,8,8,8,8,8,8,8,8,8,8,8,8,8,8,8,8,8,8,8,8,8,8,8,8,8,8,8,8,8,8,8,8,8,8,8,8,8,8,8,8,8,8,8,8,8,8,8,8,8,8,8]⟩ : ByteArray) ((a0 / 256) % 256)))))) else (none)) else (none)) else (if 0 ≤ ((a0) % 256) then (if ((a0) % 256) < 256 then (some (wrap64 (0 + (wrap64 (bt (⟨#[0,1,2,2,3,3,3,3,4,4,4,4,4,4,4,4,5,5,5,5,5,5,5,5,5,5,5,5,5,5,5,5,6,6,6,6,6,6,6,6,6,6,6,6,6,6,6,6,6,6,6,6,6,6,6,6,6,6,6,6,6,6,6,6,7,7,7,7,7,7,7,7,7,7,7,7,7,7,7,7,7,7,7,7,7,7,7,7,7,7,7,7,7,7,7,7,7,7,7,7,7,7,7,7,7,7,7,7,7,7,7,7,7,7,7,7,7,7,7,7,7,7,7,7,7,7,7,7,8,8,8,8,8,8,8,8,8,8,8,8,8,8,8,8,8,8,8,8,8,8,8,8,8,8,8,8,8,8,8,8,8,8,8,8,8,8,8,8,8,8,8,8,8,8,8,8,8,8,8,8,8,8,8,8,8,8,8,8,8,8,8,8,8,8,8,8,8,8,8,8,8,8,8,8,8,8,8,8,8,8,8,8,8,8,8,8,8,8,8,8,8,8,8,8,8,8,8,8,8,8,8,8,8,8,8,8,8,8,8,8,8,8,8,8,8,8,8,8,8,8,8,8,8,8,8,8]⟩ : ByteArray) ((a0) % 256)))))) else (none)) else (none)))) = some r:=h
 clear h
 by_cases c2 : a0 ≥ 65536
 ·rw [if_pos c2] at H
  have c2b0 : decide (65536 ≤ a0) = true:=decide_eq_true c2
  clear c2
  by_cases c3 : (a0 / 65536) ≥ 256
  ·rw [if_pos c3] at H
   have c3b0 : decide (256 ≤ (a0 / 65536)) = true:=decide_eq_true c3
   clear c3
   obtain ⟨ji4,hji4⟩ : ∃ j_ : Int,(((a0 / 65536) / 256) % 256) = j_:=⟨_,rfl⟩
   (first|rw [hji4] at H|simp only [hji4] at H)
   by_cases c5 : 0 ≤ (ji4)
   ·rw [if_pos c5] at H
    have c5b0 : decide (0 ≤ (ji4)) = true:=decide_eq_true c5
    clear c5
    by_cases c6 : (ji4) < 256
    ·rw [if_pos c6] at H
     have c6b0 : decide ((ji4) < 256) = true:=decide_eq_true c6
     clear c6
     obtain rfl:=Option.some.inj H
     have p7 : 0 ≤ ((ji4) : Int):=od
     have q7 : (ji4) < (256 : Int):=od
     have hx7:=bt_at (⟨#[0,1,2,2,3,3,3,3,4,4,4,4,4,4,4,4,5,5,5,5,5,5,5,5,5,5,5,5,5,5,5,5,6,6,6,6,6,6,6,6,6,6,6,6,6,6,6,6,6,6,6,6,6,6,6,6,6,6,6,6,6,6,6,6,7,7,7,7,7,7,7,7,7,7,7,7,7,7,7,7,7,7,7,7,7,7,7,7,7,7,7,7,7,7,7,7,7,7,7,7,7,7,7,7,7,7,7,7,7,7,7,7,7,7,7,7,7,7,7,7,7,7,7,7,7,7,7,7,8,8,8,8,8,8,8,8,8,8,8,8,8,8,8,8,8,8,8,8,8,8,8,8,8,8,8,8,8,8,8,8,8,8,8,8,8,8,8,8,8,8,8,8,8,8,8,8,8,8,8,8,8,8,8,8,8,8,8,8,8,8,8,8,8,8,8,8,8,8,8,8,8,8,8,8,8,8,8,8,8,8,8,8,8,8,8,8,8,8,8,8,8,8,8,8,8,8,8,8,8,8,8,8,8,8,8,8,8,8,8,8,8,8,8,8,8,8,8,8,8,8,8,8,8,8,8,8]⟩ : ByteArray) (ji4)
     replace p7:=eq_true p7
     replace q7:=eq_true q7
     go_enter Try.func102,Try.ntmps102
     go_wp2
     (first|go_ret|(refine ⟨_,results_tmp rfl _ _ _,?_⟩))
     exact ⟨by first|rfl|(simp;done)|(simp only [← hji4] <;> (first|rfl|simp))|(simp [*];done),by repeat (first|exact Drawn0.refl _|apply Drawn0.step)⟩
    ·rw [if_neg c6] at H
     exact absurd H (by simp)
   ·rw [if_neg c5] at H
    exact absurd H (by simp)
  ·rw [if_neg c3] at H
   have c3b0 : decide (256 ≤ (a0 / 65536)) = false:=decide_eq_false c3
   clear c3
   obtain ⟨ji8,hji8⟩ : ∃ j_ : Int,((a0 / 65536) % 256) = j_:=⟨_,rfl⟩
   (first|rw [hji8] at H|simp only [hji8] at H)
   by_cases c9 : 0 ≤ (ji8)
   ·rw [if_pos c9] at H
    have c9b0 : decide (0 ≤ (ji8)) = true:=decide_eq_true c9
    clear c9
    by_cases c10 : (ji8) < 256
    ·rw [if_pos c10] at H
     have c10b0 : decide ((ji8) < 256) = true:=decide_eq_true c10
     clear c10
     obtain rfl:=Option.some.inj H
     have p11 : 0 ≤ ((ji8) : Int):=od
     have q11 : (ji8) < (256 : Int):=od
     have hx11:=bt_at (⟨#[0,1,2,2,3,3,3,3,4,4,4,4,4,4,4,4,5,5,5,5,5,5,5,5,5,5,5,5,5,5,5,5,6,6,6,6,6,6,6,6,6,6,6,6,6,6,6,6,6,6,6,6,6,6,6,6,6,6,6,6,6,6,6,6,7,7,7,7,7,7,7,7,7,7,7,7,7,7,7,7,7,7,7,7,7,7,7,7,7,7,7,7,7,7,7,7,7,7,7,7,7,7,7,7,7,7,7,7,7,7,7,7,7,7,7,7,7,7,7,7,7,7,7,7,7,7,7,7,8,8,8,8,8,8,8,8,8,8,8,8,8,8,8,8,8,8,8,8,8,8,8,8,8,8,8,8,8,8,8,8,8,8,8,8,8,8,8,8,8,8,8,8,8,8,8,8,8,8,8,8,8,8,8,8,8,8,8,8,8,8,8,8,8,8,8,8,8,8,8,8,8,8,8,8,8,8,8,8,8,8,8,8,8,8,8,8,8,8,8,8,8,8,8,8,8,8,8,8,8,8,8,8,8,8,8,8,8,8,8,8,8,8,8,8,8,8,8,8,8,8,8,8,8,8,8,8]⟩ : ByteArray) (ji8)
     replace p11:=eq_true p11
     replace q11:=eq_true q11
     go_enter Try.func102,Try.ntmps102
     go_wp2
     (first|go_ret|(refine ⟨_,results_tmp rfl _ _ _,?_⟩))
     exact ⟨by first|rfl|(simp;done)|(simp only [← hji8] <;> (first|rfl|simp))|(simp [*];done),by repeat (first|exact Drawn0.refl _|apply Drawn0.step)⟩
    ·rw [if_neg c10] at H
     exact absurd H (by simp)
   ·rw [if_neg c9] at H
    exact absurd H (by simp)
 ·rw [if_neg c2] at H
  have c2b0 : decide (65536 ≤ a0) = false:=decide_eq_false c2
  clear c2
  by_cases c12 : a0 ≥ 256
  ·rw [if_pos c12] at H
   have c12b0 : decide (256 ≤ a0) = true:=decide_eq_true c12
   clear c12
   obtain ⟨ji13,hji13⟩ : ∃ j_ : Int,((a0 / 256) % 256) = j_:=⟨_,rfl⟩
   (first|rw [hji13] at H|simp only [hji13] at H)
   by_cases c14 : 0 ≤ (ji13)
   ·rw [if_pos c14] at H
    have c14b0 : decide (0 ≤ (ji13)) = true:=decide_eq_true c14
    clear c14
    by_cases c15 : (ji13) < 256
    ·rw [if_pos c15] at H
     have c15b0 : decide ((ji13) < 256) = true:=decide_eq_true c15
     clear c15
     obtain rfl:=Option.some.inj H
     have p16 : 0 ≤ ((ji13) : Int):=od
     have q16 : (ji13) < (256 : Int):=od
     have hx16:=bt_at (⟨#[0,1,2,2,3,3,3,3,4,4,4,4,4,4,4,4,5,5,5,5,5,5,5,5,5,5,5,5,5,5,5,5,6,6,6,6,6,6,6,6,6,6,6,6,6,6,6,6,6,6,6,6,6,6,6,6,6,6,6,6,6,6,6,6,7,7,7,7,7,7,7,7,7,7,7,7,7,7,7,7,7,7,7,7,7,7,7,7,7,7,7,7,7,7,7,7,7,7,7,7,7,7,7,7,7,7,7,7,7,7,7,7,7,7,7,7,7,7,7,7,7,7,7,7,7,7,7,7,8,8,8,8,8,8,8,8,8,8,8,8,8,8,8,8,8,8,8,8,8,8,8,8,8,8,8,8,8,8,8,8,8,8,8,8,8,8,8,8,8,8,8,8,8,8,8,8,8,8,8,8,8,8,8,8,8,8,8,8,8,8,8,8,8,8,8,8,8,8,8,8,8,8,8,8,8,8,8,8,8,8,8,8,8,8,8,8,8,8,8,8,8,8,8,8,8,8,8,8,8,8,8,8,8,8,8,8,8,8,8,8,8,8,8,8,8,8,8,8,8,8,8,8,8,8,8,8]⟩ : ByteArray) (ji13)
     replace p16:=eq_true p16
     replace q16:=eq_true q16
     go_enter Try.func102,Try.ntmps102
     go_wp2
     (first|go_ret|(refine ⟨_,results_tmp rfl _ _ _,?_⟩))
     exact ⟨by first|rfl|(simp;done)|(simp only [← hji13] <;> (first|rfl|simp))|(simp [*];done),by repeat (first|exact Drawn0.refl _|apply Drawn0.step)⟩
    ·rw [if_neg c15] at H
     exact absurd H (by simp)
   ·rw [if_neg c14] at H
    exact absurd H (by simp)
  ·rw [if_neg c12] at H
   have c12b0 : decide (256 ≤ a0) = false:=decide_eq_false c12
   clear c12
   obtain ⟨ji17,hji17⟩ : ∃ j_ : Int,((a0) % 256) = j_:=⟨_,rfl⟩
   (first|rw [hji17] at H|simp only [hji17] at H)
   by_cases c18 : 0 ≤ (ji17)
   ·rw [if_pos c18] at H
    have c18b0 : decide (0 ≤ (ji17)) = true:=decide_eq_true c18
    clear c18
    by_cases c19 : (ji17) < 256
    ·rw [if_pos c19] at H
     have c19b0 : decide ((ji17) < 256) = true:=decide_eq_true c19
     clear c19
     obtain rfl:=Option.some.inj H
     have p20 : 0 ≤ ((ji17) : Int):=od
     have q20 : (ji17) < (256 : Int):=od
     have hx20:=bt_at (⟨#[0,1,2,2,3,3,3,3,4,4,4,4,4,4,4,4,5,5,5,5,5,5,5,5,5,5,5,5,5,5,5,5,6,6,6,6,6,6,6,6,6,6,6,6,6,6,6,6,6,6,6,6,6,6,6,6,6,6,6,6,6,6,6,6,7,7,7,7,7,7,7,7,7,7,7,7,7,7,7,7,7,7,7,7,7,7,7,7,7,7,7,7,7,7,7,7,7,7,7,7,7,7,7,7,7,7,7,7,7,7,7,7,7,7,7,7,7,7,7,7,7,7,7,7,7,7,7,7,8,8,8,8,8,8,8,8,8,8,8,8,8,8,8,8,8,8,8,8,8,8,8,8,8,8,8,8,8,8,8,8,8,8,8,8,8,8,8,8,8,8,8,8,8,8,8,8,8,8,8,8,8,8,8,8,8,8,8,8,8,8,8,8,8,8,8,8,8,8,8,8,8,8,8,8,8,8,8,8,8,8,8,8,8,8,8,8,8,8,8,8,8,8,8,8,8,8,8,8,8,8,8,8,8,8,8,8,8,8,8,8,8,8,8,8,8,8,8,8,8,8,8,8,8,8,8,8]⟩ : ByteArray) (ji17)
     replace p20:=eq_true p20
     replace q20:=eq_true q20
     go_enter Try.func102,Try.ntmps102
     go_wp2
     (first|go_ret|(refine ⟨_,results_tmp rfl _ _ _,?_⟩))
     exact ⟨by first|rfl|(simp;done)|(simp only [← hji17] <;> (first|rfl|simp))|(simp [*];done),by repeat (first|exact Drawn0.refl _|apply Drawn0.step)⟩
    ·rw [if_neg c19] at H
     exact absurd H (by simp)
   ·rw [if_neg c18] at H
    exact absurd H (by simp)
end Go.Proofs.Yteejcpbngnojkaa.P
end
section
namespace Go.Proofs.Yteejcpbngnojkaa.P
open Go.RowKit Go.Proofs.YteejcpbngnojkaaW.PrintWords Go.Proofs.YteejcpbngnojkaaW.PrintLast Go.Proofs.YteejcpbngnojkaaW.PrintMore
attribute [local go_sem] max2_int min2_int max_two min_two max_three min_three max_four min_four
set_option linter.unusedVariables false
set_option linter.unusedSimpArgs false
def nat_Nat_Bits.f (l0_0 : List Int) : Option (Int):=if (l0_0.length : Int) = 0 then (some 0) else (if 0 ≤ (wrap64 ((l0_0.length : Int) - 1)) then (if (wrap64 ((l0_0.length : Int) - 1)) < (l0_0.length : Int) then ((bits_Len32.f (rd l0_0 (wrap64 ((l0_0.length : Int) - 1)))).bind fun t298 => (some (wrap64 ((wrap64 (32 * (wrap64 ((l0_0.length : Int) - 1)))) + t298)))) else (none)) else (none))
set_option maxHeartbeats 8000000 in
set_option maxRecDepth 100000 in
theorem nat_Nat_Bits.calls (A0_0 : Option Addr) (c0_0 : Nat) (l0_0 : List Int) (r : Int) (w : World) (hr0_0 : Kd.C (Kd.int .u32) w A0_0 l0_0.length l0_0) (hc0_0 : l0_0.length ≤ c0_0) (h : nat_Nat_Bits.f l0_0 = some r) :
  Calls Try.prog 42 #[.agg #[.slice A0_0 l0_0.length c0_0]] w fun e w' => e = .returned (.int .i64 r) ∧ Below w.heap.size w w':=by
 have hu38:=Try.underlying38
 have HR0_0:=Aside0.mk hr0_0
 have HC0_0:=Aside0.mk hc0_0
 clear hr0_0 hc0_0
 have HB:=Aside0.mk (Below.refl w.heap.size w)
 have H : (if (l0_0.length : Int) = 0 then (some 0) else (if 0 ≤ (wrap64 ((l0_0.length : Int) - 1)) then (if (wrap64 ((l0_0.length : Int) - 1)) < (l0_0.length : Int) then ((bits_Len32.f (rd l0_0 (wrap64 ((l0_0.length : Int) - 1)))).bind fun t298 => (some (wrap64 ((wrap64 (32 * (wrap64 ((l0_0.length : Int) - 1)))) + t298)))) else (none)) else (none))) = some r:=h
 clear h
 by_cases c2 : (l0_0.length : Int) = 0
 ·rw [if_pos c2] at H
  have c2b0 : ((l0_0.length : Int) == 0) = true:=beq_iff_eq.mpr c2
  have c2b1 : ((l0_0.length : Int) != 0) = false:=bne_eq_false_iff_eq.mpr c2
  clear c2
  obtain rfl:=Option.some.inj H
  go_enter Try.func42,Try.ntmps42
  go_wp2_with (first|((with_reducible refine gate_dst (N:=1) rfl ?_);refine qX #[.slice A0_0 l0_0.length c0_0] 38 ?_;intro gb296 hg w3 hbox hb;have BK296:=Aside0.mk hbox;have GE296:=qh hg HB;replace HB:=qs HB hb;clear hb hbox hg;have hcz4_0:=bc BK296;have hfz4_0:=bz BK296))
  repeat (go_quiet (first|((with_reducible refine gate_dst (N:=1) rfl ?_);refine qX #[.slice A0_0 l0_0.length c0_0] 38 ?_;intro gb296 hg w3 hbox hb;have BK296:=Aside0.mk hbox;have GE296:=qh hg HB;replace HB:=qs HB hb;clear hb hbox hg;have hcz4_0:=bc BK296;have hfz4_0:=bz BK296));try go_wp2_with (first|((with_reducible refine gate_dst (N:=1) rfl ?_);refine qX #[.slice A0_0 l0_0.length c0_0] 38 ?_;intro gb296 hg w3 hbox hb;have BK296:=Aside0.mk hbox;have GE296:=qh hg HB;replace HB:=qs HB hb;clear hb hbox hg;have hcz4_0:=bc BK296;have hfz4_0:=bz BK296)))
  (first|go_ret|(refine ⟨_,results_tmp rfl _ _ _,?_⟩))
  exact ⟨by first|rfl|(simp [errW_none,errW_some] <;> rfl)|(simp [*,errW_none,errW_some] <;> rfl),qS HB⟩
 ·rw [if_neg c2] at H
  have c2b0 : ((l0_0.length : Int) == 0) = false:=beq_eq_false_iff_ne.mpr c2
  have c2b1 : ((l0_0.length : Int) != 0) = true:=bne_iff_ne.mpr c2
  have c2b2 : ¬ (l0_0 = []):=fun h_ => c2 (by rw [h_];rfl)
  obtain ⟨ji5,hji5⟩ : ∃ j_ : Int,(wrap64 ((l0_0.length : Int) - 1)) = j_:=⟨_,rfl⟩
  (first|rw [hji5] at H|simp only [hji5] at H)
  have hji5w : (IntKind.i64.wrap ((l0_0.length : Int) - 1)) = ji5:=(i64_w _).trans hji5
  by_cases c6 : 0 ≤ (ji5)
  ·rw [if_pos c6] at H
   have c6b0 : decide (0 ≤ (ji5)) = true:=decide_eq_true c6
   clear c6
   by_cases c7 : (ji5) < (l0_0.length : Int)
   ·rw [if_pos c7] at H
    have c7b0 : decide ((ji5) < (l0_0.length : Int)) = true:=decide_eq_true c7
    clear c7
    obtain ⟨t298,A8,H⟩:=qH H
    obtain rfl:=Option.some.inj H
    go_enter Try.func42,Try.ntmps42
    go_wp2_with (first|((with_reducible refine gate_dst (N:=1) rfl ?_);refine qX #[.slice A0_0 l0_0.length c0_0] 38 ?_;intro gb296 hg w9 hbox hb;have BK296:=Aside0.mk hbox;have GE296:=qh hg HB;replace HB:=qs HB hb;clear hb hbox hg;have hcz10_0:=bc BK296;have hfz10_0:=bz BK296;have p297 : 0 ≤ ((ji5) : Int):=od;have q297 : (ji5) < (l0_0.length : Int):=od;obtain ⟨ad297,e297,hx297_0⟩:=Kd.at_int HR0_0.out (ji5) p297 q297;cases e297;replace hx297_0:=(HB.out.cell (World.block_lt_of_cell? w _ hx297_0)).trans hx297_0;replace p297:=eq_true p297;replace q297:=eq_true q297)|(go_at_call 102;(with_reducible refine (bits_Len32.calls (rd l0_0 (ji5)) t298 _ A8.out).mono ?_);rintro e w' ⟨rfl,⟨nd,rfl⟩⟩;(try first|exact ⟨rfl,_,World.drewN_drewN _ _ _⟩|exact ⟨rfl,_,Eq.trans (World.drewN_drewN _ _ _) (congrArg (World.drewN _) (Nat.add_assoc _ _ _))⟩)))
    repeat (go_quiet (first|((with_reducible refine gate_dst (N:=1) rfl ?_);refine qX #[.slice A0_0 l0_0.length c0_0] 38 ?_;intro gb296 hg w9 hbox hb;have BK296:=Aside0.mk hbox;have GE296:=qh hg HB;replace HB:=qs HB hb;clear hb hbox hg;have hcz10_0:=bc BK296;have hfz10_0:=bz BK296;have p297 : 0 ≤ ((ji5) : Int):=od;have q297 : (ji5) < (l0_0.length : Int):=od;obtain ⟨ad297,e297,hx297_0⟩:=Kd.at_int HR0_0.out (ji5) p297 q297;cases e297;replace hx297_0:=(HB.out.cell (World.block_lt_of_cell? w _ hx297_0)).trans hx297_0;replace p297:=eq_true p297;replace q297:=eq_true q297)|(go_at_call 102;(with_reducible refine (bits_Len32.calls (rd l0_0 (ji5)) t298 _ A8.out).mono ?_);rintro e w' ⟨rfl,⟨nd,rfl⟩⟩;(try first|exact ⟨rfl,_,World.drewN_drewN _ _ _⟩|exact ⟨rfl,_,Eq.trans (World.drewN_drewN _ _ _) (congrArg (World.drewN _) (Nat.add_assoc _ _ _))⟩)));try go_wp2_with (first|((with_reducible refine gate_dst (N:=1) rfl ?_);refine qX #[.slice A0_0 l0_0.length c0_0] 38 ?_;intro gb296 hg w9 hbox hb;have BK296:=Aside0.mk hbox;have GE296:=qh hg HB;replace HB:=qs HB hb;clear hb hbox hg;have hcz10_0:=bc BK296;have hfz10_0:=bz BK296;have p297 : 0 ≤ ((ji5) : Int):=od;have q297 : (ji5) < (l0_0.length : Int):=od;obtain ⟨ad297,e297,hx297_0⟩:=Kd.at_int HR0_0.out (ji5) p297 q297;cases e297;replace hx297_0:=(HB.out.cell (World.block_lt_of_cell? w _ hx297_0)).trans hx297_0;replace p297:=eq_true p297;replace q297:=eq_true q297)|(go_at_call 102;(with_reducible refine (bits_Len32.calls (rd l0_0 (ji5)) t298 _ A8.out).mono ?_);rintro e w' ⟨rfl,⟨nd,rfl⟩⟩;(try first|exact ⟨rfl,_,World.drewN_drewN _ _ _⟩|exact ⟨rfl,_,Eq.trans (World.drewN_drewN _ _ _) (congrArg (World.drewN _) (Nat.add_assoc _ _ _))⟩))))
    (first|go_ret|(refine ⟨_,results_tmp rfl _ _ _,?_⟩))
    exact ⟨by first|rfl|(simp [errW_none,errW_some] <;> rfl)|(simp only [← hji5];first|rfl|(simp [errW_none,errW_some] <;> rfl))|(simp [*,errW_none,errW_some] <;> rfl),qS HB⟩
   ·rw [if_neg c7] at H
    exact absurd H (by simp)
  ·rw [if_neg c6] at H
   exact absurd H (by simp)
end Go.Proofs.Yteejcpbngnojkaa.P
end
section
namespace Go.Proofs.Yteejcpbngnojkaa.P
open Go.RowKit Go.Proofs.YteejcpbngnojkaaW.PrintWords Go.Proofs.YteejcpbngnojkaaW.PrintLast Go.Proofs.YteejcpbngnojkaaW.PrintMore
attribute [local go_sem] max2_int min2_int max_two min_two max_three min_three max_four min_four
set_option linter.unusedVariables false
set_option linter.unusedSimpArgs false
def nat_Nat_Bytes.l0 : Nat → Int → List Int → Int → Int → List Int → Option (List Int × Int)
 |0,_,_,_,_,_ => none
 |k + 1,x1,x7,x20,x21,x300000 => if x21 < x20 then (if 0 ≤ (wrap64 (Int.tdiv x21 4)) then (if (wrap64 (Int.tdiv x21 4)) < (x300000.length : Int) then (if 0 ≤ (wrap64 (8 * (Int.tmod x21 4))) then (if 0 ≤ (wrap64 ((wrap64 (x1 - 1)) - x21)) then (if (wrap64 ((wrap64 (x1 - 1)) - x21)) < (x7.length : Int) then (nat_Nat_Bytes.l0 k x1 (x7.set ((wrap64 ((wrap64 (x1 - 1)) - x21)) : Int).toNat ((shr .u32 (rd x300000 (wrap64 (Int.tdiv x21 4))) (wrap64 (8 * (Int.tmod x21 4)))) % 256)) x20 (wrap64 (x21 + 1)) x300000) else (none)) else (none)) else (none)) else (none)) else (none)) else (some (x7,0))
def nat_Nat_Bytes.f (k : Nat) (l0_0 : List Int) (a1 : Int) : Option (List Int × Int):=if a1 < 0 then (some (([] : List Int),1)) else ((nat_Nat_Bits.f l0_0).bind fun t300 => (if (wrap64 (Int.tdiv (wrap64 (t300 + 7)) 8)) > a1 then (some (([] : List Int),2)) else (if 0 ≤ a1 then (if (a1 : Int).toNat ≤ 281474976710656 then (nat_Nat_Bytes.l0 k a1 (List.replicate (a1 : Int).toNat 0) (wrap64 (Int.tdiv (wrap64 (t300 + 7)) 8)) 0 l0_0) else (none)) else (none))))
theorem nat_Nat_Bytes.mono_l : ∀ k,(∀ y0 y1 y2 y3 y4,LeO (nat_Nat_Bytes.l0 k y0 y1 y2 y3 y4) (nat_Nat_Bytes.l0 (k + 1) y0 y1 y2 y3 y4))
 |0 => fun _ _ _ _ _ r h => by simp [nat_Nat_Bytes.l0] at h
 |k + 1 => by
  have ih0:=nat_Nat_Bytes.mono_l k
  ·intro y0 y1 y2 y3 y4
   unfold nat_Nat_Bytes.l0
   repeat' first
   |(with_reducible exact ih0 _ _ _ _ _)
   |(with_reducible exact LeO.refl _)
   |(with_reducible exact LeO.none _)
   |(with_reducible refine LeO.ite ?_ ?_)
   |(with_reducible refine LeO.bind ?_ (fun _ => ?_))
   |exact ih0 _ _ _ _ _
   |exact LeO.none _
   |refine LeO.ite ?_ ?_
   |refine LeO.bind ?_ (fun _ => ?_)
theorem nat_Nat_Bytes.mono : ∀ a0 a1 k,LeO (nat_Nat_Bytes.f k a0 a1) (nat_Nat_Bytes.f (k + 1) a0 a1):=by
 intro a0 a1 k
 have ih0:=nat_Nat_Bytes.mono_l k
 unfold nat_Nat_Bytes.f
 repeat' first
   |(with_reducible exact ih0 _ _ _ _ _)
   |(with_reducible exact LeO.refl _)
   |(with_reducible exact LeO.none _)
   |(with_reducible refine LeO.ite ?_ ?_)
   |(with_reducible refine LeO.bind ?_ (fun _ => ?_))
   |exact ih0 _ _ _ _ _
   |exact LeO.none _
   |refine LeO.ite ?_ ?_
   |refine LeO.bind ?_ (fun _ => ?_)
set_option maxHeartbeats 8000000 in
set_option maxRecDepth 100000 in
theorem nat_Nat_Bytes.calls (k : Nat) (A0_0 : Option Addr) (c0_0 : Nat) (l0_0 : List Int) (a1 : Int) (r1 : List Int) (r2 : Int) (w : World) (hr0_0 : Kd.C (Kd.int .u32) w A0_0 l0_0.length l0_0) (hc0_0 : l0_0.length ≤ c0_0) (h : nat_Nat_Bytes.f k l0_0 a1 = some (r1,r2)) :
  Calls Try.prog 38 #[.agg #[.slice A0_0 l0_0.length c0_0],.int .i64 a1] w fun e w' => ∃ v0_ : Value,e = .returned (.tuple #[v0_,.int .i64 r2]) ∧ Kd.R (Kd.int .u8) 5 w' w.heap.size (fun _ => True) v0_ r1 ∧ Below w.heap.size w w':=by
 have hu38:=Try.underlying38
 have HR0_0:=Aside0.mk hr0_0
 have HC0_0:=Aside0.mk hc0_0
 clear hr0_0 hc0_0
 have HB:=Aside0.mk (Below.refl w.heap.size w)
 have H : (if a1 < 0 then (some (([] : List Int),1)) else ((nat_Nat_Bits.f l0_0).bind fun t300 => (if (wrap64 (Int.tdiv (wrap64 (t300 + 7)) 8)) > a1 then (some (([] : List Int),2)) else (if 0 ≤ a1 then (if (a1 : Int).toNat ≤ 281474976710656 then (nat_Nat_Bytes.l0 k a1 (List.replicate (a1 : Int).toNat 0) (wrap64 (Int.tdiv (wrap64 (t300 + 7)) 8)) 0 l0_0) else (none)) else (none))))) = some (r1,r2):=h
 clear h
 by_cases c3 : a1 < 0
 ·rw [if_pos c3] at H
  have c3b0 : decide (a1 < 0) = true:=decide_eq_true c3
  clear c3
  simp only [Option.some.injEq,Prod.mk.injEq] at H
  obtain ⟨rfl,rfl⟩:=H
  go_enter Try.func38,Try.ntmps38
  go_wp2_with (first|((with_reducible refine gate_dst (N:=2) rfl ?_);refine qX #[.slice A0_0 l0_0.length c0_0] 38 ?_;intro gb299 hg w4 hbox hb;have BK299:=Aside0.mk hbox;have GE299:=qh hg HB;replace HB:=qs HB hb;clear hb hbox hg))
  (first|go_ret2|(refine ⟨_,results_tmp2 rfl _ _ _,?_⟩))
  exact ⟨_,by first|rfl|(simp [errW_none,errW_some] <;> rfl)|(simp [*,errW_none,errW_some] <;> rfl),by first|exact Kd.R_nil _ _ _ _ _|exact Kd.N_nil _ _ _ _ _|exact Kd.V_nil _ _ _ _ _|exact Kd.Q_nil _ _ _ _ _|exact Kd.S_nil _ _ _ _ _,qS HB⟩
 ·rw [if_neg c3] at H
  have c3b0 : decide (a1 < 0) = false:=decide_eq_false c3
  clear c3
  obtain ⟨t300,A5,H⟩:=qH H
  by_cases c6 : (wrap64 (Int.tdiv (wrap64 (t300 + 7)) 8)) > a1
  ·rw [if_pos c6] at H
   have c6b0 : decide (a1 < (wrap64 (Int.tdiv (wrap64 (t300 + 7)) 8))) = true:=decide_eq_true c6
   clear c6
   simp only [Option.some.injEq,Prod.mk.injEq] at H
   obtain ⟨rfl,rfl⟩:=H
   go_enter Try.func38,Try.ntmps38
   go_wp2_with (first|((with_reducible refine gate_dst (N:=2) rfl ?_);refine qX #[.slice A0_0 l0_0.length c0_0] 38 ?_;intro gb299 hg w7 hbox hb;have BK299:=Aside0.mk hbox;have GE299:=qh hg HB;replace HB:=qs HB hb;clear hb hbox hg;have hcz8_0:=bc BK299;have hfz8_0:=bz BK299)|((with_reducible refine gate_callee (f:=42) rfl ?_);refine gL (some 12) Try.func42 #[.agg #[.slice A0_0 l0_0.length c0_0]] ?_;(with_reducible refine (nat_Nat_Bits.calls _ _ l0_0 t300 _ ?side1 ?side2 A5.out).mono ?_);(case side1 => exact qCB HR0_0 HB);(case side2 => exact HC0_0.out);rintro e w9 ⟨rfl,hb⟩;refine ⟨_,rfl,?_⟩;replace BK299:=qb BK299 hb;replace HB:=qs HB hb;clear hb))
   (first|go_ret2|(refine ⟨_,results_tmp2 rfl _ _ _,?_⟩))
   exact ⟨_,by first|rfl|(simp [errW_none,errW_some] <;> rfl)|(simp [*,errW_none,errW_some] <;> rfl),by first|exact Kd.R_nil _ _ _ _ _|exact Kd.N_nil _ _ _ _ _|exact Kd.V_nil _ _ _ _ _|exact Kd.Q_nil _ _ _ _ _|exact Kd.S_nil _ _ _ _ _,qS HB⟩
  ·rw [if_neg c6] at H
   have c6b0 : decide (a1 < (wrap64 (Int.tdiv (wrap64 (t300 + 7)) 8))) = false:=decide_eq_false c6
   clear c6
   by_cases c10 : 0 ≤ a1
   ·rw [if_pos c10] at H
    have c10b0:=eq_true c10
    have c10b1 : decide (0 ≤ a1) = true:=decide_eq_true c10
    clear c10
    by_cases c11 : (a1 : Int).toNat ≤ 281474976710656
    ·rw [if_pos c11] at H
     have c11b0:=eq_true c11
     have c11b1 : decide ((a1 : Int).toNat ≤ 281474976710656) = true:=decide_eq_true c11
     clear c11
     obtain ⟨y301,hy301⟩ : ∃ y_ : List Int,y_ = (List.replicate (a1 : Int).toNat 0):=⟨_,rfl⟩
     replace H : (nat_Nat_Bytes.l0 k a1 y301 (wrap64 (Int.tdiv (wrap64 (t300 + 7)) 8)) 0 l0_0) = some (r1,r2):=by first|(rw [hy301];with_reducible exact H)|(have H2_:=(Option.bind_some _ _).symm.trans H;rw [hy301];with_reducible exact H2_)|(have H2_:=(Option.bind_some _ _).symm.trans H;with_reducible exact H2_)|with_reducible exact H|(rw [hy301];exact H)|exact H
     have Ny301:=Aside0.mk hy301
     clear hy301
     have H':=Aside0.mk H
     clear H
     go_enter Try.func38,Try.ntmps38
     go_wp2_with (first|((with_reducible refine gate_dst (N:=2) rfl ?_);refine qX #[.slice A0_0 l0_0.length c0_0] 38 ?_;intro gb299 hg w12 hbox hb;have BK299:=Aside0.mk hbox;have GE299:=qh hg HB;replace HB:=qs HB hb;clear hb hbox hg;have hcz13_0:=bc BK299;have hfz13_0:=bz BK299)|((with_reducible refine gate_callee (f:=42) rfl ?_);refine gL (some 12) Try.func42 #[.agg #[.slice A0_0 l0_0.length c0_0]] ?_;(with_reducible refine (nat_Nat_Bits.calls _ _ l0_0 t300 _ ?side1 ?side2 A5.out).mono ?_);(case side1 => exact qCB HR0_0 HB);(case side2 => exact HC0_0.out);rintro e w14 ⟨rfl,hb⟩;refine ⟨_,rfl,?_⟩;replace BK299:=qb BK299 hb;replace HB:=qs HB hb;clear hb)|((with_reducible refine gate_dst (N:=19) rfl ?_);refine Kd.R_make (Kd.int .u8) _ 5 rfl (N:=19) rfl 22 _ _ rfl a1 rfl rfl Try.underlying22 (.int .u8 0) 1 info5 rfl (by decide) (by omega) 0 (ok:=fun _ => True) (okp:=fun _ => True) rfl (fun _ hk => hk) trivial (od) (Nat.le_trans (Nat.mul_le_mul_right _ (od : a1.toNat ≤ 281474976710656)) (by omega)) (Below.refl _ _) (Nat.le_refl _) ?_;intro v302 w15 ho16 hb hg_ hnew_;clear hg_ hnew_;(first|rw [← Ny301.out] at ho16|(simp only [Int.reduceToNat] at ho16;rw [← Ny301.out] at ho16));have HO303:=Aside0.mk (Kd.R_lower ho16 (below_size (qS HB)));replace BK299:=qb BK299 hb;replace HB:=qs HB hb;clear hb ho16))
     go_loopg [21] k (fun kq v21 w' => ∃ (x7_1 : List Int) (x21_1 : Int),v21 = .int .i64 x21_1 ∧ Aside0 (nat_Nat_Bytes.l0 kq a1 x7_1 (wrap64 (Int.tdiv (wrap64 (t300 + 7)) 8)) x21_1 l0_0 = some (r1,r2)) ∧ Aside0 (kq ≤ k) ∧ Aside0 (Kd.R (Kd.int .u8) 5 w' w.heap.size (fun _ => True) v302 x7_1) ∧ Aside0 (w'.heap[gb299]? = some (.cells #[(.slice A0_0 l0_0.length c0_0)] 38 (0,0))) ∧ Aside0 (Below w.heap.size w w'))
     case atStart => exact ⟨(y301),(0),(by first|rfl|(simp;done)|(simp [*];done)),H',⟨Nat.le_refl _⟩,⟨qRm HO303⟩,⟨qB BK299.out⟩,⟨qS HB⟩⟩
     case round =>
      clear H'
      try clear c1
      try clear p2
      try clear c3
      try clear c3b0
      try clear c4
      try clear c6
      try clear c6b0
      try clear p6
      try clear c10
      try clear c10b0
      try clear c10b1
      try clear c11
      try clear c11b0
      try clear c11b1
      try clear hcz13_0
      try clear hcz8_0
      try clear hfz13_0
      try clear hfz8_0
      obtain ⟨x7_1,x21_1,rfl,HA,HK1,HO_7,BK299,HB⟩:=hrel
      cases gk with
      |zero => exact absurd HA.out (by simp [nat_Nat_Bytes.l0])
      |succ k1 =>
       have H:=HA.out
       clear HA
       simp only [nat_Nat_Bytes.l0] at H
       by_cases c17 : x21_1 < (wrap64 (Int.tdiv (wrap64 (t300 + 7)) 8))
       ·rw [if_pos c17] at H
        have c17b0 : decide (x21_1 < (wrap64 (Int.tdiv (wrap64 (t300 + 7)) 8))) = true:=decide_eq_true c17
        clear c17
        obtain ⟨ji18,hji18⟩ : ∃ j_ : Int,(wrap64 (Int.tdiv x21_1 4)) = j_:=⟨_,rfl⟩
        (first|rw [hji18] at H|simp only [hji18] at H)
        have hji18w : (IntKind.i64.wrap (Int.tdiv x21_1 4)) = ji18:=(i64_w _).trans hji18
        by_cases c19 : 0 ≤ (ji18)
        ·rw [if_pos c19] at H
         have c19b0 : decide (0 ≤ (ji18)) = true:=decide_eq_true c19
         clear c19
         by_cases c20 : (ji18) < (l0_0.length : Int)
         ·rw [if_pos c20] at H
          have c20b0 : decide ((ji18) < (l0_0.length : Int)) = true:=decide_eq_true c20
          clear c20
          obtain ⟨ji21,hji21⟩ : ∃ j_ : Int,(wrap64 (8 * (Int.tmod x21_1 4))) = j_:=⟨_,rfl⟩
          (first|rw [hji21] at H|simp only [hji21] at H)
          have hji21w : (IntKind.i64.wrap (8 * (Int.tmod x21_1 4))) = ji21:=(i64_w _).trans hji21
          by_cases c22 : 0 ≤ (ji21)
          ·rw [if_pos c22] at H
           have c22b0:=eq_true c22
           have c22b1 : decide (0 ≤ (ji21)) = true:=decide_eq_true c22
           clear c22
           obtain ⟨ji23,hji23⟩ : ∃ j_ : Int,(shr .u32 (rd l0_0 (ji18)) (ji21)) = j_:=⟨_,rfl⟩
           (first|rw [hji23] at H|simp only [hji23] at H)
           have hji23_ : ((rd l0_0 (ji18)) / 2 ^ min (ji21).toNat 32) = ji23:=hji23
           have hji23z : (ji21) ≤ 32 → ((rd l0_0 (ji18)) / 2 ^ (ji21).toNat) = ji23:=shr_small hji23
           obtain ⟨ji24,hji24⟩ : ∃ j_ : Int,(wrap64 ((wrap64 (a1 - 1)) - x21_1)) = j_:=⟨_,rfl⟩
           (first|rw [hji24] at H|simp only [hji24] at H)
           have hji24w : (IntKind.i64.wrap ((wrap64 (a1 - 1)) - x21_1)) = ji24:=(i64_w _).trans hji24
           by_cases c25 : 0 ≤ (ji24)
           ·rw [if_pos c25] at H
            have c25b0 : decide (0 ≤ (ji24)) = true:=decide_eq_true c25
            clear c25
            by_cases c26 : (ji24) < (x7_1.length : Int)
            ·rw [if_pos c26] at H
             have c26b0 : decide ((ji24) < (x7_1.length : Int)) = true:=decide_eq_true c26
             clear c26
             obtain ⟨y305,hy305⟩ : ∃ y_ : List Int,y_ = (x7_1.set ((ji24) : Int).toNat ((ji23) % 256)):=⟨_,rfl⟩
             replace H : (nat_Nat_Bytes.l0 k1 a1 y305 (wrap64 (Int.tdiv (wrap64 (t300 + 7)) 8)) (wrap64 (x21_1 + 1)) l0_0) = some (r1,r2):=by first|(rw [hy305];with_reducible exact H)|(have H2_:=(Option.bind_some _ _).symm.trans H;rw [hy305];with_reducible exact H2_)|(have H2_:=(Option.bind_some _ _).symm.trans H;with_reducible exact H2_)|with_reducible exact H|(rw [hy305];exact H)|exact H
             have Ny305:=Aside0.mk hy305
             clear hy305
             have H':=Aside0.mk H
             clear H
             have hcz28_0 : wr.cell? ⟨gb299,0,none⟩ = some (.slice A0_0 l0_0.length c0_0):=bc BK299
             have hfz28_0:=bz BK299
             have p304 : 0 ≤ ((ji18) : Int):=od
             have q304 : (ji18) < (l0_0.length : Int):=od
             obtain ⟨ad304,e304,hx304_0⟩:=Kd.at_int HR0_0.out (ji18) p304 q304
             cases e304
             replace hx304_0:=(HB.out.cell (World.block_lt_of_cell? w _ hx304_0)).trans hx304_0
             replace p304:=eq_true p304
             replace q304:=eq_true q304
             have p27 : 0 ≤ ((ji24) : Int):=od
             have q27 : ((ji24) : Int) < ((x7_1.length : Int) : Int):=od
             obtain ⟨go27,co27,eo27,gb27,gl27,cl27,HG27⟩:=Kd.R_form HO_7.out (by omega)
             (first|cases eo27|(injection eo27 with ea_ en_ ec_;(first|subst ea_|(injection ea_ with ea_;subst ea_));subst ec_;clear en_))
             have GB27:=Aside0.mk gb27
             have GG27:=Aside0.mk HG27
             clear gb27 gl27 HG27
             obtain ⟨hx27_0,hf27_0⟩:=Kd.R_celln 0 HO_7.out ((ji24) : Int) p27 q27
             replace p27:=eq_true p27
             replace q27:=eq_true q27
             have HP29:=Kd.R_putg HO_7.out ((ji24) : Int) ((ji23) % 256)
             go_wp2_with (first|((with_reducible refine gate_store (t:=5) (p:=40) rfl ?_);refine qSt (wr.setCell ⟨go27,((ji24) : Int).toNat,none⟩ (.int .u8 ((ji23) % 256))) ?_;intro w30 hw;have hg : wr.grownBy w30 (some go27):=(by rw [hw];exact HP29.2);have hp_ : Kd.R (Kd.int .u8) 5 w30 w.heap.size (fun _ => True) (.slice (some ⟨go27,0,none⟩) x7_1.length co27) y305:=(by rw [hw,Ny305.out];exact HP29.1);clear HP29;replace BK299:=Aside0.mk (blk_grown (g:=gb299) (o:=.cells #[.slice (some ad304) l0_0.length c0_0] 38 (0,0)) (qB BK299.out) hg (Kd.R_ne HO_7.out BK299.out (by decide)));replace HO_7:=Aside0.mk (hp_);replace HB:=Aside0.mk ((by rw [hw];exact below_set (HB.out) GB27.out : Below w.heap.size w w30));clear hg hw hp_))
             go_roundg k1
             case measure => have:=HK1.out;omega
             case rel => exact ⟨(y305),(wrap64 (x21_1 + 1)),(by first|rfl|(simp;done)|(simp [*];done)),H',⟨by have:=HK1.out;omega⟩,⟨qRm HO_7⟩,⟨qB BK299.out⟩,⟨qS HB⟩⟩
            ·rw [if_neg c26] at H
             exact absurd H (by simp)
           ·rw [if_neg c25] at H
            exact absurd H (by simp)
          ·rw [if_neg c22] at H
           exact absurd H (by simp)
         ·rw [if_neg c20] at H
          exact absurd H (by simp)
        ·rw [if_neg c19] at H
         exact absurd H (by simp)
       ·rw [if_neg c17] at H
        have c17b0 : decide (x21_1 < (wrap64 (Int.tdiv (wrap64 (t300 + 7)) 8))) = false:=decide_eq_false c17
        clear c17
        simp only [Option.some.injEq,Prod.mk.injEq] at H
        obtain ⟨rfl,rfl⟩:=H
        go_wp2
        (first|go_ret2|(refine ⟨_,results_tmp2 rfl _ _ _,?_⟩))
        exact ⟨_,by first|rfl|(simp [errW_none,errW_some] <;> rfl)|(simp [*,errW_none,errW_some] <;> rfl),qRm HO_7,qS HB⟩
    ·rw [if_neg c11] at H
     exact absurd H (by simp)
   ·rw [if_neg c10] at H
    exact absurd H (by simp)
end Go.Proofs.Yteejcpbngnojkaa.P
end
section
namespace Go.Proofs.Yteejcpbngnojkaa.P
open Go.RowKit Go.Proofs.YteejcpbngnojkaaW.PrintWords Go.Proofs.YteejcpbngnojkaaW.PrintLast Go.Proofs.YteejcpbngnojkaaW.PrintMore
attribute [local go_sem] max2_int min2_int max_two min_two max_three min_three max_four min_four
set_option linter.unusedVariables false
set_option linter.unusedSimpArgs false
def nat_Nat_Least.f (k : Nat) (l0_0 : List Int) : Option (List Int):=(nat_Nat_Bits.f l0_0).bind fun t307 => ((nat_Nat_Bytes.f k l0_0 (wrap64 (Int.tdiv (wrap64 (t307 + 7)) 8))).bind fun bt308 => (some bt308.1))
theorem nat_Nat_Least.mono : ∀ a0 k,LeO (nat_Nat_Least.f k a0) (nat_Nat_Least.f (k + 1) a0):=by
 intro a0 k
 unfold nat_Nat_Least.f
 repeat' first
   |(with_reducible exact nat_Nat_Bytes.mono _ _ _)
   |(with_reducible exact LeO.refl _)
   |(with_reducible exact LeO.none _)
   |(with_reducible refine LeO.ite ?_ ?_)
   |(with_reducible refine LeO.bind ?_ (fun _ => ?_))
   |exact nat_Nat_Bytes.mono _ _ _
   |exact LeO.none _
   |refine LeO.ite ?_ ?_
   |refine LeO.bind ?_ (fun _ => ?_)
def nat_Nat_Least.T1 : Bool × List (List Nat × List Nat):=(true,[([],[]),([],[]),([1],[1]),([2],[2]),([3],[3]),([0,4,2],[0,4]),([5],[5]),([6],[6]),([6],[6]),([7,5,0,1,2,3,4,5,6,7],[7]),([8,9,0,1,2,3,4,5,6,7,8,9],[8])])
def nat_Nat_Least.B1 : List Nat:=[0,0,2,6,14,31,63,127,127,255,1023]
theorem nat_Nat_Least.tab1 : rtab .any (opsOf Try.f61 1) = nat_Nat_Least.T1:=by kernel_rfl
theorem nat_Nat_Least.bits1 : waitsOk nat_Nat_Least.T1.2 nat_Nat_Least.B1 = true:=by kernel_rfl
set_option maxHeartbeats 8000000 in
set_option maxRecDepth 100000 in
theorem nat_Nat_Least.calls (k : Nat) (A0_0 : Option Addr) (c0_0 : Nat) (l0_0 : List Int) (r : List Int) (w : World) (hr0_0 : Kd.C (Kd.int .u32) w A0_0 l0_0.length l0_0) (hc0_0 : l0_0.length ≤ c0_0) (h : nat_Nat_Least.f k l0_0 = some r) :
  Calls Try.prog 61 #[.agg #[.slice A0_0 l0_0.length c0_0]] w fun e w' => ∃ v0_ : Value,e = .returned (v0_) ∧ Kd.R (Kd.int .u8) 5 w' w.heap.size (fun _ => True) v0_ r ∧ Below w.heap.size w w':=by
 have hu38:=Try.underlying38
 have HR0_0:=Aside0.mk hr0_0
 have HC0_0:=Aside0.mk hc0_0
 clear hr0_0 hc0_0
 have HB:=Aside0.mk (Below.refl w.heap.size w)
 have H : ((nat_Nat_Bits.f l0_0).bind fun t307 => ((nat_Nat_Bytes.f k l0_0 (wrap64 (Int.tdiv (wrap64 (t307 + 7)) 8))).bind fun bt308 => (some bt308.1))) = some r:=h
 clear h
 obtain ⟨t307,A2,H⟩:=qH H
 obtain ⟨⟨t308,t311⟩,A3,H⟩:=qH H
 dsimp only at H
 obtain rfl:=Option.some.inj H
 go_enter Try.func61,Try.ntmps61
 try go_wp2_with (first|((with_reducible refine gate_dst (N:=1) rfl ?_);refine qX #[.slice A0_0 l0_0.length c0_0] 38 ?_;intro gb306 hg w4 hbox hb;have BK306:=Aside0.mk hbox;have GE306:=qh hg HB;replace HB:=qs HB hb;clear hb hbox hg))
 replace BK306:=qbd BK306
 replace HB:=qsd HB
 refine start_ (n:=11) (S:=fun w' => w'.cell? ⟨gb306,0,none⟩ = some (.slice A0_0 l0_0.length c0_0)) (ds:=[]) #[false,false,false,false,false,false,false,false,false,false,false] (by kernel_rfl) rfl rfl (bc BK306) (fun hHeld => ?_);refine with_tabW nat_Nat_Least.tab1 nat_Nat_Least.bits1 (fun HT_ HW_ => ?_)
 generalize w4.drew = w5 at BK306 HB hHeld ⊢
 refine qT 0 6 HT_ HW_ hHeld ?_
 refine qT 1 7 HT_ HW_ hHeld ?_
 refine q1 2 (some 8) HT_ rfl (fun K hK => ?_)
 refine g_ Try.func42 #[.agg #[.slice A0_0 l0_0.length c0_0]] ?_
 with_reducible refine (nat_Nat_Bits.calls _ _ l0_0 t307 _ ?side1 ?side2 A2.out).mono ?_
 (case side1 => exact qCB HR0_0 HB)
 (case side2 => exact HC0_0.out)
 rintro e w6 ⟨rfl,hb⟩
 refine ⟨_,rfl,?_⟩
 replace BK306:=qb BK306 hb
 replace HB:=qs HB hb
 clear hb
 refine hK.out _ _ (bc BK306) (fun hHeld => ?_)
 clear hK K
 refine qO 8 ?_
 refine qP 3 9 HT_ ?_
 refine qP 4 10 HT_ ?_
 refine q1 5 (some 11) HT_ rfl (fun K hK => ?_)
 refine g_ Try.func38 #[.agg #[.slice A0_0 l0_0.length c0_0],.int .i64 (wrap64 (Int.tdiv (wrap64 (t307 + 7)) 8))] ?_
 with_reducible refine (nat_Nat_Bytes.calls k _ _ l0_0 (wrap64 (Int.tdiv (wrap64 (t307 + 7)) 8)) t308 t311 _ ?side1 ?side2 A3.out).mono ?_
 (case side1 => exact qCB HR0_0 HB)
 (case side2 => exact HC0_0.out)
 rintro e w7 ⟨v309,rfl,ho0,hb⟩
 refine ⟨_,rfl,?_⟩
 have HO310:=Aside0.mk (Kd.R_lower ho0 (below_size (qS HB)))
 replace BK306:=qb BK306 hb
 replace HB:=qs HB hb
 clear hb ho0
 refine hK.out _ _ (bc BK306) (fun hHeld => ?_)
 clear hK K
 refine qO 11 ?_
 refine qP 6 5 HT_ ?_
 refine qP 7 12 HT_ ?_
 refine qP 8 13 HT_ ?_
 refine qP 9 3 HT_ ?_
 refine qP 10 4 HT_ ?_
 refine qD HT_ ?_
 try go_wp2
 (first|go_ret|(refine ⟨_,results_tmp rfl _ _ _,?_⟩))
 exact ⟨_,by first|rfl|(simp [errW_none,errW_some] <;> rfl)|(simp [*,errW_none,errW_some] <;> rfl),qRm HO310,qS HB⟩
end Go.Proofs.Yteejcpbngnojkaa.P
end
section
namespace Go.Proofs.Yteejcpbngnojkaa.P
open Go.RowKit Go.Proofs.YteejcpbngnojkaaW.PrintWords Go.Proofs.YteejcpbngnojkaaW.PrintLast Go.Proofs.YteejcpbngnojkaaW.PrintMore
attribute [local go_sem] max2_int min2_int max_two min_two max_three min_three max_four min_four
set_option linter.unusedVariables false
set_option linter.unusedSimpArgs false
def sacristylaw01_Same.f (k : Nat) (l0_0 : List Int) (l1 : List Bool) : Option (Bool):=(sacristyref01_Bytes.f k l1 (wrap64 (Int.tdiv (wrap64 ((l1.length : Int) + 7)) 8))).bind fun bt313 => ((nat_Nat_Least.f k l0_0).bind fun t317 => (some ((strOfNums t317).toList == (strOfNums bt313.1).toList)))
theorem sacristylaw01_Same.mono : ∀ a0 a1 k,LeO (sacristylaw01_Same.f k a0 a1) (sacristylaw01_Same.f (k + 1) a0 a1):=by
 intro a0 a1 k
 unfold sacristylaw01_Same.f
 repeat' first
   |(with_reducible exact nat_Nat_Least.mono _ _)
   |(with_reducible exact sacristyref01_Bytes.mono _ _ _)
   |(with_reducible exact LeO.refl _)
   |(with_reducible exact LeO.none _)
   |(with_reducible refine LeO.ite ?_ ?_)
   |(with_reducible refine LeO.bind ?_ (fun _ => ?_))
   |exact nat_Nat_Least.mono _ _
   |exact sacristyref01_Bytes.mono _ _ _
   |exact LeO.none _
   |refine LeO.ite ?_ ?_
   |refine LeO.bind ?_ (fun _ => ?_)
set_option maxHeartbeats 8000000 in
set_option maxRecDepth 100000 in
theorem sacristylaw01_Same.calls (k : Nat) (A0_0 : Option Addr) (c0_0 : Nat) (l0_0 : List Int) (A1 : Option Addr) (c1 : Nat) (l1 : List Bool) (r : Bool) (w : World) (hr0_0 : Kd.C (Kd.int .u32) w A0_0 l0_0.length l0_0) (hc0_0 : l0_0.length ≤ c0_0) (hr1 : Kd.C Kd.bool w A1 l1.length l1) (hc1 : l1.length ≤ c1) (h : sacristylaw01_Same.f k l0_0 l1 = some r) :
  Calls Try.prog 37 #[.agg #[.slice A0_0 l0_0.length c0_0],.slice A1 l1.length c1] w fun e w' => e = .returned (.bool r) ∧ Below w.heap.size w w':=by
 have hu38:=Try.underlying38
 have HR0_0:=Aside0.mk hr0_0
 have HC0_0:=Aside0.mk hc0_0
 clear hr0_0 hc0_0
 have HR1:=Aside0.mk hr1
 have HC1:=Aside0.mk hc1
 clear hr1 hc1
 have HB:=Aside0.mk (Below.refl w.heap.size w)
 have H : ((sacristyref01_Bytes.f k l1 (wrap64 (Int.tdiv (wrap64 ((l1.length : Int) + 7)) 8))).bind fun bt313 => ((nat_Nat_Least.f k l0_0).bind fun t317 => (some ((strOfNums t317).toList == (strOfNums bt313.1).toList)))) = some r:=h
 clear h
 obtain ⟨⟨t313,t314⟩,A3,H⟩:=qH H
 dsimp only at H
 obtain ⟨t317,A4,H⟩:=qH H
 obtain rfl:=Option.some.inj H
 go_enter Try.func37,Try.ntmps37
 try go_wp2_with (first|((with_reducible refine gate_dst (N:=2) rfl ?_);refine qX #[.slice A0_0 l0_0.length c0_0] 38 ?_;intro gb312 hg w5 hbox hb;have BK312:=Aside0.mk hbox;have GE312:=qh hg HB;replace HB:=qs HB hb;clear hb hbox hg)|((with_reducible refine gate_callee (f:=39) rfl ?_);refine gL (some 13) Try.func39 #[.slice A1 l1.length c1,.int .i64 (wrap64 (Int.tdiv (wrap64 ((l1.length : Int) + 7)) 8))] ?_;(with_reducible refine (sacristyref01_Bytes.calls k _ _ l1 (wrap64 (Int.tdiv (wrap64 ((l1.length : Int) + 7)) 8)) t313 t314 _ ?side1 ?side2 A3.out).mono ?_);(case side1 => exact qCB HR1 HB);(case side2 => exact HC1.out);rintro e w6 ⟨v315,rfl,ho0,hb⟩;refine ⟨_,rfl,?_⟩;have HO316:=Aside0.mk (Kd.R_lower ho0 (below_size (qS HB)));replace BK312:=qb BK312 hb;replace HB:=qs HB hb;clear hb ho0))
 replace HO316:=qRw HO316
 replace BK312:=qbd BK312
 replace HB:=qsd HB
 refine start_ (n:=7) (S:=fun w' => w'.cell? ⟨gb312,0,none⟩ = some (.slice A0_0 l0_0.length c0_0) ∧ w'.ownsRow w.heap.size 5 1 v315 t313.length (encs (Value.int .u8) t313)) (ds:=[]) #[false,false,false,false,false,false,false] (by kernel_rfl) rfl rfl ⟨(bc BK312),(Kd.own_of_R HO316.out)⟩ (fun hHeld => ?_)
 generalize w6.drew = w7 at HO316 BK312 HB hHeld ⊢
 refine pure_ (i:=3) (N:=some 19) (v:=?_) (a':=?_) #[false,false,false,true,false,false,false] rfl rfl (by kernel_rfl) (fun _ _ _ h => h) (Or.inl ⟨by rfl,?_⟩) ?_ ?_
 rotate_left
 ·intro w'
  go_simp
  with_reducible rfl
 rotate_left
 ·simp only [Act.put,List.setIfInBounds_toArray,List.set_cons_zero,List.set_cons_succ,i64_w,i32_w]
  rfl
 refine take_ (i:=4) (N:=some 20) (v:=?_) (a':=?_) #[false,false,false,true,true,false,false] rfl rfl (by kernel_rfl) (fun _ _ _ h => h) (Or.inl ⟨by rfl,?_⟩) hHeld ?_ ?_
 rotate_left
 ·intro w' hS_
  have hcv_:=own_string (P:=Try.prog) Try.underlying22 Try.underlying5 Try.underlying9 hS_.2
  go_simp
  with_reducible rfl
 rotate_left
 ·simp only [Act.put,List.setIfInBounds_toArray,List.set_cons_zero,List.set_cons_succ,i64_w,i32_w]
  rfl
 refine take_ (i:=0) (N:=some 16) (v:=?_) (a':=?_) #[true,false,false,true,true,false,false] rfl rfl (by kernel_rfl) (fun _ _ _ h => h) (Or.inl ⟨by rfl,?_⟩) hHeld ?_ ?_
 rotate_left
 ·intro w' ⟨s0,_⟩
  go_simp
  with_reducible rfl
 rotate_left
 ·simp only [Act.put,List.setIfInBounds_toArray,List.set_cons_zero,List.set_cons_succ,i64_w,i32_w]
  rfl
 refine one_ (i:=1) (N:=some 17) #[true,true,false,true,true,false,false] rfl rfl (by kernel_rfl) (by decide) (fun K hK => ?_)
 refine g_ Try.func61 #[.agg #[.slice A0_0 l0_0.length c0_0]] ?_
 with_reducible refine (nat_Nat_Least.calls k _ _ l0_0 t317 _ ?side1 ?side2 A4.out).mono ?_
 (case side1 => exact qCB HR0_0 HB)
 (case side2 => exact HC0_0.out)
 rintro e w8 ⟨v318,rfl,ho0,hb⟩
 refine ⟨_,rfl,?_⟩
 have HO319:=Aside0.mk (Kd.R_lower (Kd.R_new' ho0 (Kd.R_lt (qRm HO316))) (below_size (qS HB)))
 replace HO316:=qRd HO316 ho0 hb
 replace BK312:=qb BK312 hb
 replace HB:=qs HB hb
 clear hb ho0
 have hcv10:=own_string (P:=Try.prog) Try.underlying22 Try.underlying5 Try.underlying9 (Kd.own_of_R HO316.out)
 refine hK.out _ _ ⟨(bc BK312),(Kd.own_of_R HO316.out)⟩ (fun hHeld => ?_)
 clear hK K
 refine qO 17 ?_
 refine one_ (i:=2) (N:=some 18) #[true,true,true,true,true,false,false] rfl rfl (by kernel_rfl) (by decide) (fun K hK => ?_)
 have hcv9:=own_string (P:=Try.prog) Try.underlying22 Try.underlying5 Try.underlying9 (Kd.own_of_R HO319.out)
 refine value_ (w1:=?_) (v:=?_) (by rfl) rfl ?_ ?_
 rotate_left 2
 ·go_simp
  constructor
  ·rfl
  ·rfl
 clear hcv9
 refine hK.out _ _ ⟨(bc BK312),(Kd.own_of_R HO316.out)⟩ (fun hHeld => ?_)
 clear hK K
 refine qO 18 ?_
 refine pure_ (i:=5) (N:=some 21) (v:=?_) (a':=?_) #[true,true,true,true,true,true,false] rfl rfl (by kernel_rfl) (fun _ _ _ h => h) (Or.inl ⟨by rfl,?_⟩) ?_ ?_
 rotate_left
 ·intro w'
  go_simp
  with_reducible rfl
 rotate_left
 ·simp only [Act.put,List.setIfInBounds_toArray,List.set_cons_zero,List.set_cons_succ,i64_w,i32_w]
  rfl
 refine pure_ (i:=6) (N:=some 4) (v:=?_) (a':=?_) #[true,true,true,true,true,true,true] rfl rfl (by kernel_rfl) (fun _ _ _ h => h) (Or.inl ⟨by rfl,?_⟩) ?_ ?_
 rotate_left
 ·intro w'
  go_simp
  with_reducible rfl
 rotate_left
 ·simp only [Act.put,List.setIfInBounds_toArray,List.set_cons_zero,List.set_cons_succ,i64_w,i32_w]
  rfl
 refine done_ (by kernel_rfl) ?_
 try go_wp2
 (first|go_ret|(refine ⟨_,results_tmp rfl _ _ _,?_⟩))
 exact ⟨by first|rfl|(simp [errW_none,errW_some] <;> rfl)|(simp [*,errW_none,errW_some] <;> rfl),qS HB⟩
end Go.Proofs.Yteejcpbngnojkaa.P
end
section
namespace Go.Proofs.Yteejcpbngnojkaa.P
open Go.RowKit Go.Proofs.YteejcpbngnojkaaW.PrintWords Go.Proofs.YteejcpbngnojkaaW.PrintLast Go.Proofs.YteejcpbngnojkaaW.PrintMore
attribute [local go_sem] max2_int min2_int max_two min_two max_three min_three max_four min_four
set_option linter.unusedVariables false
set_option linter.unusedSimpArgs false
def nat_trim.l0 : Nat → List Int → Option (List Int)
 |0,_ => none
 |k + 1,x0 => if (x0.length : Int) > 0 then (if 0 ≤ (wrap64 ((x0.length : Int) - 1)) then (if (wrap64 ((x0.length : Int) - 1)) < (x0.length : Int) then (if (rd x0 (wrap64 ((x0.length : Int) - 1))) = 0 then (if (wrap64 ((x0.length : Int) - 1)) ≤ (x0.length : Int) then (nat_trim.l0 k (x0.take ((wrap64 ((x0.length : Int) - 1)) : Int).toNat)) else (none)) else (some x0)) else (none)) else (none)) else (some x0)
def nat_trim.f (k : Nat) (l0 : List Int) : Option (List Int):=nat_trim.l0 k l0
theorem nat_trim.mono_l : ∀ k,(∀ y0,LeO (nat_trim.l0 k y0) (nat_trim.l0 (k + 1) y0))
 |0 => fun _ r h => by simp [nat_trim.l0] at h
 |k + 1 => by
  have ih0:=nat_trim.mono_l k
  ·intro y0
   unfold nat_trim.l0
   repeat' first
   |(with_reducible exact ih0 _)
   |(with_reducible exact LeO.refl _)
   |(with_reducible exact LeO.none _)
   |(with_reducible refine LeO.ite ?_ ?_)
   |(with_reducible refine LeO.bind ?_ (fun _ => ?_))
   |exact ih0 _
   |exact LeO.none _
   |refine LeO.ite ?_ ?_
   |refine LeO.bind ?_ (fun _ => ?_)
theorem nat_trim.mono : ∀ a0 k,LeO (nat_trim.f k a0) (nat_trim.f (k + 1) a0):=by
 intro a0 k
 have ih0:=nat_trim.mono_l k
 unfold nat_trim.f
 repeat' first
   |(with_reducible exact ih0 _)
   |(with_reducible exact LeO.refl _)
   |(with_reducible exact LeO.none _)
   |(with_reducible refine LeO.ite ?_ ?_)
   |(with_reducible refine LeO.bind ?_ (fun _ => ?_))
   |exact ih0 _
   |exact LeO.none _
   |refine LeO.ite ?_ ?_
   |refine LeO.bind ?_ (fun _ => ?_)
set_option maxHeartbeats 8000000 in
set_option maxRecDepth 100000 in
theorem nat_trim.calls (k : Nat) (P0_ : Nat → Prop) (A0 : Option Addr) (c0 : Nat) (l0 : List Int) (r : List Int) (w : World) (hs0 : Kd.V (Kd.int .u32) 23 w w.heap.size (fun k_ => P0_ k_) (.slice A0 l0.length c0) l0) (h : nat_trim.f k l0 = some r) :
  Calls Try.prog 100 #[.slice A0 l0.length c0] w fun e w' => ∃ v0_ : Value,e = .returned (.agg #[v0_]) ∧ Kd.V (Kd.int .u32) 23 w' w.heap.size (fun k_ => (P0_ k_ ∨ w.heap.size ≤ k_)) v0_ r ∧ Below w.heap.size w w':=by
 have hu38:=Try.underlying38
 have HO0:=Aside0.mk (show Kd.V (Kd.int .u32) 23 w w.heap.size (fun k_ => (P0_ k_ ∨ w.heap.size ≤ k_)) (.slice A0 l0.length c0) l0 from Kd.V_mono hs0 (fun k_ hk => .inl hk))
 have HB:=Aside0.mk (Below.refl w.heap.size w)
 have H : (nat_trim.l0 k l0) = some r:=h
 clear h
 have H':=Aside0.mk H
 clear H
 go_enter Try.func100,Try.ntmps100
 go_wp2_with (first|((with_reducible refine gate_dst (N:=2) rfl ?_);(try (refine gate_guard (by rfl) ?_;dsimp only));refine qX #[.slice none 0 0] 38 ?_;intro gb326 hg w2 hbox hb;replace HO0:=qVe HO0 hb hg;have BK326:=Aside0.mk hbox;have GE326:=qh hg HB;replace HB:=qs HB hb;clear hb hbox hg))
 simp only [Act.put,List.setIfInBounds_toArray,List.set_cons_zero,List.set_cons_succ]
 go_loopg [0] k (fun kq v0 w' => ∃ (x0_1 : List Int),Aside0 (nat_trim.l0 kq x0_1 = some r) ∧ Aside0 (kq ≤ k) ∧ Aside0 (Kd.V (Kd.int .u32) 23 w' w.heap.size (fun k_ => (P0_ k_ ∨ w.heap.size ≤ k_) ∧ k_ ≠ gb326) v0 x0_1) ∧ Aside0 (w'.heap[gb326]? = some (.cells #[(.slice none 0 0)] 38 (0,0))) ∧ Aside0 (Below w.heap.size w w'))
 case atStart => exact ⟨(l0),H',⟨Nat.le_refl _⟩,⟨qVm HO0⟩,⟨qB BK326.out⟩,⟨qS HB⟩⟩
 case round =>
  clear H'
  try clear c1
  try clear p2
  obtain ⟨x0_1,HA,HK1,HO_0,BK326,HB⟩:=hrel
  cases gk with
  |zero => exact absurd HA.out (by simp [nat_trim.l0])
  |succ k1 =>
   have H:=HA.out
   clear HA
   simp only [nat_trim.l0] at H
   by_cases c3 : (x0_1.length : Int) > 0
   ·rw [if_pos c3] at H
    have c3b0 : decide (0 < (x0_1.length : Int)) = true:=decide_eq_true c3
    have c3b1 : decide (0 < x0_1.length) = true:=decide_eq_true (by omega)
    clear c3
    obtain ⟨ji4,hji4⟩ : ∃ j_ : Int,(wrap64 ((x0_1.length : Int) - 1)) = j_:=⟨_,rfl⟩
    (first|rw [hji4] at H|simp only [hji4] at H)
    have hji4w : (IntKind.i64.wrap ((x0_1.length : Int) - 1)) = ji4:=(i64_w _).trans hji4
    by_cases c5 : 0 ≤ (ji4)
    ·rw [if_pos c5] at H
     have c5b0 : decide (0 ≤ (ji4)) = true:=decide_eq_true c5
     clear c5
     by_cases c6 : (ji4) < (x0_1.length : Int)
     ·rw [if_pos c6] at H
      have c6b0 : decide ((ji4) < (x0_1.length : Int)) = true:=decide_eq_true c6
      clear c6
      by_cases c7 : (rd x0_1 (ji4)) = 0
      ·rw [if_pos c7] at H
       have c7b0 : ((rd x0_1 (ji4)) == 0) = true:=beq_iff_eq.mpr c7
       have c7b1 : ((rd x0_1 (ji4)) != 0) = false:=bne_eq_false_iff_eq.mpr c7
       clear c7
       have c8b0:=eq_true (od : 0 ≤ (ji4))
       by_cases c9 : (ji4) ≤ (x0_1.length : Int)
       ·rw [if_pos c9] at H
        have c9b0:=eq_true c9
        have c9b1 : decide ((ji4) ≤ (x0_1.length : Int)) = true:=decide_eq_true c9
        clear c9
        obtain ⟨y328,hy328⟩ : ∃ y_ : List Int,y_ = (x0_1.take ((ji4) : Int).toNat):=⟨_,rfl⟩
        replace H : (nat_trim.l0 k1 y328) = some r:=by first|(rw [hy328];with_reducible exact H)|(have H2_:=(Option.bind_some _ _).symm.trans H;rw [hy328];with_reducible exact H2_)|(have H2_:=(Option.bind_some _ _).symm.trans H;with_reducible exact H2_)|with_reducible exact H|(rw [hy328];exact H)|exact H
        have Ny328:=Aside0.mk hy328
        clear hy328
        have H':=Aside0.mk H
        clear H
        obtain ⟨Ao10,co10,eo10⟩:=Kd.V_slice HO_0.out
        subst eo10
        have p327 : 0 ≤ ((ji4) : Int):=od
        have q327 : (ji4) < (x0_1.length : Int):=od
        obtain ⟨ad327,e327,hx327_0⟩:=Kd.at_int (Kd.V_reads' HO_0.out).2.2 (ji4) p327 q327
        cases e327
        replace p327:=eq_true p327
        replace q327:=eq_true q327
        have q11 : ((ji4) : Int) ≤ ((x0_1.length : Int) : Int):=od
        obtain ⟨i011,hi011,_,hsz11,_⟩:=info_parts info23
        have hroom11 : x0_1.length ≤ co10:=(Kd.V_reads' HO_0.out).2.1
        have hC11 : Kd.F (Kd.int .u32) _ _ (some ad327) x0_1.length x0_1:=(Kd.V_at (base:=w.heap.size) HO_0.out).2.2
        have hcut11:=cut_to (P:=Try.prog) 36 23 .i64 Try.underlying36 hi011 (some ad327) x0_1.length co10 (ji4) (od) q11 hroom11
        have hr11:=Kd.F_take (m:=((ji4) : Int).toNat) hC11 (by omega)
        have hy11 : y328.length = ((ji4) : Int).toNat:=(by rw [Ny328.out,List.length_take];omega)
        rw [← Ny328.out] at hr11
        rw [← hy11] at hcut11
        have HO332:=Aside0.mk (show Kd.V (Kd.int .u32) 23 _ w.heap.size _ (.slice (some ad327) y328.length co10) y328 from Kd.V_mk (by omega) hr11)
        have HC332:=Aside0.mk (show y328.length ≤ co10 from by omega)
        clear hr11 hC11 hroom11 hi011 hsz11
        have KY11:=Aside0.mk hy11
        clear hy11
        replace q11:=eq_true q11
        go_wp2
        go_roundg k1
        case measure => have:=HK1.out;omega
        case rel => exact ⟨(y328),H',⟨by have:=HK1.out;omega⟩,⟨qVm HO332⟩,⟨qB BK326.out⟩,⟨qS HB⟩⟩
       ·rw [if_neg c9] at H
        exact absurd H (by simp)
      ·rw [if_neg c7] at H
       have c7b0 : ((rd x0_1 (ji4)) == 0) = false:=beq_eq_false_iff_ne.mpr c7
       have c7b1 : ((rd x0_1 (ji4)) != 0) = true:=bne_iff_ne.mpr c7
       obtain rfl:=Option.some.inj H
       obtain ⟨Ao12,co12,eo12⟩:=Kd.V_slice HO_0.out
       subst eo12
       have p327 : 0 ≤ ((ji4) : Int):=od
       have q327 : (ji4) < (x0_1.length : Int):=od
       obtain ⟨ad327,e327,hx327_0⟩:=Kd.at_int (Kd.V_reads' HO_0.out).2.2 (ji4) p327 q327
       cases e327
       replace p327:=eq_true p327
       replace q327:=eq_true q327
       have hcz13_0 : wr.cell? ⟨gb326,0,none⟩ = some (.slice none 0 0):=bc BK326
       have hfz13_0:=bz BK326
       go_wp2
       refine bodyPost_ret (results_cell_row rfl _ _ gb326 38 #[.slice (some ad327) x0_1.length co12] (0,0) _ rfl (by (with_reducible repeat (first|refine blk_drewN ?_ _|refine blk_drew ?_|refine blk_alloc ?_ _));refine blk_put (cs:=#[.slice none 0 0]) ?_ 0 _ rfl;(with_reducible repeat (first|refine blk_drewN ?_ _|refine blk_drew ?_|refine blk_alloc ?_ _));exact BK326.out) Try.underlying38 rfl (by kernel_rfl)) rfl ?_
       exact ⟨_,by first|rfl|(simp [errW_none,errW_some] <;> rfl)|(simp only [← hji4];first|rfl|(simp [errW_none,errW_some] <;> rfl))|(simp [*,errW_none,errW_some] <;> rfl),qVm HO_0,qS HB⟩
     ·rw [if_neg c6] at H
      exact absurd H (by simp)
    ·rw [if_neg c5] at H
     exact absurd H (by simp)
   ·rw [if_neg c3] at H
    have c3b0 : decide (0 < (x0_1.length : Int)) = false:=decide_eq_false c3
    have c3b1 : decide (0 < x0_1.length) = false:=decide_eq_false (by omega)
    clear c3
    obtain rfl:=Option.some.inj H
    obtain ⟨Ao14,co14,eo14⟩:=Kd.V_slice HO_0.out
    subst eo14
    have hcz15_0 : wr.cell? ⟨gb326,0,none⟩ = some (.slice none 0 0):=bc BK326
    have hfz15_0:=bz BK326
    go_wp2
    refine bodyPost_ret (results_cell_row rfl _ _ gb326 38 #[.slice Ao14 x0_1.length co14] (0,0) _ rfl (by (with_reducible repeat (first|refine blk_drewN ?_ _|refine blk_drew ?_|refine blk_alloc ?_ _));refine blk_put (cs:=#[.slice none 0 0]) ?_ 0 _ rfl;(with_reducible repeat (first|refine blk_drewN ?_ _|refine blk_drew ?_|refine blk_alloc ?_ _));exact BK326.out) Try.underlying38 rfl (by kernel_rfl)) rfl ?_
    exact ⟨_,by first|rfl|(simp [errW_none,errW_some] <;> rfl)|(simp [*,errW_none,errW_some] <;> rfl),qVm HO_0,qS HB⟩
end Go.Proofs.Yteejcpbngnojkaa.P
end
section
namespace Go.Proofs.Yteejcpbngnojkaa.P
open Go.RowKit Go.Proofs.YteejcpbngnojkaaW.PrintWords Go.Proofs.YteejcpbngnojkaaW.PrintLast Go.Proofs.YteejcpbngnojkaaW.PrintMore
attribute [local go_sem] max2_int min2_int max_two min_two max_three min_three max_four min_four
set_option linter.unusedVariables false
set_option linter.unusedSimpArgs false
def nat_New.f (k : Nat) (a0 : Int) : Option (List Int):=(nat_trim.f k (([(a0) % 4294967296,(a0 / 4294967296) % 4294967296] : List Int))).bind fun t337 => (some t337)
theorem nat_New.mono : ∀ a0 k,LeO (nat_New.f k a0) (nat_New.f (k + 1) a0):=by
 intro a0 k
 unfold nat_New.f
 repeat' first
   |(with_reducible exact nat_trim.mono _ _)
   |(with_reducible exact LeO.refl _)
   |(with_reducible exact LeO.none _)
   |(with_reducible refine LeO.ite ?_ ?_)
   |(with_reducible refine LeO.bind ?_ (fun _ => ?_))
   |exact nat_trim.mono _ _
   |exact LeO.none _
   |refine LeO.ite ?_ ?_
   |refine LeO.bind ?_ (fun _ => ?_)
set_option maxHeartbeats 8000000 in
set_option maxRecDepth 100000 in
theorem nat_New.calls (k : Nat) (a0 : Int) (r : List Int) (w : World) (h : nat_New.f k a0 = some r) :
  Calls Try.prog 54 #[.int .u64 a0] w fun e w' => ∃ v0_ : Value,e = .returned (.agg #[v0_]) ∧ Kd.V (Kd.int .u32) 23 w' w.heap.size (fun k_ => (w.heap.size ≤ k_)) v0_ r ∧ Below w.heap.size w w':=by
 have hu38:=Try.underlying38
 have HB:=Aside0.mk (Below.refl w.heap.size w)
 have H : ((nat_trim.f k (([(a0) % 4294967296,(a0 / 4294967296) % 4294967296] : List Int))).bind fun t337 => (some t337)) = some r:=h
 clear h
 obtain ⟨y334,hy334⟩ : ∃ y_ : List Int,y_ = (([(a0) % 4294967296,(a0 / 4294967296) % 4294967296] : List Int)):=⟨_,rfl⟩
 replace H : ((nat_trim.f k y334).bind fun t337 => (some t337)) = some r:=by first|(rw [hy334];with_reducible exact H)|(have H2_:=(Option.bind_some _ _).symm.trans H;rw [hy334];with_reducible exact H2_)|(have H2_:=(Option.bind_some _ _).symm.trans H;with_reducible exact H2_)|with_reducible exact H|(rw [hy334];exact H)|exact H
 have Ny334:=Aside0.mk hy334
 clear hy334
 obtain ⟨t337,A2,H⟩:=qH H
 obtain rfl:=Option.some.inj H
 go_enter Try.func54,Try.ntmps54
 go_wp2_with (first|((with_reducible refine gate_dst (N:=2) rfl ?_);refine qX #[.slice none 0 0] 38 ?_;intro gb333 hg w3 hbox hb;have BK333:=Aside0.mk hbox;have GE333:=qh hg HB;replace HB:=qs HB hb;clear hb hbox hg)|((with_reducible refine gate_dst (N:=8) rfl ?_);refine Kd.R_lit (Kd.int .u32) _ 23 ?hg (N:=8) ?hd (xs:=([(a0) % 4294967296,(a0 / 4294967296) % 4294967296] : List Int)) (inner:=[.int .u32 ((a0) % 4294967296),.int .u32 ((a0 / 4294967296) % 4294967296)]) (ok:=fun _ => True) (okp:=fun _ => True) ?hr ?hp (fun _ hk => hk) trivial (Below.refl _ _) (Nat.le_refl _) (by simp) ?_;(case hd => rfl);(case hg => rfl);(case hr => first|(go_simp;done)|(go_simp;rfl));(case hp => exact (Reps.one (show Kd.M (Kd.int .u32) _ _ _ ((a0) % 4294967296) [.int .u32 ((a0) % 4294967296)] from rfl) (Reps.one (show Kd.M (Kd.int .u32) _ _ _ ((a0 / 4294967296) % 4294967296) [.int .u32 ((a0 / 4294967296) % 4294967296)] from rfl) (Reps.none _ _))));intro v335 w4 ho5 hb hg_ hnew_;clear hg_ hnew_;(first|rw [← Ny334.out] at ho5|(simp only [Int.reduceToNat] at ho5;rw [← Ny334.out] at ho5));have HO336:=Aside0.mk (Kd.R_lower (Kd.R_newM (M:=fun k_ => (w.heap.size ≤ k_)) ho5 (below_size (qS HB)) (fun k_ h_ => h_)) (below_size (qS HB)));replace BK333:=qb BK333 hb;replace HB:=qs HB hb;clear hb ho5;obtain ⟨Ao6,co6,eo6⟩:=Kd.R_slice HO336.out;subst eo6)|((with_reducible refine gate_callee (f:=100) rfl ?_);refine gL (some 9) Try.func100 #[.slice Ao6 y334.length co6] ?_;(with_reducible refine (nat_trim.calls k (fun k_ => some k_ = (.slice Ao6 y334.length co6 : Value).ownBlock) _ _ y334 t337 _ ?side1 A2.out).mono ?_);(case side1 => exact Kd.R_V (Kd.R_tight rfl (Kd.R_types (HO336.out) BK333.out (by decide))));rintro e w7 ⟨v338,rfl,ho0,hb⟩;refine ⟨_,rfl,?_⟩;have HO339:=Aside0.mk (Kd.V_lower (Kd.V_mono (ok':=fun k_ => (w.heap.size ≤ k_) ∧ k_ ≠ gb333) ho0 (fun k_ hk_ => ⟨Or.elim hk_ (fun hs_ => ((Kd.R_types (HO336.out) BK333.out (by decide)).1 k_ hs_.symm).1.1) (fun hn_ => (Nat.le_trans (below_size (qS HB)) hn_)),Or.elim hk_ (fun hs_ => ((Kd.R_types (HO336.out) BK333.out (by decide)).1 k_ hs_.symm).2) (fun hn_ => (Kd.freshB (qB BK333.out) k_ hn_))⟩)) (below_size (qS HB)));replace HO336:=qRb HO336 hb;replace BK333:=qb BK333 hb;replace HB:=qs HB hb;clear hb ho0;obtain ⟨Ao8,co8,eo8⟩:=Kd.V_slice HO339.out;subst eo8;have hcz9_0:=bc BK333;have hfz9_0:=bz BK333))
 refine bodyPost_ret (results_cell_row rfl _ _ gb333 38 #[.slice Ao8 t337.length co8] (0,0) _ rfl (by (with_reducible repeat (first|refine blk_drewN ?_ _|refine blk_drew ?_|refine blk_alloc ?_ _));refine blk_put (cs:=#[.slice none 0 0]) ?_ 0 _ rfl;(with_reducible repeat (first|refine blk_drewN ?_ _|refine blk_drew ?_|refine blk_alloc ?_ _));exact BK333.out) Try.underlying38 rfl (by kernel_rfl)) rfl ?_
 exact ⟨_,by first|rfl|(simp [errW_none,errW_some] <;> rfl)|(simp [*,errW_none,errW_some] <;> rfl),qVm HO339,qS HB⟩
end Go.Proofs.Yteejcpbngnojkaa.P
end
section
namespace Go.Proofs.Yteejcpbngnojkaa.P
open Go.RowKit Go.Proofs.YteejcpbngnojkaaW.PrintWords Go.Proofs.YteejcpbngnojkaaW.PrintLast Go.Proofs.YteejcpbngnojkaaW.PrintMore
attribute [local go_sem] max2_int min2_int max_two min_two max_three min_three max_four min_four
set_option linter.unusedVariables false
set_option linter.unusedSimpArgs false
def nat_Nat_Zero.f (l0_0 : List Int) : Option (Bool):=some ((l0_0.length : Int) == 0)
set_option maxHeartbeats 8000000 in
set_option maxRecDepth 100000 in
theorem nat_Nat_Zero.calls (A0_0 : Option Addr) (c0_0 : Nat) (l0_0 : List Int) (r : Bool) (w : World) (hr0_0 : Kd.C (Kd.int .u32) w A0_0 l0_0.length l0_0) (hc0_0 : l0_0.length ≤ c0_0) (h : nat_Nat_Zero.f l0_0 = some r) :
  Calls Try.prog 44 #[.agg #[.slice A0_0 l0_0.length c0_0]] w fun e w' => e = .returned (.bool r) ∧ Below w.heap.size w w':=by
 have hu38:=Try.underlying38
 have HR0_0:=Aside0.mk hr0_0
 have HC0_0:=Aside0.mk hc0_0
 clear hr0_0 hc0_0
 have HB:=Aside0.mk (Below.refl w.heap.size w)
 have H : (some ((l0_0.length : Int) == 0)) = some r:=h
 clear h
 obtain rfl:=Option.some.inj H
 go_enter Try.func44,Try.ntmps44
 go_wp2_with (first|((with_reducible refine gate_dst (N:=1) rfl ?_);refine qX #[.slice A0_0 l0_0.length c0_0] 38 ?_;intro gb320 hg w2 hbox hb;have BK320:=Aside0.mk hbox;have GE320:=qh hg HB;replace HB:=qs HB hb;clear hb hbox hg;have hcz3_0:=bc BK320;have hfz3_0:=bz BK320))
 (first|go_ret|(refine ⟨_,results_tmp rfl _ _ _,?_⟩))
 exact ⟨by first|rfl|(simp [errW_none,errW_some] <;> rfl)|(simp [*,errW_none,errW_some] <;> rfl),qS HB⟩
end Go.Proofs.Yteejcpbngnojkaa.P
end
section
namespace Go.Proofs.Yteejcpbngnojkaa.P
open Go.RowKit Go.Shelf Go.Proofs.YteejcpbngnojkaaW.PrintWords Go.Proofs.YteejcpbngnojkaaW.PrintLast Go.Proofs.YteejcpbngnojkaaW.PrintMore
attribute [local go_sem] Oper.semAt_some
set_option linter.unusedVariables false
theorem make32 (W : World) (l c : Nat) (hlc : l ≤ c) (hc : c ≤ 70368744177664) :
  (Instr.makeSlice 36 (.int .i64 (l : Int)) (.int .i64 (c : Int))).run Try.prog W = .ok (.slice (some ⟨W.heap.size,0,none⟩) l c) (W.alloc (.cells (nums .u32 (List.replicate c 0)).toArray 23)):=by
 obtain ⟨i0,hi,hzz⟩:=Option.map_eq_some_iff.1 info23
 simp only [Prod.mk.injEq] at hzz
 obtain ⟨hz0,hz1,hz2⟩:=hzz
 have hr:=run_make (P:=Try.prog) (w:=W) 36 23 i0 (.int .u32 0) Try.underlying36 hi hz0 .i64 .i64 (l : Int) (c : Int) (by omega) (by omega) (by rw [hz2];omega) (by omega)
 simp only [Int.toNat_natCast] at hr
 rw [hz1,Nat.mul_one] at hr
 have hcells : madeCells (Value.int .u32 0).cells c = (nums .u32 (List.replicate c 0)).toArray:=by
  apply Array.ext
  ·simp [size_madeCells,nums]
  ·intro i h1 h2
   simp [madeCells,nums,Value.cells,Nat.mod_one]
 rw [hr,hcells]
theorem blk_own {W W' : World} {g : Nat} {cs : Array Value} {t : TypeId} {row : Option Nat} (h : W.heap[g]? = some (.cells cs t (0,0))) (hg : W.grownBy W' row) (hr : ∀ r,row = some r → ∃ o : Obj,W.heap[r]? = some o ∧ o.isCells = false) : W'.heap[g]? = some (.cells cs t (0,0)) :=
 blk_grown h hg (fun e => by
  obtain ⟨o,ho,hc⟩:=hr g e.symm
  rw [h] at ho
  cases ho
  cases hc)
def stp (l : List Int) (d : Int) (s : List Int × Int) (j : Nat) : List Int × Int :=
 (s.1.set j ((IntKind.u64.wrap (Int.tdiv (Go.bits .or .u64 (IntKind.u64.wrap (s.2 * 4294967296)) (IntKind.u64.wrap (wat l j))) (IntKind.u64.wrap d))) % 4294967296),
  Int.tmod (Go.bits .or .u64 (IntKind.u64.wrap (s.2 * 4294967296)) (IntKind.u64.wrap (wat l j))) (IntKind.u64.wrap d))
def smL (l : List Int) (d : Int) (pre : List (Fin l.length)) : List Int × Int:=pre.foldl (fun s x => stp l d s x.1) (List.replicate l.length 0,0)
theorem smL_snoc (l : List Int) (d : Int) (pre : List (Fin l.length)) (x : Fin l.length) : smL l d (pre ++ [x]) = stp l d (smL l d pre) x.1:=by simp [smL]
theorem smL_len (l : List Int) (d : Int) (pre : List (Fin l.length)) : (smL l d pre).1.length = l.length:=by
 have : ∀ (s : List Int × Int),s.1.length = l.length → (pre.foldl (fun s x => stp l d s x.1) s).1.length = l.length:=by
  induction pre with
  |nil => intro s hs;exact hs
  |cons x pre ih => intro s hs;exact ih _ (by simpa [stp] using hs)
 exact this _ (by simp)
theorem small_end {w w2 : World} {D : Nat} {Ar As : Option Addr} {cr cs : Nat} {t1 t2 : List Int} {ok1 ok2 : Nat → Prop} {b1 b2 : Nat}
  (m2 : w2.heap[w.heap.size + 1 + 1]? = some (.cells #[.slice none 0 0] 38 (0,0))) (m3 : w2.heap[w.heap.size + 1 + 1 + 1]? = some (.cells #[.slice none 0 0] 38 (0,0))) (hK : w2.heap[D]? = some (.deferred (some []))) (hB : Below w.heap.size w w2)
  (hv1 : Kd.V (Kd.int .u32) 23 w2 b1 ok1 (.slice Ar t1.length cr) t1) (hv2 : Kd.V (Kd.int .u32) 23 w2 b2 ok2 (.slice As t2.length cs) t2)
  (o1 : ∀ k,ok1 k → w.heap.size ≤ k ∧ k ≠ w.heap.size + 1 + 1 ∧ k ≠ w.heap.size + 1 + 1 + 1 ∧ k ≠ D) (o2 : ∀ k,ok2 k → w.heap.size ≤ k ∧ k ≠ w.heap.size + 1 + 1 ∧ k ≠ w.heap.size + 1 + 1 + 1 ∧ k ≠ D) (d2 : D ≠ w.heap.size + 1 + 1) (d3 : D ≠ w.heap.size + 1 + 1 + 1) (dw : w.heap.size ≤ D) (Wf : World)
  (hW : (w2.setCell ⟨w.heap.size + 1 + 1,0,none⟩ (.slice Ar t1.length cr)).setCell ⟨w.heap.size + 1 + 1 + 1,0,none⟩ (.slice As t2.length cs) = Wf) :
  Wf.heap[D]? = some (.deferred (some [])) ∧ (Wf.putObj D (.deferred none)).heap[w.heap.size + 1 + 1]? = some (.cells #[.slice Ar t1.length cr] 38 (0,0)) ∧ (Wf.putObj D (.deferred none)).heap[w.heap.size + 1 + 1 + 1]? = some (.cells #[.slice As t2.length cs] 38 (0,0)) ∧
   Kd.V (Kd.int .u32) 23 (Wf.putObj D (.deferred none)) w.heap.size (fun k_ => w.heap.size ≤ k_) (.slice Ar t1.length cr) t1 ∧ Kd.V (Kd.int .u32) 23 (Wf.putObj D (.deferred none)) w.heap.size (fun k_ => w.heap.size ≤ k_) (.slice As t2.length cs) t2 ∧ Below w.heap.size w (Wf.putObj D (.deferred none)):=by
 have hKf : Wf.heap[D]? = some (.deferred (some [])):=by
  rw [← hW]
  exact (Below.heap_setCell _ _ _ _ d3).trans ((Below.heap_setCell _ _ _ _ d2).trans hK)
 have hg:=grownBy_putObj' Wf D (.deferred none)
 have e2 : Wf.heap[w.heap.size + 1 + 1]? = some (.cells #[.slice Ar t1.length cr] 38 (0,0)):=by
  rw [← hW]
  exact (Below.heap_setCell _ _ _ _ (by show w.heap.size + 1 + 1 ≠ w.heap.size + 1 + 1 + 1;omega)).trans (blk_put m2 0 _ rfl)
 have e3 : Wf.heap[w.heap.size + 1 + 1 + 1]? = some (.cells #[.slice As t2.length cs] 38 (0,0)):=by
  rw [← hW]
  exact blk_put ((Below.heap_setCell _ _ _ _ (by show w.heap.size + 1 + 1 + 1 ≠ w.heap.size + 1 + 1;omega)).trans m3) 0 _ rfl
 refine ⟨hKf,blk_grown e2 hg (fun e => d2 (Option.some.inj e).symm),blk_grown e3 hg (fun e => d3 (Option.some.inj e).symm),?_,?_,?_⟩
 ·refine Kd.V_lower (Kd.V_mono (Kd.V_grown (ok:=ok1) ?_ hg (fun k hk e => (o1 k hk).2.2.2 (Option.some.inj e))) (fun k hk => (o1 k hk).1)) (Nat.le_refl _)
  rw [← hW]
  exact Kd.V_far (Kd.V_far hv1 (fun k hk => (o1 k hk).2.1) _) (fun k hk => (o1 k hk).2.2.1) _
 ·refine Kd.V_lower (Kd.V_mono (Kd.V_grown (ok:=ok2) ?_ hg (fun k hk e => (o2 k hk).2.2.2 (Option.some.inj e))) (fun k hk => (o2 k hk).1)) (Nat.le_refl _)
  rw [← hW]
  exact Kd.V_far (Kd.V_far hv2 (fun k hk => (o2 k hk).2.1) _) (fun k hk => (o2 k hk).2.2.1) _
 ·have hBf : Below w.heap.size w Wf:=by
   rw [← hW]
   exact (hB.setCell (p:=⟨w.heap.size + 1 + 1,0,none⟩) (by show w.heap.size ≤ w.heap.size + 1 + 1;omega) _).setCell (p:=⟨w.heap.size + 1 + 1 + 1,0,none⟩) (by show w.heap.size ≤ w.heap.size + 1 + 1 + 1;omega) _
  exact hBf.trans (belowK_b (w:=w) (Nat.le_refl _) Wf D _ _ dw hKf rfl rfl)
theorem R32_of_heap {w : World} {g : Nat} {L : List Int} (hh : w.heap[g]? = some (.cells (nums .u32 L).toArray 23 (0,0))) (hl : L.length ≤ 70368744177664) : Kd.R (Kd.int .u32) 23 w g (fun k => k = g) (.slice (some ⟨g,0,none⟩) L.length L.length) L :=
 Kd.R_of_own ⟨by simp [encs],.inr ⟨g,L.length,(nums .u32 L).toArray,rfl,Nat.le_refl _,hh,Nat.le_refl _,by simp only [maxLen];omega,by simp [nums],by rw [List.take_of_length_le (by simp [nums])];rfl⟩⟩ (fun k hk => by cases hk;rfl)
theorem small_round (w W : World) (B : Nat) (l0 : List Int) (a1 : Int) (pre : List (Fin l0.length)) (j : Nat) (hj : j < l0.length) (so : List Int) (sr u : Int) (v5 : Value) (hs : Aside0 (smL l0 a1 pre = (so,sr))) (hu : Aside0 (wat l0 j = u)) (hl : Aside0 (so.length = l0.length))
  (m1 : W.heap[w.heap.size + 1]? = some (.cells #[.int .u32 a1] 23 (0,0))) (m2 : W.heap[w.heap.size + 1 + 1]? = some (.cells #[.slice none 0 0] 38 (0,0))) (m3 : W.heap[w.heap.size + 1 + 1 + 1]? = some (.cells #[.slice none 0 0] 38 (0,0))) (m4 : W.heap[w.heap.size + 1 + 1 + 1 + 1]? = some (.cells (nums .u32 so).toArray 23 (0,0))) (m5 : W.heap[w.heap.size + 1 + 1 + 1 + 1 + 1]? = some (.cells #[v5] 36 (0,0))) (m6 : W.heap[w.heap.size + 1 + 1 + 1 + 1 + 1 + 1]? = some (.cells #[.int .u64 sr] 64 (0,0))) (hB : Below w.heap.size w W) (W' : World)
  (hW : (((W.setCell ⟨w.heap.size + 1 + 1 + 1 + 1 + 1 + 1,0,none⟩ (.int .u64 (Go.bits .or .u64 (IntKind.u64.wrap (sr * 4294967296)) (IntKind.u64.wrap u)))).setCell ⟨w.heap.size + 1 + 1 + 1 + 1,j,none⟩ (.int .u32 (IntKind.u64.wrap (Int.tdiv (Go.bits .or .u64 (IntKind.u64.wrap (sr * 4294967296)) (IntKind.u64.wrap u)) (IntKind.u64.wrap a1)) % 4294967296))).setCell ⟨w.heap.size + 1 + 1 + 1 + 1 + 1 + 1,0,none⟩ (.int .u64 (Int.tmod (Go.bits .or .u64 (IntKind.u64.wrap (sr * 4294967296)) (IntKind.u64.wrap u)) (IntKind.u64.wrap a1)))).drew = W') :
  KeepsFrom B W W' ∧ Kb w.heap.size (w.heap.size + 1 + 1 + 1 + 1 + 1 + 1 + 1) W W' ∧ (W'.heap[w.heap.size + 1]? = some (.cells #[.int .u32 a1] 23 (0,0)) ∧ W'.heap[w.heap.size + 1 + 1]? = some (.cells #[.slice none 0 0] 38 (0,0)) ∧ W'.heap[w.heap.size + 1 + 1 + 1]? = some (.cells #[.slice none 0 0] 38 (0,0)) ∧ W'.heap[w.heap.size + 1 + 1 + 1 + 1]? = some (.cells (nums .u32 (smL l0 a1 (pre ++ [⟨j,hj⟩])).1).toArray 23 (0,0)) ∧ W'.heap[w.heap.size + 1 + 1 + 1 + 1 + 1]? = some (.cells #[v5] 36 (0,0)) ∧ W'.heap[w.heap.size + 1 + 1 + 1 + 1 + 1 + 1]? = some (.cells #[.int .u64 (smL l0 a1 (pre ++ [⟨j,hj⟩])).2] 64 (0,0))) ∧ Below w.heap.size w W':=by
 rw [smL_snoc,hs.out]
 simp only [stp,hu.out]
 generalize Go.bits .or .u64 (IntKind.u64.wrap (sr * 4294967296)) (IntKind.u64.wrap u) = cur at hW ⊢
 generalize IntKind.u64.wrap (Int.tdiv cur (IntKind.u64.wrap a1)) % 4294967296 = q at hW ⊢
 generalize Int.tmod cur (IntKind.u64.wrap a1) = r at hW ⊢
 have far : ∀ g,g ≠ w.heap.size + 1 + 1 + 1 + 1 + 1 + 1 → g ≠ w.heap.size + 1 + 1 + 1 + 1 → W'.heap[g]? = W.heap[g]?:=by
  intro g h6 h4
  rw [← hW]
  show (((W.setCell _ _).setCell _ _).setCell _ _).heap[g]? = _
  rw [Below.heap_setCell _ _ _ _ h6,Below.heap_setCell _ _ _ _ h4,Below.heap_setCell _ _ _ _ h6]
 refine ⟨?_,⟨?_,?_⟩,⟨(far _ (by omega) (by omega)).trans m1,(far _ (by omega) (by omega)).trans m2,(far _ (by omega) (by omega)).trans m3,?_,(far _ (by omega) (by omega)).trans m5,?_⟩,?_⟩
 ·rw [← hW]
  exact ((((KeepsOthers.setCell _ _ _).trans (KeepsOthers.setCell _ _ _)).trans (KeepsOthers.setCell _ _ _)).trans (KeepsOthers.drew _)).from B
 ·rw [← hW]
  exact ((((Below.refl _ W).setCell (p:=⟨w.heap.size + 1 + 1 + 1 + 1 + 1 + 1,0,none⟩) (by show w.heap.size ≤ w.heap.size + 1 + 1 + 1 + 1 + 1 + 1;omega) _).setCell (p:=⟨w.heap.size + 1 + 1 + 1 + 1,j,none⟩) (by show w.heap.size ≤ w.heap.size + 1 + 1 + 1 + 1;omega) _).setCell (p:=⟨w.heap.size + 1 + 1 + 1 + 1 + 1 + 1,0,none⟩) (by show w.heap.size ≤ w.heap.size + 1 + 1 + 1 + 1 + 1 + 1;omega) _).drew
 ·intro v hv
  unfold World.cell? at hv ⊢
  rw [far _ (by show w.heap.size + 1 + 1 + 1 + 1 + 1 + 1 + 1 ≠ w.heap.size + 1 + 1 + 1 + 1 + 1 + 1;omega) (by show w.heap.size + 1 + 1 + 1 + 1 + 1 + 1 + 1 ≠ w.heap.size + 1 + 1 + 1 + 1;omega)]
  exact hv
 ·rw [← hW]
  refine (Below.heap_setCell _ _ _ _ (by show w.heap.size + 1 + 1 + 1 + 1 ≠ w.heap.size + 1 + 1 + 1 + 1 + 1 + 1;omega)).trans ?_
  refine blk_put (cs:=(nums .u32 so).toArray) ((Below.heap_setCell _ _ _ _ (by show w.heap.size + 1 + 1 + 1 + 1 ≠ w.heap.size + 1 + 1 + 1 + 1 + 1 + 1;omega)).trans m4) j _ ?_
  simp [nums]
 ·rw [← hW]
  refine blk_put (cs:=#[.int .u64 cur]) ?_ 0 _ rfl
  refine (Below.heap_setCell _ _ _ _ (by show w.heap.size + 1 + 1 + 1 + 1 + 1 + 1 ≠ w.heap.size + 1 + 1 + 1 + 1;omega)).trans ?_
  exact blk_put m6 0 _ rfl
 ·rw [← hW]
  exact (((hB.setCell (p:=⟨w.heap.size + 1 + 1 + 1 + 1 + 1 + 1,0,none⟩) (by show w.heap.size ≤ w.heap.size + 1 + 1 + 1 + 1 + 1 + 1;omega) _).setCell (p:=⟨w.heap.size + 1 + 1 + 1 + 1,j,none⟩) (by show w.heap.size ≤ w.heap.size + 1 + 1 + 1 + 1;omega) _).setCell (p:=⟨w.heap.size + 1 + 1 + 1 + 1 + 1 + 1,0,none⟩) (by show w.heap.size ≤ w.heap.size + 1 + 1 + 1 + 1 + 1 + 1;omega) _).drew
set_option maxRecDepth 100000 in
set_option maxHeartbeats 4000000 in
theorem small_in (F : Fence) (n k : Nat) (h4 : F.fn 106) (h6 : F.fn 103) (h8 : F.fn 129) (hf100 : F.fn 100) (hf54 : F.fn 54) (hro : F.round = none) (hn : 3 ≤ n) (A0 : Option Addr) (c0 : Nat) (l0 : List Int) (a1 : Int) (w : World)
  (b0 : l0.length ≤ 70368744177664) (hd : IntKind.u64.wrap a1 ≠ 0) (hI : Words32 w.heap.size w (.slice A0 l0.length c0) l0) (t1 t2 : List Int)
  (hT : ∀ (P0 : Nat → Prop) (A : Option Addr) (W : World),Kd.V (Kd.int .u32) 23 W W.heap.size (fun k_ => P0 k_) (.slice A l0.length l0.length) (smL l0 a1 (back l0.length l0.length)).1 →
   CallsIn F (n - 1) Try.prog 100 #[.slice A l0.length l0.length] W fun e w' => ∃ v0_ : Value,e = .returned (.agg #[v0_]) ∧ Kd.V (Kd.int .u32) 23 w' W.heap.size (fun k_ => (P0 k_ ∨ W.heap.size ≤ k_)) v0_ t1 ∧ Below W.heap.size W w')
  (hN : ∀ W : World,CallsIn F (n - 1) Try.prog 54 #[.int .u64 (smL l0 a1 (back l0.length l0.length)).2] W fun e w' => ∃ v0_ : Value,e = .returned (.agg #[v0_]) ∧ Kd.V (Kd.int .u32) 23 w' W.heap.size (fun k_ => (W.heap.size ≤ k_)) v0_ t2 ∧ Below W.heap.size W w') :
  CallsIn F n Try.prog 106 #[.agg #[.slice A0 l0.length c0],.int .u32 a1] w fun e w' => ∃ v0_ v1_ : Value,e = .returned (.tuple #[.agg #[v0_],.agg #[v1_]]) ∧ Kd.V (Kd.int .u32) 23 w' w.heap.size (fun k_ => (w.heap.size ≤ k_)) v0_ t1 ∧ Kd.V (Kd.int .u32) 23 w' w.heap.size (fun k_ => (w.heap.size ≤ k_)) v1_ t2 ∧ Below w.heap.size w w':=by
 have h1 : 1 ≤ n:=by omega
 refine callsIn_of_wp_marks Try.func106 rfl h4 ?_ hro
 simp only [Try.ntmps106,List.size_toArray,List.length_cons,List.length_nil,Nat.reduceAdd,Nat.reduceSub,Array.replicate_succ,Array.replicate_zero,List.push_toArray,List.append_toArray,List.nil_append,List.cons_append]
 have hmk:=fun W : World => make32 W l0.length l0.length (Nat.le_refl _) b0
 gi_wp2_with (gi_at_call 103;refine (backward_in F (n - 1) h6 hro _ _ _ _).mono ?_;rintro e w' ⟨rfl,rfl⟩)
 have hB0 : Below w.heap.size w ((((((((w.alloc (Obj.cells #[Value.slice A0 l0.length c0] 38)).alloc (Obj.cells #[Value.int IntKind.u32 a1] 23)).alloc (Obj.cells #[Value.slice none 0 0] 38)).alloc (Obj.cells #[Value.slice none 0 0] 38)).alloc (Obj.cells (nums IntKind.u32 (List.replicate l0.length 0)).toArray 23)).alloc (Obj.cells #[Value.slice (some { block:=w.heap.size + 1 + 1 + 1 + 1,off:=0 }) l0.length l0.length] 36)).alloc (Obj.cells #[Value.int IntKind.u64 0] 64)).alloc (Obj.cells #[Value.slice A0 l0.length c0] 36)):=by
  repeat' first|exact Below.refl _ _|(refine Below.alloc ?_ (by simp;try omega) _)
 obtain ⟨W0,hW0⟩ : ∃ W0,((((((((w.alloc (Obj.cells #[Value.slice A0 l0.length c0] 38)).alloc (Obj.cells #[Value.int IntKind.u32 a1] 23)).alloc (Obj.cells #[Value.slice none 0 0] 38)).alloc (Obj.cells #[Value.slice none 0 0] 38)).alloc (Obj.cells (nums IntKind.u32 (List.replicate l0.length 0)).toArray 23)).alloc (Obj.cells #[Value.slice (some { block:=w.heap.size + 1 + 1 + 1 + 1,off:=0 }) l0.length l0.length] 36)).alloc (Obj.cells #[Value.int IntKind.u64 0] 64)).alloc (Obj.cells #[Value.slice A0 l0.length c0] 36)) = W0:=⟨_,rfl⟩
 have k1 : W0.heap[w.heap.size + 1]? = some (.cells #[Value.int IntKind.u32 a1] 23 (0,0)):=by
  rw [← hW0]
  refine blk_alloc (blk_alloc (blk_alloc (blk_alloc (blk_alloc (blk_alloc ?_ _) _) _) _) _) _
  have:=blk_new (w.alloc (Obj.cells #[Value.slice A0 l0.length c0] 38)) (Obj.cells #[Value.int IntKind.u32 a1] 23)
  simpa only [World.size_alloc] using this
 have k2 : W0.heap[w.heap.size + 1 + 1]? = some (.cells #[Value.slice none 0 0] 38 (0,0)):=by
  rw [← hW0]
  refine blk_alloc (blk_alloc (blk_alloc (blk_alloc (blk_alloc ?_ _) _) _) _) _
  have:=blk_new ((w.alloc (Obj.cells #[Value.slice A0 l0.length c0] 38)).alloc (Obj.cells #[Value.int IntKind.u32 a1] 23)) (Obj.cells #[Value.slice none 0 0] 38)
  simpa only [World.size_alloc] using this
 have k3 : W0.heap[w.heap.size + 1 + 1 + 1]? = some (.cells #[Value.slice none 0 0] 38 (0,0)):=by
  rw [← hW0]
  refine blk_alloc (blk_alloc (blk_alloc (blk_alloc ?_ _) _) _) _
  have:=blk_new (((w.alloc (Obj.cells #[Value.slice A0 l0.length c0] 38)).alloc (Obj.cells #[Value.int IntKind.u32 a1] 23)).alloc (Obj.cells #[Value.slice none 0 0] 38)) (Obj.cells #[Value.slice none 0 0] 38)
  simpa only [World.size_alloc] using this
 have k4 : W0.heap[w.heap.size + 1 + 1 + 1 + 1]? = some (.cells (nums IntKind.u32 (List.replicate l0.length 0)).toArray 23 (0,0)):=by
  rw [← hW0]
  refine blk_alloc (blk_alloc (blk_alloc ?_ _) _) _
  have:=blk_new ((((w.alloc (Obj.cells #[Value.slice A0 l0.length c0] 38)).alloc (Obj.cells #[Value.int IntKind.u32 a1] 23)).alloc (Obj.cells #[Value.slice none 0 0] 38)).alloc (Obj.cells #[Value.slice none 0 0] 38)) (Obj.cells (nums IntKind.u32 (List.replicate l0.length 0)).toArray 23)
  simpa only [World.size_alloc] using this
 have k5 : W0.heap[w.heap.size + 1 + 1 + 1 + 1 + 1]? = some (.cells #[Value.slice (some { block:=w.heap.size + 1 + 1 + 1 + 1,off:=0 }) l0.length l0.length] 36 (0,0)):=by
  rw [← hW0]
  refine blk_alloc (blk_alloc ?_ _) _
  have:=blk_new (((((w.alloc (Obj.cells #[Value.slice A0 l0.length c0] 38)).alloc (Obj.cells #[Value.int IntKind.u32 a1] 23)).alloc (Obj.cells #[Value.slice none 0 0] 38)).alloc (Obj.cells #[Value.slice none 0 0] 38)).alloc (Obj.cells (nums IntKind.u32 (List.replicate l0.length 0)).toArray 23)) (Obj.cells #[Value.slice (some { block:=w.heap.size + 1 + 1 + 1 + 1,off:=0 }) l0.length l0.length] 36)
  simpa only [World.size_alloc] using this
 have k6 : W0.heap[w.heap.size + 1 + 1 + 1 + 1 + 1 + 1]? = some (.cells #[Value.int IntKind.u64 0] 64 (0,0)):=by
  rw [← hW0]
  refine blk_alloc ?_ _
  have:=blk_new ((((((w.alloc (Obj.cells #[Value.slice A0 l0.length c0] 38)).alloc (Obj.cells #[Value.int IntKind.u32 a1] 23)).alloc (Obj.cells #[Value.slice none 0 0] 38)).alloc (Obj.cells #[Value.slice none 0 0] 38)).alloc (Obj.cells (nums IntKind.u32 (List.replicate l0.length 0)).toArray 23)).alloc (Obj.cells #[Value.slice (some { block:=w.heap.size + 1 + 1 + 1 + 1,off:=0 }) l0.length l0.length] 36)) (Obj.cells #[Value.int IntKind.u64 0] 64)
  simpa only [World.size_alloc] using this
 have k7 : W0.heap[w.heap.size + 1 + 1 + 1 + 1 + 1 + 1 + 1]? = some (.cells #[Value.slice A0 l0.length c0] 36 (0,0)):=by
  rw [← hW0]
  refine ?_
  have:=blk_new (((((((w.alloc (Obj.cells #[Value.slice A0 l0.length c0] 38)).alloc (Obj.cells #[Value.int IntKind.u32 a1] 23)).alloc (Obj.cells #[Value.slice none 0 0] 38)).alloc (Obj.cells #[Value.slice none 0 0] 38)).alloc (Obj.cells (nums IntKind.u32 (List.replicate l0.length 0)).toArray 23)).alloc (Obj.cells #[Value.slice (some { block:=w.heap.size + 1 + 1 + 1 + 1,off:=0 }) l0.length l0.length] 36)).alloc (Obj.cells #[Value.int IntKind.u64 0] 64)) (Obj.cells #[Value.slice A0 l0.length c0] 36)
  simpa only [World.size_alloc] using this
 have hsz : W0.heap.size = w.heap.size + 1 + 1 + 1 + 1 + 1 + 1 + 1 + 1:=by rw [← hW0];simp only [World.size_alloc]
 rw [hW0] at hB0 ⊢
 clear hW0
 replace hsz:=Aside0.mk hsz
 refine wpIn_rangeFunc_ownG hro h1 (gf:=129) (lb:=#[.pointer (some ⟨w.heap.size + 1 + 1 + 1 + 1 + 1 + 1 + 1,0,none⟩)]) rfl h8 (enters_of Try.func129 (by kernel_rfl) rfl)
  (back_stops F (n - 1) h8 hro (by omega) (w.heap.size + 1 + 1 + 1 + 1 + 1 + 1 + 1) w.heap.size _ l0 (by omega) W0 (by rw [hsz.out];omega) (by rw [hsz.out];omega) (blk_cell k7 0) (hI.below hB0)) (fun h k => h.trans k) (Kb.put (by rw [hsz.out];omega)) (Below.refl _ _) (fun _ => rfl)
  (fun pre W => (W.heap[w.heap.size + 1]? = some (.cells #[.int .u32 a1] 23 (0,0)) ∧ W.heap[w.heap.size + 1 + 1]? = some (.cells #[.slice none 0 0] 38 (0,0)) ∧ W.heap[w.heap.size + 1 + 1 + 1]? = some (.cells #[.slice none 0 0] 38 (0,0)) ∧ W.heap[w.heap.size + 1 + 1 + 1 + 1]? = some (.cells (nums .u32 (smL l0 a1 pre).1).toArray 23 (0,0)) ∧ W.heap[w.heap.size + 1 + 1 + 1 + 1 + 1]? = some (.cells #[.slice (some ⟨w.heap.size + 1 + 1 + 1 + 1,0,none⟩) l0.length l0.length] 36 (0,0)) ∧ W.heap[w.heap.size + 1 + 1 + 1 + 1 + 1 + 1]? = some (.cells #[.int .u64 (smL l0 a1 pre).2] 64 (0,0))) ∧ Below w.heap.size w W)
  (fun _ _ _ => False)
  (OwnFrom.and (Own.from (fun s A B row hs hg hr => ⟨blk_own hs.1 hg hr,blk_own hs.2.1 hg hr,blk_own hs.2.2.1 hg hr,blk_own hs.2.2.2.1 hg hr,blk_own hs.2.2.2.2.1 hg hr,blk_own hs.2.2.2.2.2 hg hr⟩) _) (ownFrom_below (Nat.le_refl _) (by rw [hsz.out];omega)))
  (fun _ _ _ _ _ hs _ _ => hs)
  ⟨⟨k1,k2,k3,k4,k5,k6⟩,hB0⟩
  (fun x => { tmps:=#[Value.agg #[Value.slice A0 l0.length c0],Value.int IntKind.u32 a1,
     Value.pointer (some { block:=w.heap.size,off:=0 }),
     Value.pointer (some { block:=w.heap.size + 1,off:=0 }),
     Value.pointer (some { block:=w.heap.size + 1 + 1,off:=0 }),
     Value.pointer (some { block:=w.heap.size + 1 + 1 + 1,off:=0 }),
     Value.pointer (some { block:=w.heap.size + 1 + 1 + 1 + 1 + 1,off:=0 }),
     Value.pointer (some { block:=w.heap.size + 1 + 1 + 1 + 1 + 1 + 1,off:=0 }),.int .i64 (x.1 : Int),.int .u32 (wat l0 x.1),
     Value.pointer (some { block:=w.heap.size,off:=0 }),Value.slice A0 l0.length c0,
     Value.int IntKind.i64 l0.length,
     Value.slice (some { block:=w.heap.size + 1 + 1 + 1 + 1,off:=0 }) l0.length l0.length,
     Value.pointer (some { block:=w.heap.size,off:=0 }),Value.slice A0 l0.length c0,
     Value.func (Fn.func 129) #[]
      #[Value.pointer (some { block:=w.heap.size + 1 + 1 + 1 + 1 + 1 + 1 + 1,off:=0 })],
     .int .i64 (x.1 : Int),.int .u32 (wat l0 x.1),undef,undef,undef,undef,undef,undef,undef,undef,undef,undef,undef,undef,undef,
     undef,undef,undef,undef,undef,undef,undef,undef],defers:=[] }) ?assign ?body ?done ?stop
 case assign =>
  intro l x W K hK
  gi_wp2
  exact hK
 case body =>
  rintro l pre ⟨j,hj⟩ W ⟨⟨m1,m2,m3,m4,m5,m6⟩,hB⟩ _
  dsimp only
  have hl4:=smL_len l0 a1 pre
  generalize hs : smL l0 a1 pre = s at m4 m6 hl4
  obtain ⟨so,sr⟩:=s
  dsimp only at m4 m6 hl4
  generalize hu : wat l0 j = u
  have q1:=blk_cell m1 0
  have q5:=blk_cell m5 0
  have q6:=blk_cell m6 0
  have q4:=blk_cell m4 j
  have f6:=blk_frozen m6 0
  have f4:=blk_frozen m4 j
  have q4' : W.cell? ⟨w.heap.size + 1 + 1 + 1 + 1,j,none⟩ = some (.int .u32 (wat so j)):=by
   rw [q4]
   simp [nums,wat,hl4,hj]
  replace q1 : W.cell? ⟨w.heap.size + 1,0,none⟩ = some (.int .u32 a1):=q1
  replace q5 : W.cell? ⟨w.heap.size + 1 + 1 + 1 + 1 + 1,0,none⟩ = some (.slice (some ⟨w.heap.size + 1 + 1 + 1 + 1,0,none⟩) l0.length l0.length):=q5
  replace q6 : W.cell? ⟨w.heap.size + 1 + 1 + 1 + 1 + 1 + 1,0,none⟩ = some (.int .u64 sr):=q6
  clear q4
  replace hs:=Aside0.mk hs
  replace hu:=Aside0.mk hu
  replace hl4:=Aside0.mk hl4
  have hmx : Try.prog.follows .mixedOrders = true:=by kernel_rfl
  have HR:=small_round w W W0.heap.size l0 a1 pre j hj so sr u _ hs hu hl4 m1 m2 m3 m4 m5 m6 hB
  replace HR:=Aside0.mk HR
  gi_wp2
  gi_region_o
  all_goals gi_wp2
  all_goals exact HR.out _ rfl
 case done =>
  rintro D ys W hD rfl ⟨⟨m1,m2,m3,m4,m5,m6⟩,hB⟩ hK
  have hl:=smL_len l0 a1 (back l0.length l0.length)
  generalize hs : smL l0 a1 (back l0.length l0.length) = s at m4 m6 hl
  obtain ⟨so,sr⟩:=s
  dsimp only at m4 m6 hl
  have q5 : W.cell? ⟨w.heap.size + 1 + 1 + 1 + 1 + 1,0,none⟩ = some (.slice (some ⟨w.heap.size + 1 + 1 + 1 + 1,0,none⟩) l0.length l0.length):=blk_cell m5 0
  have q6 : W.cell? ⟨w.heap.size + 1 + 1 + 1 + 1 + 1 + 1,0,none⟩ = some (.int .u64 sr):=blk_cell m6 0
  replace hs:=Aside0.mk hs
  replace hl:=Aside0.mk hl
  have hmx : Try.prog.follows .mixedOrders = true:=by kernel_rfl
  have R0:=Aside0.mk (R32_of_heap (L:=so) m4 (by rw [hl.out];omega))
  rw [hs.out] at hT hN
  dsimp only at hT hN
  have lD:=(Array.getElem?_eq_some_iff.1 hK).1
  have lt2:=blk_lt m2
  have lt3:=blk_lt m3
  have lt4:=blk_lt m4
  gi_wp2
  gi_region_with_o (first|(gi_at_call 100;refine (hT (fun k_ => k_ = w.heap.size + 1 + 1 + 1 + 1) _ _ ?sv).mono ?_;(case sv => exact Kd.R_V (Kd.R_drew (by have:=R0.out;rwa [hl.out] at this)));rintro e w1 ⟨v1,rfl,hv1,hb⟩;have z1:=hb.size;obtain ⟨Ar,cr,he⟩:=Kd.V_slice hv1;subst he;(replace m2:=(hb.block _ (blk_lt m2)).trans m2;replace m3:=(hb.block _ (blk_lt m3)).trans m3;replace m4:=(hb.block _ (blk_lt m4)).trans m4;replace m5:=(hb.block _ (blk_lt m5)).trans m5;replace m6:=(hb.block _ (blk_lt m6)).trans m6;replace hK:=(hb.block _ (Array.getElem?_eq_some_iff.1 hK).1).trans hK;replace hB:=(by first|exact below_step hB hb|exact below_step hB.drew hb : Below w.heap.size w _);(try replace hv2:=Kd.V_below hv2 hb);clear q5 q6;have q5 : World.cell? _ ⟨w.heap.size + 1 + 1 + 1 + 1 + 1,0,none⟩ = some (.slice (some ⟨w.heap.size + 1 + 1 + 1 + 1,0,none⟩) l0.length l0.length):=blk_cell m5 0;have q6 : World.cell? _ ⟨w.heap.size + 1 + 1 + 1 + 1 + 1 + 1,0,none⟩ = some (.int .u64 sr):=blk_cell m6 0;have q2 : World.cell? _ ⟨w.heap.size + 1 + 1,0,none⟩ = some (.slice none 0 0):=blk_cell m2 0;have q3 : World.cell? _ ⟨w.heap.size + 1 + 1 + 1,0,none⟩ = some (.slice none 0 0):=blk_cell m3 0;have f2:=blk_frozen m2 0;have f3:=blk_frozen m3 0;clear hb))|(gi_at_call 54;refine (hN _).mono ?_;rintro e w2 ⟨v2,rfl,hv2,hb⟩;have z2:=hb.size;obtain ⟨As,cs,he⟩:=Kd.V_slice hv2;subst he;(replace m2:=(hb.block _ (blk_lt m2)).trans m2;replace m3:=(hb.block _ (blk_lt m3)).trans m3;replace m4:=(hb.block _ (blk_lt m4)).trans m4;replace m5:=(hb.block _ (blk_lt m5)).trans m5;replace m6:=(hb.block _ (blk_lt m6)).trans m6;replace hK:=(hb.block _ (Array.getElem?_eq_some_iff.1 hK).1).trans hK;replace hB:=(by first|exact below_step hB hb|exact below_step hB.drew hb : Below w.heap.size w _);(try replace hv1:=Kd.V_below hv1 hb);clear q5 q6;have q5 : World.cell? _ ⟨w.heap.size + 1 + 1 + 1 + 1 + 1,0,none⟩ = some (.slice (some ⟨w.heap.size + 1 + 1 + 1 + 1,0,none⟩) l0.length l0.length):=blk_cell m5 0;have q6 : World.cell? _ ⟨w.heap.size + 1 + 1 + 1 + 1 + 1 + 1,0,none⟩ = some (.int .u64 sr):=blk_cell m6 0;have q2 : World.cell? _ ⟨w.heap.size + 1 + 1,0,none⟩ = some (.slice none 0 0):=blk_cell m2 0;have q3 : World.cell? _ ⟨w.heap.size + 1 + 1 + 1,0,none⟩ = some (.slice none 0 0):=blk_cell m3 0;have f2:=blk_frozen m2 0;have f3:=blk_frozen m3 0;clear hb)))
  all_goals gi_wp2
  all_goals
   have hD8:=hsz.out
   have hz0 : W.heap.size ≤ w1.heap.size:=z1
   have o1 : ∀ k_ : Nat,(k_ = w.heap.size + 1 + 1 + 1 + 1 ∨ W.heap.size ≤ k_) → w.heap.size ≤ k_ ∧ k_ ≠ w.heap.size + 1 + 1 ∧ k_ ≠ w.heap.size + 1 + 1 + 1 ∧ k_ ≠ D:=by omega
   have o2 : ∀ k_ : Nat,w1.heap.size ≤ k_ → w.heap.size ≤ k_ ∧ k_ ≠ w.heap.size + 1 + 1 ∧ k_ ≠ w.heap.size + 1 + 1 + 1 ∧ k_ ≠ D:=by omega
   obtain ⟨hKf,e2,e3,y1,y2,y3⟩:=small_end m2 m3 hK hB hv1 hv2 o1 o2 (by omega) (by omega) (by omega) _ rfl
   refine ⟨by simp,.inl ⟨_,_,rfl,run_takeDeferred hKf,?_⟩⟩
   exact ⟨_,results_cc rfl _ _ _ _ 38 38 _ _ (0,0) (0,0) _ _ rfl e2 Try.underlying38 rfl (by kernel_rfl) rfl e3 Try.underlying38 rfl (by kernel_rfl),_,_,rfl,y1,y2,y3⟩
 case stop =>
  rintro D c pre W _ _ h _
  exact h.elim
def nat_Nat_small.f (k : Nat) (l0_0 : List Int) (a1 : Int) : Option (List Int × List Int) :=
 if l0_0.length ≤ 70368744177664 then (if IntKind.u64.wrap a1 = 0 then none else (nat_trim.f k (smL l0_0 a1 (back l0_0.length l0_0.length)).1).bind fun t1 => (nat_New.f k (smL l0_0 a1 (back l0_0.length l0_0.length)).2).bind fun t2 => some (t1,t2)) else none
theorem nat_Nat_small.mono : ∀ a0 a1 k,LeO (nat_Nat_small.f k a0 a1) (nat_Nat_small.f (k + 1) a0 a1):=by
 intro a0 a1 k
 unfold nat_Nat_small.f
 repeat' first
  |exact LeO.refl _
  |exact nat_trim.mono _ _
  |exact nat_New.mono _ _
  |refine LeO.ite ?_ ?_
  |refine LeO.bind ?_ (fun _ => ?_)
theorem nat_Nat_small.calls (k : Nat) (A0_0 : Option Addr) (c0_0 : Nat) (l0_0 : List Int) (a1 : Int) (r1 : List Int) (r2 : List Int) (w : World) (hr0_0 : Kd.C (Kd.int .u32) w A0_0 l0_0.length l0_0) (hc0_0 : l0_0.length ≤ c0_0) (h : nat_Nat_small.f k l0_0 a1 = some (r1,r2)) :
  Calls Try.prog 106 #[.agg #[.slice A0_0 l0_0.length c0_0],.int .u32 a1] w fun e w' => ∃ v0_ v1_ : Value,e = .returned (.tuple #[.agg #[v0_],.agg #[v1_]]) ∧ Kd.V (Kd.int .u32) 23 w' w.heap.size (fun k_ => (w.heap.size ≤ k_)) v0_ r1 ∧ Kd.V (Kd.int .u32) 23 w' w.heap.size (fun k_ => (w.heap.size ≤ k_)) v1_ r2 ∧ Below w.heap.size w w':=by
 have r0:=Kd.reads_of_C (enc:=Value.int .u32) (d:=(0 : Int)) (h1:=fun _ => rfl) hr0_0
 unfold nat_Nat_small.f at h
 by_cases hl : l0_0.length ≤ 70368744177664
 ·rw [if_pos hl] at h
  by_cases hd : IntKind.u64.wrap a1 = 0
  ·rw [if_pos hd] at h
   cases h
  ·rw [if_neg hd] at h
   obtain ⟨t1,h1,h⟩:=Option.bind_eq_some_iff.1 h
   obtain ⟨t2,h2,h⟩:=Option.bind_eq_some_iff.1 h
   cases h
   refine (callsIn_wide (n:=3)).1 (small_in Fence.wide 3 k trivial trivial trivial trivial trivial rfl (Nat.le_refl _) A0_0 c0_0 l0_0 a1 w hl hd (Words32.of_reads r0) r1 r2 ?_ ?_)
   ·intro P0 A W hv
    have hlen:=smL_len l0_0 a1 (back l0_0.length l0_0.length)
    have:=nat_trim.calls k P0 A l0_0.length (smL l0_0 a1 (back l0_0.length l0_0.length)).1 r1 W (by rw [hlen];exact hv) h1
    rw [hlen] at this
    exact callsIn_wide.2 this
   ·intro W
    exact callsIn_wide.2 (nat_New.calls k _ r2 W h2)
 ·rw [if_neg hl] at h
  cases h
end Go.Proofs.Yteejcpbngnojkaa.P
end
section
namespace Go.Proofs.Yteejcpbngnojkaa.P
open Go.RowKit Go.Proofs.YteejcpbngnojkaaW.PrintWords Go.Proofs.YteejcpbngnojkaaW.PrintLast Go.Proofs.YteejcpbngnojkaaW.PrintMore
attribute [local go_sem] max2_int min2_int max_two min_two max_three min_three max_four min_four
set_option linter.unusedVariables false
set_option linter.unusedSimpArgs false
def bits_LeadingZeros32.f (a0 : Int) : Option (Int):=(bits_Len32.f a0).bind fun t354 => (some (wrap64 (32 - t354)))
set_option maxHeartbeats 8000000 in
set_option maxRecDepth 100000 in
theorem bits_LeadingZeros32.calls (a0 : Int) (r : Int) (w : World) (h : bits_LeadingZeros32.f a0 = some r) :
  Calls Try.prog 107 #[.int .u32 a0] w fun e w' => e = .returned (.int .i64 r) ∧ Drawn0 w w':=by
 have H : ((bits_Len32.f a0).bind fun t354 => (some (wrap64 (32 - t354)))) = some r:=h
 clear h
 obtain ⟨t354,A2,H⟩:=qH H
 obtain rfl:=Option.some.inj H
 go_enter Try.func107,Try.ntmps107
 go_wp2_with (first|((with_reducible refine gate_callee (f:=102) rfl ?_);refine gL (some 4) Try.func102 #[.int .u32 a0] ?_;(with_reducible refine (bits_Len32.calls a0 t354 _ A2.out).mono ?_);rintro e w' ⟨rfl,⟨nd,rfl⟩⟩;refine ⟨_,rfl,?_⟩))
 (first|go_ret|(refine ⟨_,results_tmp rfl _ _ _,?_⟩))
 exact ⟨by first|rfl|(simp;done)|(simp [*];done),by repeat (first|exact Drawn0.refl _|apply Drawn0.step)⟩
end Go.Proofs.Yteejcpbngnojkaa.P
end
