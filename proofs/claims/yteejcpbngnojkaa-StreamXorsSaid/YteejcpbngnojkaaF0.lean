-- WRITTEN BY A PROGRAM OF THIS PROJECT'S OWN (wip/tools/mk.py) over the kit's print; not trusted: Lean checks it.
import Derived.Test.YteejcpbngnojkaaProg
import Derived.Below
import Derived.Deep.Draws
import Derived.Deep.AppendLies
import Derived.Maps.AppendAt
import Derived.OwnWalk
import Derived.Laws.BytesArg
import Derived.Laws.MakeOwn
import Derived.Laws.OwnMore
import Derived.Deep.OwnRows
import Derived.Tactics
import Derived.Lib.ConvBytes
import Derived.Laws.Slices
import Derived.WalkKit
import Derived.KernelRfl
import Derived.RowKit3
import Derived.Deep.LoopGhost
import Derived.Deep.QuietTactic
import Derived.BigQuiet
import Derived.WideLaws
import Derived.Deep.DeepCutAuto
import Derived.Deep.CutBlock
import Derived.Deep.RegionHeld3
import Derived.Laws.Rows
import Derived.Lib.AppendStr
import Derived.ArgAppend
import Derived.Laws.IdiomCopy
import Derived.OrdersHeld
import Derived.Laws.BitsLemmas
import Derived.RowKit
import Derived.Test.YteejcpbngnojkaaWWords
import Derived.Test.YteejcpbngnojkaaWLast
import Derived.Test.YteejcpbngnojkaaWTab
import Derived.Test.YteejcpbngnojkaaWFour
import Derived.Test.YteejcpbngnojkaaWQPut
import Derived.Test.YteejcpbngnojkaaWApart
import Derived.Test.YteejcpbngnojkaaWArr
import Derived.Test.YteejcpbngnojkaaWZeros
import Derived.Test.YteejcpbngnojkaaWFoot
import Derived.Test.YteejcpbngnojkaaWKept
import Derived.Test.YteejcpbngnojkaaWShare
import Derived.Test.YteejcpbngnojkaaWN
import Derived.Test.YteejcpbngnojkaaWFootNe
import Derived.Test.YteejcpbngnojkaaWAt
import Derived.Test.YteejcpbngnojkaaWEqStruct
import Derived.Test.YteejcpbngnojkaaWRepsOne
import Derived.Test.YteejcpbngnojkaaWInv
import Derived.Test.YteejcpbngnojkaaWInvWords
import Derived.Test.YteejcpbngnojkaaWGuard
import Derived.Test.YteejcpbngnojkaaWNEv
import Derived.Test.YteejcpbngnojkaaWMore
namespace Go.Proofs.Yteejcpbngnojkaa.P
open Go.RowKit Go.Proofs.YteejcpbngnojkaaW.PrintWords Go.Proofs.YteejcpbngnojkaaW.PrintLast Go.Proofs.YteejcpbngnojkaaW.PrintMore
attribute [local go_sem] max2_int min2_int max_two min_two max_three min_three max_four min_four   -- for this text's walks alone
set_option linter.unusedVariables false
set_option linter.unusedSimpArgs false



def errW : Option Int → Value
  | none => .nilIface
  | some c => .iface 0 (.int .i64 c)
theorem errW_none : errW none = .nilIface := rfl
theorem errW_some (c : Int) : errW (some c) = .iface 0 (.int .i64 c) := rfl

theorem info4 : (Try.prog.info? 4).map (fun i => (i.zero, i.size, i.bytes)) = some (some (.bool false), 1, 1) := by kernel_rfl
theorem info5 : (Try.prog.info? 5).map (fun i => (i.zero, i.size, i.bytes)) = some (some (.int .u8 0), 1, 1) := by kernel_rfl
theorem info23 : (Try.prog.info? 23).map (fun i => (i.zero, i.size, i.bytes)) = some (some (.int .u32 0), 1, 4) := by kernel_rfl
theorem info38 : (Try.prog.info? 38).map (fun i => (i.zero, i.size, i.bytes)) = some (some (.agg #[(.slice none 0 0)]), 1, 24) := by kernel_rfl
theorem info42 : (Try.prog.info? 42).map (fun i => (i.zero, i.size, i.bytes)) = some (some (.slice none 0 0), 1, 24) := by kernel_rfl
theorem info105 : (Try.prog.info? 105).map (fun i => (i.zero, i.size, i.bytes)) = some (some (.agg #[(.slice none 0 0), (.slice none 0 0), (.slice none 0 0)]), 3, 72) := by kernel_rfl
theorem info108 : (Try.prog.info? 108).map (fun i => (i.zero, i.size, i.bytes)) = some (some (.agg #[(.slice none 0 0), (.slice none 0 0), (.slice none 0 0)]), 3, 72) := by kernel_rfl
-- the values' own types
def rd_L3 (xs : List (List Int)) (i : Int) : (List Int) := xs.getD i.toNat ([] : List Int)
theorem at_L3 {w : World} {A : Option Addr} {n : Nat} {xs : List (List Int)} (h : Kd.C (Kd.slice 5 (Kd.int .u8)) w A n xs) (i : Int) (h0 : 0 ≤ i) (h1 : i < n) : ∃ ad A0 c0, A = some ad ∧ w.cell? (ad.add i.toNat) = some (.slice A0 (rd_L3 xs i).length c0) ∧ (rd_L3 xs i).length ≤ c0 ∧ (Kd.int .u8).C w A0 (rd_L3 xs i).length (rd_L3 xs i) := by
  obtain ⟨ad, c, e, _, hK, hc0⟩ := Kd.C_get h ([] : List Int) i h0 h1
  have hc : ∀ j u, c[j]? = some u → w.cell? (ad.add (i.toNat * 1 + j)) = some u := hc0
  obtain ⟨A0, c0, rfl, l0, g0⟩ := hK
  exact ⟨ad, A0, c0, e, by have hq := hc 0 _ rfl; rwa [Nat.mul_one, Nat.add_zero] at hq, l0, g0⟩

def rd_L4 (xs : List (List Int)) (i : Int) : (List Int) := xs.getD i.toNat ([] : List Int)
theorem at_L4 {w : World} {A : Option Addr} {n : Nat} {xs : List (List Int)} (h : Kd.C (Kd.slice 23 (Kd.int .u32)) w A n xs) (i : Int) (h0 : 0 ≤ i) (h1 : i < n) : ∃ ad A0 c0, A = some ad ∧ w.cell? (ad.add i.toNat) = some (.slice A0 (rd_L4 xs i).length c0) ∧ (rd_L4 xs i).length ≤ c0 ∧ (Kd.int .u32).C w A0 (rd_L4 xs i).length (rd_L4 xs i) := by
  obtain ⟨ad, c, e, _, hK, hc0⟩ := Kd.C_get h ([] : List Int) i h0 h1
  have hc : ∀ j u, c[j]? = some u → w.cell? (ad.add (i.toNat * 1 + j)) = some u := hc0
  obtain ⟨A0, c0, rfl, l0, g0⟩ := hK
  exact ⟨ad, A0, c0, e, by have hq := hc 0 _ rfl; rwa [Nat.mul_one, Nat.add_zero] at hq, l0, g0⟩

/-! #### struct type 38 -/
structure S38 where
  f0 : (List Int)
def z38 : S38 := ⟨([] : List Int)⟩
def k38 : Kd S38 := Kd.iso (Kd.slice 23 (Kd.int .u32)) (fun x : S38 => x.f0)
theorem k38_heap : Kd.Heap k38 := Kd.heap_iso _ (Kd.heap_slice 23 (Kd.heap_int .u32))
theorem k38_open {w : World} {x : S38} {cs : List Value} (h : k38.K w x cs) : ∃ A0 c0, cs = [.slice A0 x.f0.length c0] ∧ x.f0.length ≤ c0 ∧ (Kd.int .u32).C w A0 x.f0.length x.f0 := by
  obtain ⟨A0, c0, rfl, l0, g0⟩ := h
  exact ⟨A0, c0, rfl, l0, g0⟩
theorem k38_openM {w : World} {base : Nat} {ok : Nat → Prop} {x : S38} {cs : List Value} (h : k38.M w base ok x cs) : ∃ v0, cs = [v0] ∧ (Kd.int .u32).R 23 w base ok v0 x.f0 := by
  obtain ⟨v0, rfl, g0⟩ := h
  exact ⟨v0, rfl, g0⟩
theorem k38_mk (w : World) (x : S38) {A0 : Option Addr} {c0 : Nat} (l0 : x.f0.length ≤ c0) (g0 : (Kd.int .u32).C w A0 x.f0.length x.f0) : k38.K w x [.slice A0 x.f0.length c0] := ⟨A0, c0, rfl, l0, g0⟩
theorem k38_mkM (w : World) (base : Nat) (ok : Nat → Prop) (x : S38) {v0 : Value} (g0 : (Kd.int .u32).R 23 w base ok v0 x.f0) : k38.M w base ok x [v0] := ⟨v0, rfl, g0⟩
theorem k38_openF {W : World} {ok : Nat → Prop} {x : S38} {cs : List Value} (h : Kd.FK k38 W ok x cs) : ∃ A0 c0, cs = [.slice A0 x.f0.length c0] ∧ x.f0.length ≤ c0 ∧ Kd.F (Kd.int .u32) W ok A0 x.f0.length x.f0 := by
  obtain ⟨A0, c0, rfl, l0, _⟩ := k38_open (Kd.FK_now h)
  exact ⟨A0, c0, rfl, l0, (fun W' hW => by obtain ⟨A0_, c0_, he, l0_, g0_⟩ := k38_open (h W' hW); injection (Option.some.inj (show some (Value.slice A0 x.f0.length c0) = some (Value.slice A0_ x.f0.length c0_) from congrArg (fun l => l[0]?) he)) with ha_ _ _; rw [ha_]; exact g0_)⟩
theorem k38_mkF (W : World) (ok : Nat → Prop) (x : S38) {A0 : Option Addr} {c0 : Nat} (l0 : x.f0.length ≤ c0) (g0 : Kd.F (Kd.int .u32) W ok A0 x.f0.length x.f0) : Kd.FK k38 W ok x [.slice A0 x.f0.length c0] := fun W2 hW => k38_mk W2 x l0 (g0 W2 hW)
def rd_T38 (xs : List S38) (i : Int) : S38 := xs.getD i.toNat z38
theorem at_T38 {w : World} {A : Option Addr} {n : Nat} {xs : List S38} (h : Kd.C k38 w A n xs) (i : Int) (h0 : 0 ≤ i) (h1 : i < n) : ∃ ad A0 c0, A = some ad ∧ w.cell? (ad.add i.toNat) = some (.slice A0 (rd_T38 xs i).f0.length c0) ∧ (rd_T38 xs i).f0.length ≤ c0 ∧ (Kd.int .u32).C w A0 (rd_T38 xs i).f0.length (rd_T38 xs i).f0 := by
  obtain ⟨ad, c, e, _, hK, hc0⟩ := Kd.C_get h z38 i h0 h1
  have hc : ∀ j u, c[j]? = some u → w.cell? (ad.add (i.toNat * 1 + j)) = some u := hc0
  obtain ⟨A0, c0, rfl, l0, g0⟩ := k38_open hK
  exact ⟨ad, A0, c0, e, by have hq := hc 0 _ rfl; rwa [Nat.mul_one, Nat.add_zero] at hq, l0, g0⟩

def rd_L7 (xs : List (List Int)) (i : Int) : (List Int) := xs.getD i.toNat ([] : List Int)
theorem at_L7 {w : World} {A : Option Addr} {n : Nat} {xs : List (List Int)} (h : Kd.C (Kd.slice 64 (Kd.int .u64)) w A n xs) (i : Int) (h0 : 0 ≤ i) (h1 : i < n) : ∃ ad A0 c0, A = some ad ∧ w.cell? (ad.add i.toNat) = some (.slice A0 (rd_L7 xs i).length c0) ∧ (rd_L7 xs i).length ≤ c0 ∧ (Kd.int .u64).C w A0 (rd_L7 xs i).length (rd_L7 xs i) := by
  obtain ⟨ad, c, e, _, hK, hc0⟩ := Kd.C_get h ([] : List Int) i h0 h1
  have hc : ∀ j u, c[j]? = some u → w.cell? (ad.add (i.toNat * 1 + j)) = some u := hc0
  obtain ⟨A0, c0, rfl, l0, g0⟩ := hK
  exact ⟨ad, A0, c0, e, by have hq := hc 0 _ rfl; rwa [Nat.mul_one, Nat.add_zero] at hq, l0, g0⟩

/-! #### struct type 96 -/
structure S96 where
  f0 : Int
  f1 : Int
  f2 : (List Int)
def z96 : S96 := ⟨(0 : Int), (0 : Int), ([] : List Int)⟩
def k96 : Kd S96 := Kd.iso (Kd.pair (Kd.int .u64) (Kd.pair (Kd.int .u64) (Kd.slice 64 (Kd.int .u64)))) (fun x : S96 => (x.f0, x.f1, x.f2))
theorem k96_heap : Kd.Heap k96 := Kd.heap_iso _ (Kd.heap_pair (Kd.heap_int .u64) (Kd.heap_pair (Kd.heap_int .u64) (Kd.heap_slice 64 (Kd.heap_int .u64))))
theorem k96_open {w : World} {x : S96} {cs : List Value} (h : k96.K w x cs) : ∃ A2 c2, cs = [.int .u64 x.f0, .int .u64 x.f1, .slice A2 x.f2.length c2] ∧ x.f2.length ≤ c2 ∧ (Kd.int .u64).C w A2 x.f2.length x.f2 := by
  obtain ⟨_, _, rfl, rfl, ⟨_, _, rfl, rfl, ⟨A2, c2, rfl, l2, g2⟩⟩⟩ := h
  exact ⟨A2, c2, rfl, l2, g2⟩
theorem k96_openM {w : World} {base : Nat} {ok : Nat → Prop} {x : S96} {cs : List Value} (h : k96.M w base ok x cs) : ∃ v2, cs = [.int .u64 x.f0, .int .u64 x.f1, v2] ∧ (Kd.int .u64).R 64 w base ok v2 x.f2 := by
  obtain ⟨_, _, rfl, rfl, ⟨_, _, rfl, rfl, ⟨v2, rfl, g2⟩⟩⟩ := h
  exact ⟨v2, rfl, g2⟩
theorem k96_mk (w : World) (x : S96) {A2 : Option Addr} {c2 : Nat} (l2 : x.f2.length ≤ c2) (g2 : (Kd.int .u64).C w A2 x.f2.length x.f2) : k96.K w x [.int .u64 x.f0, .int .u64 x.f1, .slice A2 x.f2.length c2] := ⟨[.int .u64 x.f0], [.int .u64 x.f1, .slice A2 x.f2.length c2], rfl, rfl, ⟨[.int .u64 x.f1], [.slice A2 x.f2.length c2], rfl, rfl, ⟨A2, c2, rfl, l2, g2⟩⟩⟩
theorem k96_mkM (w : World) (base : Nat) (ok : Nat → Prop) (x : S96) {v2 : Value} (g2 : (Kd.int .u64).R 64 w base ok v2 x.f2) : k96.M w base ok x [.int .u64 x.f0, .int .u64 x.f1, v2] := ⟨[.int .u64 x.f0], [.int .u64 x.f1, v2], rfl, rfl, ⟨[.int .u64 x.f1], [v2], rfl, rfl, ⟨v2, rfl, g2⟩⟩⟩
theorem k96_openF {W : World} {ok : Nat → Prop} {x : S96} {cs : List Value} (h : Kd.FK k96 W ok x cs) : ∃ A2 c2, cs = [.int .u64 x.f0, .int .u64 x.f1, .slice A2 x.f2.length c2] ∧ x.f2.length ≤ c2 ∧ Kd.F (Kd.int .u64) W ok A2 x.f2.length x.f2 := by
  obtain ⟨A2, c2, rfl, l2, _⟩ := k96_open (Kd.FK_now h)
  exact ⟨A2, c2, rfl, l2, (fun W' hW => by obtain ⟨A2_, c2_, he, l2_, g2_⟩ := k96_open (h W' hW); injection (Option.some.inj (show some (Value.slice A2 x.f2.length c2) = some (Value.slice A2_ x.f2.length c2_) from congrArg (fun l => l[2]?) he)) with ha_ _ _; rw [ha_]; exact g2_)⟩
theorem k96_mkF (W : World) (ok : Nat → Prop) (x : S96) {A2 : Option Addr} {c2 : Nat} (l2 : x.f2.length ≤ c2) (g2 : Kd.F (Kd.int .u64) W ok A2 x.f2.length x.f2) : Kd.FK k96 W ok x [.int .u64 x.f0, .int .u64 x.f1, .slice A2 x.f2.length c2] := fun W2 hW => k96_mk W2 x l2 (g2 W2 hW)
def rd_T96 (xs : List S96) (i : Int) : S96 := xs.getD i.toNat z96
theorem at_T96 {w : World} {A : Option Addr} {n : Nat} {xs : List S96} (h : Kd.C k96 w A n xs) (i : Int) (h0 : 0 ≤ i) (h1 : i < n) : ∃ ad A2 c2, A = some ad ∧ w.cell? (ad.add (i.toNat * 3)) = some (.int .u64 (rd_T96 xs i).f0) ∧ w.cell? ⟨(ad.add (i.toNat * 3)).block, (ad.add (i.toNat * 3)).off + 1, none⟩ = some (.int .u64 (rd_T96 xs i).f1) ∧ w.cell? ⟨(ad.add (i.toNat * 3)).block, (ad.add (i.toNat * 3)).off + 2, none⟩ = some (.slice A2 (rd_T96 xs i).f2.length c2) ∧ (rd_T96 xs i).f2.length ≤ c2 ∧ (Kd.int .u64).C w A2 (rd_T96 xs i).f2.length (rd_T96 xs i).f2 := by
  obtain ⟨ad, c, e, _, hK, hc0⟩ := Kd.C_get h z96 i h0 h1
  have hc : ∀ j u, c[j]? = some u → w.cell? (ad.add (i.toNat * 3 + j)) = some u := hc0
  obtain ⟨A2, c2, rfl, l2, g2⟩ := k96_open hK
  exact ⟨ad, A2, c2, e, hc 0 _ rfl, by rw [← add_field _ _ 1 (by omega)]; exact hc 1 _ rfl, by rw [← add_field _ _ 2 (by omega)]; exact hc 2 _ rfl, l2, g2⟩

def rd_L9 (xs : List (List Bool)) (i : Int) : (List Bool) := xs.getD i.toNat ([] : List Bool)
theorem at_L9 {w : World} {A : Option Addr} {n : Nat} {xs : List (List Bool)} (h : Kd.C (Kd.slice 4 Kd.bool) w A n xs) (i : Int) (h0 : 0 ≤ i) (h1 : i < n) : ∃ ad A0 c0, A = some ad ∧ w.cell? (ad.add i.toNat) = some (.slice A0 (rd_L9 xs i).length c0) ∧ (rd_L9 xs i).length ≤ c0 ∧ Kd.bool.C w A0 (rd_L9 xs i).length (rd_L9 xs i) := by
  obtain ⟨ad, c, e, _, hK, hc0⟩ := Kd.C_get h ([] : List Bool) i h0 h1
  have hc : ∀ j u, c[j]? = some u → w.cell? (ad.add (i.toNat * 1 + j)) = some u := hc0
  obtain ⟨A0, c0, rfl, l0, g0⟩ := hK
  exact ⟨ad, A0, c0, e, by have hq := hc 0 _ rfl; rwa [Nat.mul_one, Nat.add_zero] at hq, l0, g0⟩

def rd_L10 (xs : List (List S38)) (i : Int) : (List S38) := xs.getD i.toNat ([] : List S38)
theorem at_L10 {w : World} {A : Option Addr} {n : Nat} {xs : List (List S38)} (h : Kd.C (Kd.slice 38 k38) w A n xs) (i : Int) (h0 : 0 ≤ i) (h1 : i < n) : ∃ ad A0 c0, A = some ad ∧ w.cell? (ad.add i.toNat) = some (.slice A0 (rd_L10 xs i).length c0) ∧ (rd_L10 xs i).length ≤ c0 ∧ k38.C w A0 (rd_L10 xs i).length (rd_L10 xs i) := by
  obtain ⟨ad, c, e, _, hK, hc0⟩ := Kd.C_get h ([] : List S38) i h0 h1
  have hc : ∀ j u, c[j]? = some u → w.cell? (ad.add (i.toNat * 1 + j)) = some u := hc0
  obtain ⟨A0, c0, rfl, l0, g0⟩ := hK
  exact ⟨ad, A0, c0, e, by have hq := hc 0 _ rfl; rwa [Nat.mul_one, Nat.add_zero] at hq, l0, g0⟩

/-! #### struct type 105 -/
structure S105 where
  f0 : S38
  f1 : S38
  f2 : (List S38)
def z105 : S105 := ⟨z38, z38, ([] : List S38)⟩
def k105 : Kd S105 := Kd.iso (Kd.pair k38 (Kd.pair k38 (Kd.slice 38 k38))) (fun x : S105 => (x.f0, x.f1, x.f2))
theorem k105_heap : Kd.Heap k105 := Kd.heap_iso _ (Kd.heap_pair k38_heap (Kd.heap_pair k38_heap (Kd.heap_slice 38 k38_heap)))
theorem k105_open {w : World} {x : S105} {cs : List Value} (h : k105.K w x cs) : ∃ A0 c0 A1 c1 A2 c2, cs = [.slice A0 x.f0.f0.length c0, .slice A1 x.f1.f0.length c1, .slice A2 x.f2.length c2] ∧ x.f0.f0.length ≤ c0 ∧ (Kd.int .u32).C w A0 x.f0.f0.length x.f0.f0 ∧ x.f1.f0.length ≤ c1 ∧ (Kd.int .u32).C w A1 x.f1.f0.length x.f1.f0 ∧ x.f2.length ≤ c2 ∧ k38.C w A2 x.f2.length x.f2 := by
  obtain ⟨_, _, rfl, s0, ⟨_, _, rfl, s1, ⟨A2, c2, rfl, l2, g2⟩⟩⟩ := h
  obtain ⟨A0, c0, rfl, l0, g0⟩ := k38_open s0
  obtain ⟨A1, c1, rfl, l1, g1⟩ := k38_open s1
  exact ⟨A0, c0, A1, c1, A2, c2, rfl, l0, g0, l1, g1, l2, g2⟩
theorem k105_openM {w : World} {base : Nat} {ok : Nat → Prop} {x : S105} {cs : List Value} (h : k105.M w base ok x cs) : ∃ v0 v1 v2, cs = [v0, v1, v2] ∧ (Kd.int .u32).R 23 w base ok v0 x.f0.f0 ∧ (Kd.int .u32).R 23 w base ok v1 x.f1.f0 ∧ k38.R 38 w base ok v2 x.f2 := by
  obtain ⟨_, _, rfl, s0, ⟨_, _, rfl, s1, ⟨v2, rfl, g2⟩⟩⟩ := h
  obtain ⟨v0, rfl, g0⟩ := k38_openM s0
  obtain ⟨v1, rfl, g1⟩ := k38_openM s1
  exact ⟨v0, v1, v2, rfl, g0, g1, g2⟩
theorem k105_mk (w : World) (x : S105) {A0 : Option Addr} {c0 : Nat} (l0 : x.f0.f0.length ≤ c0) (g0 : (Kd.int .u32).C w A0 x.f0.f0.length x.f0.f0) {A1 : Option Addr} {c1 : Nat} (l1 : x.f1.f0.length ≤ c1) (g1 : (Kd.int .u32).C w A1 x.f1.f0.length x.f1.f0) {A2 : Option Addr} {c2 : Nat} (l2 : x.f2.length ≤ c2) (g2 : k38.C w A2 x.f2.length x.f2) : k105.K w x [.slice A0 x.f0.f0.length c0, .slice A1 x.f1.f0.length c1, .slice A2 x.f2.length c2] := ⟨[.slice A0 x.f0.f0.length c0], [.slice A1 x.f1.f0.length c1, .slice A2 x.f2.length c2], rfl, (k38_mk w x.f0 l0 g0), ⟨[.slice A1 x.f1.f0.length c1], [.slice A2 x.f2.length c2], rfl, (k38_mk w x.f1 l1 g1), ⟨A2, c2, rfl, l2, g2⟩⟩⟩
theorem k105_mkM (w : World) (base : Nat) (ok : Nat → Prop) (x : S105) {v0 : Value} (g0 : (Kd.int .u32).R 23 w base ok v0 x.f0.f0) {v1 : Value} (g1 : (Kd.int .u32).R 23 w base ok v1 x.f1.f0) {v2 : Value} (g2 : k38.R 38 w base ok v2 x.f2) : k105.M w base ok x [v0, v1, v2] := ⟨[v0], [v1, v2], rfl, (k38_mkM w base ok x.f0 g0), ⟨[v1], [v2], rfl, (k38_mkM w base ok x.f1 g1), ⟨v2, rfl, g2⟩⟩⟩
theorem k105_openF {W : World} {ok : Nat → Prop} {x : S105} {cs : List Value} (h : Kd.FK k105 W ok x cs) : ∃ A0 c0 A1 c1 A2 c2, cs = [.slice A0 x.f0.f0.length c0, .slice A1 x.f1.f0.length c1, .slice A2 x.f2.length c2] ∧ x.f0.f0.length ≤ c0 ∧ Kd.F (Kd.int .u32) W ok A0 x.f0.f0.length x.f0.f0 ∧ x.f1.f0.length ≤ c1 ∧ Kd.F (Kd.int .u32) W ok A1 x.f1.f0.length x.f1.f0 ∧ x.f2.length ≤ c2 ∧ Kd.F k38 W ok A2 x.f2.length x.f2 := by
  obtain ⟨A0, c0, A1, c1, A2, c2, rfl, l0, _, l1, _, l2, _⟩ := k105_open (Kd.FK_now h)
  exact ⟨A0, c0, A1, c1, A2, c2, rfl, l0, (fun W' hW => by obtain ⟨A0_, c0_, A1_, c1_, A2_, c2_, he, l0_, g0_, l1_, g1_, l2_, g2_⟩ := k105_open (h W' hW); injection (Option.some.inj (show some (Value.slice A0 x.f0.f0.length c0) = some (Value.slice A0_ x.f0.f0.length c0_) from congrArg (fun l => l[0]?) he)) with ha_ _ _; rw [ha_]; exact g0_), l1, (fun W' hW => by obtain ⟨A0_, c0_, A1_, c1_, A2_, c2_, he, l0_, g0_, l1_, g1_, l2_, g2_⟩ := k105_open (h W' hW); injection (Option.some.inj (show some (Value.slice A1 x.f1.f0.length c1) = some (Value.slice A1_ x.f1.f0.length c1_) from congrArg (fun l => l[1]?) he)) with ha_ _ _; rw [ha_]; exact g1_), l2, (fun W' hW => by obtain ⟨A0_, c0_, A1_, c1_, A2_, c2_, he, l0_, g0_, l1_, g1_, l2_, g2_⟩ := k105_open (h W' hW); injection (Option.some.inj (show some (Value.slice A2 x.f2.length c2) = some (Value.slice A2_ x.f2.length c2_) from congrArg (fun l => l[2]?) he)) with ha_ _ _; rw [ha_]; exact g2_)⟩
theorem k105_mkF (W : World) (ok : Nat → Prop) (x : S105) {A0 : Option Addr} {c0 : Nat} (l0 : x.f0.f0.length ≤ c0) (g0 : Kd.F (Kd.int .u32) W ok A0 x.f0.f0.length x.f0.f0) {A1 : Option Addr} {c1 : Nat} (l1 : x.f1.f0.length ≤ c1) (g1 : Kd.F (Kd.int .u32) W ok A1 x.f1.f0.length x.f1.f0) {A2 : Option Addr} {c2 : Nat} (l2 : x.f2.length ≤ c2) (g2 : Kd.F k38 W ok A2 x.f2.length x.f2) : Kd.FK k105 W ok x [.slice A0 x.f0.f0.length c0, .slice A1 x.f1.f0.length c1, .slice A2 x.f2.length c2] := fun W2 hW => k105_mk W2 x l0 (g0 W2 hW) l1 (g1 W2 hW) l2 (g2 W2 hW)
def rd_T105 (xs : List S105) (i : Int) : S105 := xs.getD i.toNat z105
theorem at_T105 {w : World} {A : Option Addr} {n : Nat} {xs : List S105} (h : Kd.C k105 w A n xs) (i : Int) (h0 : 0 ≤ i) (h1 : i < n) : ∃ ad A0 c0 A1 c1 A2 c2, A = some ad ∧ w.cell? (ad.add (i.toNat * 3)) = some (.slice A0 (rd_T105 xs i).f0.f0.length c0) ∧ w.cell? ⟨(ad.add (i.toNat * 3)).block, (ad.add (i.toNat * 3)).off + 1, none⟩ = some (.slice A1 (rd_T105 xs i).f1.f0.length c1) ∧ w.cell? ⟨(ad.add (i.toNat * 3)).block, (ad.add (i.toNat * 3)).off + 2, none⟩ = some (.slice A2 (rd_T105 xs i).f2.length c2) ∧ (rd_T105 xs i).f0.f0.length ≤ c0 ∧ (Kd.int .u32).C w A0 (rd_T105 xs i).f0.f0.length (rd_T105 xs i).f0.f0 ∧ (rd_T105 xs i).f1.f0.length ≤ c1 ∧ (Kd.int .u32).C w A1 (rd_T105 xs i).f1.f0.length (rd_T105 xs i).f1.f0 ∧ (rd_T105 xs i).f2.length ≤ c2 ∧ k38.C w A2 (rd_T105 xs i).f2.length (rd_T105 xs i).f2 := by
  obtain ⟨ad, c, e, _, hK, hc0⟩ := Kd.C_get h z105 i h0 h1
  have hc : ∀ j u, c[j]? = some u → w.cell? (ad.add (i.toNat * 3 + j)) = some u := hc0
  obtain ⟨A0, c0, A1, c1, A2, c2, rfl, l0, g0, l1, g1, l2, g2⟩ := k105_open hK
  exact ⟨ad, A0, c0, A1, c1, A2, c2, e, hc 0 _ rfl, by rw [← add_field _ _ 1 (by omega)]; exact hc 1 _ rfl, by rw [← add_field _ _ 2 (by omega)]; exact hc 2 _ rfl, l0, g0, l1, g1, l2, g2⟩

def rd_L12 (xs : List (List (List Bool))) (i : Int) : (List (List Bool)) := xs.getD i.toNat ([] : List (List Bool))
theorem at_L12 {w : World} {A : Option Addr} {n : Nat} {xs : List (List (List Bool))} (h : Kd.C (Kd.slice 42 (Kd.slice 4 Kd.bool)) w A n xs) (i : Int) (h0 : 0 ≤ i) (h1 : i < n) : ∃ ad A0 c0, A = some ad ∧ w.cell? (ad.add i.toNat) = some (.slice A0 (rd_L12 xs i).length c0) ∧ (rd_L12 xs i).length ≤ c0 ∧ (Kd.slice 4 Kd.bool).C w A0 (rd_L12 xs i).length (rd_L12 xs i) := by
  obtain ⟨ad, c, e, _, hK, hc0⟩ := Kd.C_get h ([] : List (List Bool)) i h0 h1
  have hc : ∀ j u, c[j]? = some u → w.cell? (ad.add (i.toNat * 1 + j)) = some u := hc0
  obtain ⟨A0, c0, rfl, l0, g0⟩ := hK
  exact ⟨ad, A0, c0, e, by have hq := hc 0 _ rfl; rwa [Nat.mul_one, Nat.add_zero] at hq, l0, g0⟩

/-! #### struct type 108 -/
structure S108 where
  f0 : (List Bool)
  f1 : (List Bool)
  f2 : (List (List Bool))
def z108 : S108 := ⟨([] : List Bool), ([] : List Bool), ([] : List (List Bool))⟩
def k108 : Kd S108 := Kd.iso (Kd.pair (Kd.slice 4 Kd.bool) (Kd.pair (Kd.slice 4 Kd.bool) (Kd.slice 42 (Kd.slice 4 Kd.bool)))) (fun x : S108 => (x.f0, x.f1, x.f2))
theorem k108_heap : Kd.Heap k108 := Kd.heap_iso _ (Kd.heap_pair (Kd.heap_slice 4 Kd.heap_bool) (Kd.heap_pair (Kd.heap_slice 4 Kd.heap_bool) (Kd.heap_slice 42 (Kd.heap_slice 4 Kd.heap_bool))))
theorem k108_open {w : World} {x : S108} {cs : List Value} (h : k108.K w x cs) : ∃ A0 c0 A1 c1 A2 c2, cs = [.slice A0 x.f0.length c0, .slice A1 x.f1.length c1, .slice A2 x.f2.length c2] ∧ x.f0.length ≤ c0 ∧ Kd.bool.C w A0 x.f0.length x.f0 ∧ x.f1.length ≤ c1 ∧ Kd.bool.C w A1 x.f1.length x.f1 ∧ x.f2.length ≤ c2 ∧ (Kd.slice 4 Kd.bool).C w A2 x.f2.length x.f2 := by
  obtain ⟨_, _, rfl, ⟨A0, c0, rfl, l0, g0⟩, ⟨_, _, rfl, ⟨A1, c1, rfl, l1, g1⟩, ⟨A2, c2, rfl, l2, g2⟩⟩⟩ := h
  exact ⟨A0, c0, A1, c1, A2, c2, rfl, l0, g0, l1, g1, l2, g2⟩
theorem k108_openM {w : World} {base : Nat} {ok : Nat → Prop} {x : S108} {cs : List Value} (h : k108.M w base ok x cs) : ∃ v0 v1 v2, cs = [v0, v1, v2] ∧ Kd.bool.R 4 w base ok v0 x.f0 ∧ Kd.bool.R 4 w base ok v1 x.f1 ∧ (Kd.slice 4 Kd.bool).R 42 w base ok v2 x.f2 := by
  obtain ⟨_, _, rfl, ⟨v0, rfl, g0⟩, ⟨_, _, rfl, ⟨v1, rfl, g1⟩, ⟨v2, rfl, g2⟩⟩⟩ := h
  exact ⟨v0, v1, v2, rfl, g0, g1, g2⟩
theorem k108_mk (w : World) (x : S108) {A0 : Option Addr} {c0 : Nat} (l0 : x.f0.length ≤ c0) (g0 : Kd.bool.C w A0 x.f0.length x.f0) {A1 : Option Addr} {c1 : Nat} (l1 : x.f1.length ≤ c1) (g1 : Kd.bool.C w A1 x.f1.length x.f1) {A2 : Option Addr} {c2 : Nat} (l2 : x.f2.length ≤ c2) (g2 : (Kd.slice 4 Kd.bool).C w A2 x.f2.length x.f2) : k108.K w x [.slice A0 x.f0.length c0, .slice A1 x.f1.length c1, .slice A2 x.f2.length c2] := ⟨[.slice A0 x.f0.length c0], [.slice A1 x.f1.length c1, .slice A2 x.f2.length c2], rfl, ⟨A0, c0, rfl, l0, g0⟩, ⟨[.slice A1 x.f1.length c1], [.slice A2 x.f2.length c2], rfl, ⟨A1, c1, rfl, l1, g1⟩, ⟨A2, c2, rfl, l2, g2⟩⟩⟩
theorem k108_mkM (w : World) (base : Nat) (ok : Nat → Prop) (x : S108) {v0 : Value} (g0 : Kd.bool.R 4 w base ok v0 x.f0) {v1 : Value} (g1 : Kd.bool.R 4 w base ok v1 x.f1) {v2 : Value} (g2 : (Kd.slice 4 Kd.bool).R 42 w base ok v2 x.f2) : k108.M w base ok x [v0, v1, v2] := ⟨[v0], [v1, v2], rfl, ⟨v0, rfl, g0⟩, ⟨[v1], [v2], rfl, ⟨v1, rfl, g1⟩, ⟨v2, rfl, g2⟩⟩⟩
theorem k108_openF {W : World} {ok : Nat → Prop} {x : S108} {cs : List Value} (h : Kd.FK k108 W ok x cs) : ∃ A0 c0 A1 c1 A2 c2, cs = [.slice A0 x.f0.length c0, .slice A1 x.f1.length c1, .slice A2 x.f2.length c2] ∧ x.f0.length ≤ c0 ∧ Kd.F Kd.bool W ok A0 x.f0.length x.f0 ∧ x.f1.length ≤ c1 ∧ Kd.F Kd.bool W ok A1 x.f1.length x.f1 ∧ x.f2.length ≤ c2 ∧ Kd.F (Kd.slice 4 Kd.bool) W ok A2 x.f2.length x.f2 := by
  obtain ⟨A0, c0, A1, c1, A2, c2, rfl, l0, _, l1, _, l2, _⟩ := k108_open (Kd.FK_now h)
  exact ⟨A0, c0, A1, c1, A2, c2, rfl, l0, (fun W' hW => by obtain ⟨A0_, c0_, A1_, c1_, A2_, c2_, he, l0_, g0_, l1_, g1_, l2_, g2_⟩ := k108_open (h W' hW); injection (Option.some.inj (show some (Value.slice A0 x.f0.length c0) = some (Value.slice A0_ x.f0.length c0_) from congrArg (fun l => l[0]?) he)) with ha_ _ _; rw [ha_]; exact g0_), l1, (fun W' hW => by obtain ⟨A0_, c0_, A1_, c1_, A2_, c2_, he, l0_, g0_, l1_, g1_, l2_, g2_⟩ := k108_open (h W' hW); injection (Option.some.inj (show some (Value.slice A1 x.f1.length c1) = some (Value.slice A1_ x.f1.length c1_) from congrArg (fun l => l[1]?) he)) with ha_ _ _; rw [ha_]; exact g1_), l2, (fun W' hW => by obtain ⟨A0_, c0_, A1_, c1_, A2_, c2_, he, l0_, g0_, l1_, g1_, l2_, g2_⟩ := k108_open (h W' hW); injection (Option.some.inj (show some (Value.slice A2 x.f2.length c2) = some (Value.slice A2_ x.f2.length c2_) from congrArg (fun l => l[2]?) he)) with ha_ _ _; rw [ha_]; exact g2_)⟩
theorem k108_mkF (W : World) (ok : Nat → Prop) (x : S108) {A0 : Option Addr} {c0 : Nat} (l0 : x.f0.length ≤ c0) (g0 : Kd.F Kd.bool W ok A0 x.f0.length x.f0) {A1 : Option Addr} {c1 : Nat} (l1 : x.f1.length ≤ c1) (g1 : Kd.F Kd.bool W ok A1 x.f1.length x.f1) {A2 : Option Addr} {c2 : Nat} (l2 : x.f2.length ≤ c2) (g2 : Kd.F (Kd.slice 4 Kd.bool) W ok A2 x.f2.length x.f2) : Kd.FK k108 W ok x [.slice A0 x.f0.length c0, .slice A1 x.f1.length c1, .slice A2 x.f2.length c2] := fun W2 hW => k108_mk W2 x l0 (g0 W2 hW) l1 (g1 W2 hW) l2 (g2 W2 hW)
def rd_T108 (xs : List S108) (i : Int) : S108 := xs.getD i.toNat z108
theorem at_T108 {w : World} {A : Option Addr} {n : Nat} {xs : List S108} (h : Kd.C k108 w A n xs) (i : Int) (h0 : 0 ≤ i) (h1 : i < n) : ∃ ad A0 c0 A1 c1 A2 c2, A = some ad ∧ w.cell? (ad.add (i.toNat * 3)) = some (.slice A0 (rd_T108 xs i).f0.length c0) ∧ w.cell? ⟨(ad.add (i.toNat * 3)).block, (ad.add (i.toNat * 3)).off + 1, none⟩ = some (.slice A1 (rd_T108 xs i).f1.length c1) ∧ w.cell? ⟨(ad.add (i.toNat * 3)).block, (ad.add (i.toNat * 3)).off + 2, none⟩ = some (.slice A2 (rd_T108 xs i).f2.length c2) ∧ (rd_T108 xs i).f0.length ≤ c0 ∧ Kd.bool.C w A0 (rd_T108 xs i).f0.length (rd_T108 xs i).f0 ∧ (rd_T108 xs i).f1.length ≤ c1 ∧ Kd.bool.C w A1 (rd_T108 xs i).f1.length (rd_T108 xs i).f1 ∧ (rd_T108 xs i).f2.length ≤ c2 ∧ (Kd.slice 4 Kd.bool).C w A2 (rd_T108 xs i).f2.length (rd_T108 xs i).f2 := by
  obtain ⟨ad, c, e, _, hK, hc0⟩ := Kd.C_get h z108 i h0 h1
  have hc : ∀ j u, c[j]? = some u → w.cell? (ad.add (i.toNat * 3 + j)) = some u := hc0
  obtain ⟨A0, c0, A1, c1, A2, c2, rfl, l0, g0, l1, g1, l2, g2⟩ := k108_open hK
  exact ⟨ad, A0, c0, A1, c1, A2, c2, e, hc 0 _ rfl, by rw [← add_field _ _ 1 (by omega)]; exact hc 1 _ rfl, by rw [← add_field _ _ 2 (by omega)]; exact hc 2 _ rfl, l0, g0, l1, g1, l2, g2⟩

end Go.Proofs.Yteejcpbngnojkaa.P
