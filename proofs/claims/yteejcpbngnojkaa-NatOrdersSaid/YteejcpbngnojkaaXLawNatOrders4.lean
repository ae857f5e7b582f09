/- Part of the proof: the walks and the plain arithmetic, in line (wip/tools/pack.py). -/
import Derived.Test.YteejcpbngnojkaaXLawNatOrders3
import Derived.Lib.EndianBits
import Derived.Test.YteejcpbngnojkaaRows
import Derived.WalkKit
import Derived.ProofKit
import Derived.SizedLaws
import Derived.ChangeSlices
section
namespace Go.Proofs.Yteejcpbngnojkaa.P
open Go.RowKit Go.Proofs.YteejcpbngnojkaaW.PrintWords Go.Proofs.YteejcpbngnojkaaW.PrintLast Go.Proofs.YteejcpbngnojkaaW.PrintMore
attribute [local go_sem] max2_int min2_int max_two min_two max_three min_three max_four min_four
set_option linter.unusedVariables false
set_option linter.unusedSimpArgs false
def nat_Nat_Sub.l0 : Nat → List Int → Int → List Int → Int → Int → List Int → Option (List Int × Bool)
 |0,_,_,_,_,_,_ => none
 |k + 1,x6,x7,x21,x22,x23,x584000 => if x23 < x22 then (if 0 ≤ x23 then (if x23 < (x21.length : Int) then (if x23 < (x584000.length : Int) then (if (wrap64 ((wrap64 ((wrap64 (rd x21 x23)) - x7)) - (wrap64 (rd x584000 x23)))) < 0 then (if x23 < (x6.length : Int) then (nat_Nat_Sub.l0 k (x6.set (x23 : Int).toNat ((wrap64 ((wrap64 ((wrap64 ((wrap64 (rd x21 x23)) - x7)) - (wrap64 (rd x584000 x23)))) + 4294967296)) % 4294967296)) 1 x21 x22 (wrap64 (x23 + 1)) x584000) else (none)) else (if x23 < (x6.length : Int) then (nat_Nat_Sub.l0 k (x6.set (x23 : Int).toNat ((wrap64 ((wrap64 ((wrap64 (rd x21 x23)) - x7)) - (wrap64 (rd x584000 x23)))) % 4294967296)) 0 x21 x22 (wrap64 (x23 + 1)) x584000) else (none))) else (if (wrap64 ((wrap64 (rd x21 x23)) - x7)) < 0 then (if x23 < (x6.length : Int) then (nat_Nat_Sub.l0 k (x6.set (x23 : Int).toNat ((wrap64 ((wrap64 ((wrap64 (rd x21 x23)) - x7)) + 4294967296)) % 4294967296)) 1 x21 x22 (wrap64 (x23 + 1)) x584000) else (none)) else (if x23 < (x6.length : Int) then (nat_Nat_Sub.l0 k (x6.set (x23 : Int).toNat ((wrap64 ((wrap64 (rd x21 x23)) - x7)) % 4294967296)) 0 x21 x22 (wrap64 (x23 + 1)) x584000) else (none)))) else (none)) else (none)) else ((nat_trim.f k x6).bind fun t589 => (some (t589,true)))
def nat_Nat_Sub.f (k : Nat) (l0_0 : List Int) (l1_0 : List Int) : Option (List Int × Bool):=(nat_Nat_Cmp.f k l0_0 l1_0).bind fun t585 => (if t585 < 0 then (some (([] : List Int),false)) else (if 0 ≤ (l0_0.length : Int) then (if ((l0_0.length : Int) : Int).toNat ≤ 70368744177664 then (nat_Nat_Sub.l0 k (List.replicate ((l0_0.length : Int) : Int).toNat 0) 0 l0_0 (l0_0.length : Int) 0 l1_0) else (none)) else (none)))
theorem nat_Nat_Sub.mono_l : ∀ k,(∀ y0 y1 y2 y3 y4 y5,LeO (nat_Nat_Sub.l0 k y0 y1 y2 y3 y4 y5) (nat_Nat_Sub.l0 (k + 1) y0 y1 y2 y3 y4 y5))
 |0 => fun _ _ _ _ _ _ r h => by simp [nat_Nat_Sub.l0] at h
 |k + 1 => by
  have ih0:=nat_Nat_Sub.mono_l k
  ·intro y0 y1 y2 y3 y4 y5
   unfold nat_Nat_Sub.l0
   repeat' first
   |(with_reducible exact ih0 _ _ _ _ _ _)
   |(with_reducible exact nat_Nat_Cmp.mono _ _ _)
   |(with_reducible exact nat_trim.mono _ _)
   |(with_reducible exact LeO.refl _)
   |(with_reducible exact LeO.none _)
   |(with_reducible refine LeO.ite ?_ ?_)
   |(with_reducible refine LeO.bind ?_ (fun _ => ?_))
   |exact ih0 _ _ _ _ _ _
   |exact nat_Nat_Cmp.mono _ _ _
   |exact nat_trim.mono _ _
   |exact LeO.none _
   |refine LeO.ite ?_ ?_
   |refine LeO.bind ?_ (fun _ => ?_)
theorem nat_Nat_Sub.mono : ∀ a0 a1 k,LeO (nat_Nat_Sub.f k a0 a1) (nat_Nat_Sub.f (k + 1) a0 a1):=by
 intro a0 a1 k
 have ih0:=nat_Nat_Sub.mono_l k
 unfold nat_Nat_Sub.f
 repeat' first
   |(with_reducible exact ih0 _ _ _ _ _ _)
   |(with_reducible exact nat_Nat_Cmp.mono _ _ _)
   |(with_reducible exact nat_trim.mono _ _)
   |(with_reducible exact LeO.refl _)
   |(with_reducible exact LeO.none _)
   |(with_reducible refine LeO.ite ?_ ?_)
   |(with_reducible refine LeO.bind ?_ (fun _ => ?_))
   |exact ih0 _ _ _ _ _ _
   |exact nat_Nat_Cmp.mono _ _ _
   |exact nat_trim.mono _ _
   |exact LeO.none _
   |refine LeO.ite ?_ ?_
   |refine LeO.bind ?_ (fun _ => ?_)
end Go.Proofs.Yteejcpbngnojkaa.P
end
section
namespace Go.Proofs.Yteejcpbngnojkaa.P
open Go.RowKit Go.Proofs.YteejcpbngnojkaaW.PrintWords Go.Proofs.YteejcpbngnojkaaW.PrintLast Go.Proofs.YteejcpbngnojkaaW.PrintMore
attribute [local go_sem] max2_int min2_int max_two min_two max_three min_three max_four min_four
set_option linter.unusedVariables false
set_option linter.unusedSimpArgs false
def nat_Nat_Uint.l0 : Nat → Int → List Int → Int → Int → Option (Int × Bool)
 |0,_,_,_,_ => none
 |k + 1,x4,x12,x13,x14 => if x14 < x13 then (if 0 ≤ x14 then (if x14 < (x12.length : Int) then (if 0 ≤ (wrap64 (32 * x14)) then (nat_Nat_Uint.l0 k (Go.bits .or .u64 x4 (shl .u64 (IntKind.u64.wrap (rd x12 x14)) (wrap64 (32 * x14)))) x12 x13 (wrap64 (x14 + 1))) else (none)) else (none)) else (none)) else (some (x4,true))
def nat_Nat_Uint.f (k : Nat) (l0_0 : List Int) : Option (Int × Bool):=if (l0_0.length : Int) > 2 then (some (0,false)) else (nat_Nat_Uint.l0 k 0 l0_0 (l0_0.length : Int) 0)
theorem nat_Nat_Uint.mono_l : ∀ k,(∀ y0 y1 y2 y3,LeO (nat_Nat_Uint.l0 k y0 y1 y2 y3) (nat_Nat_Uint.l0 (k + 1) y0 y1 y2 y3))
 |0 => fun _ _ _ _ r h => by simp [nat_Nat_Uint.l0] at h
 |k + 1 => by
  have ih0:=nat_Nat_Uint.mono_l k
  ·intro y0 y1 y2 y3
   unfold nat_Nat_Uint.l0
   repeat' first
   |(with_reducible exact ih0 _ _ _ _)
   |(with_reducible exact LeO.refl _)
   |(with_reducible exact LeO.none _)
   |(with_reducible refine LeO.ite ?_ ?_)
   |(with_reducible refine LeO.bind ?_ (fun _ => ?_))
   |exact ih0 _ _ _ _
   |exact LeO.none _
   |refine LeO.ite ?_ ?_
   |refine LeO.bind ?_ (fun _ => ?_)
theorem nat_Nat_Uint.mono : ∀ a0 k,LeO (nat_Nat_Uint.f k a0) (nat_Nat_Uint.f (k + 1) a0):=by
 intro a0 k
 have ih0:=nat_Nat_Uint.mono_l k
 unfold nat_Nat_Uint.f
 repeat' first
   |(with_reducible exact ih0 _ _ _ _)
   |(with_reducible exact LeO.refl _)
   |(with_reducible exact LeO.none _)
   |(with_reducible refine LeO.ite ?_ ?_)
   |(with_reducible refine LeO.bind ?_ (fun _ => ?_))
   |exact ih0 _ _ _ _
   |exact LeO.none _
   |refine LeO.ite ?_ ?_
   |refine LeO.bind ?_ (fun _ => ?_)
end Go.Proofs.Yteejcpbngnojkaa.P
end
section
namespace Go.Proofs.Yteejcpbngnojkaa.P
open Go.RowKit Go.Proofs.YteejcpbngnojkaaW.PrintWords Go.Proofs.YteejcpbngnojkaaW.PrintLast Go.Proofs.YteejcpbngnojkaaW.PrintMore
attribute [local go_sem] max2_int min2_int max_two min_two max_three min_three max_four min_four
set_option linter.unusedVariables false
set_option linter.unusedSimpArgs false
def nat_Nat_Bit.f (l0_0 : List Int) (a1 : Int) : Option (Int):=if a1 < 0 then (some 0) else (if (wrap64 (Int.tdiv a1 32)) ≥ (l0_0.length : Int) then (some 0) else (if 0 ≤ (wrap64 (Int.tdiv a1 32)) then (if (wrap64 (Int.tdiv a1 32)) < (l0_0.length : Int) then (if 0 ≤ (Int.tmod a1 32) then (some (wrap64 (Go.bits .and .u32 (shr .u32 (rd l0_0 (wrap64 (Int.tdiv a1 32))) (Int.tmod a1 32)) 1))) else (none)) else (none)) else (none)))
end Go.Proofs.Yteejcpbngnojkaa.P
end
section
namespace Go.Proofs.Yteejcpbngnojkaa.P
open Go.RowKit Go.Proofs.YteejcpbngnojkaaW.PrintWords Go.Proofs.YteejcpbngnojkaaW.PrintLast Go.Proofs.YteejcpbngnojkaaW.PrintMore
open Go.Proofs.Yteejcpbngnojkaa.Num
set_option linter.unusedVariables false
end Go.Proofs.Yteejcpbngnojkaa.P
end
section
namespace Go.Proofs.Yteejcpbngnojkaa.P
open Go.RowKit Go.Proofs.YteejcpbngnojkaaW.PrintWords Go.Proofs.YteejcpbngnojkaaW.PrintLast Go.Proofs.YteejcpbngnojkaaW.PrintMore
open Go.Proofs.Yteejcpbngnojkaa.Num
set_option linter.unusedVariables false
theorem Ev.same {α : Type} {g : Nat → Option α} {r : α} (h : ∀ k, g k = some r) : Ev g r := ⟨0, fun k _ => h k⟩
theorem CmpE (a b : Nat) : Ev (fun k => nat_Nat_Cmp.f k (toW a) (toW b)) (cmpN a b) := Ev.same fun k => Cmp_toW k a b
theorem ZeroE (a : Nat) : Ev (fun _ => nat_Nat_Zero.f (toW a)) (a == 0) := Ev.same fun _ => Zero_toW a
theorem AddE (a b : Nat) (ha : (toW a).length < 1000) (hb : (toW b).length < 1000) : Ev (fun k => nat_Nat_Add.f k (toW a) (toW b)) (toW (a + b)) := Ev.same fun k => Add_toW k a b ha hb
theorem cmpN_swap (a b : Nat) : cmpN a b = wrap64 (-cmpN b a) := by
  have h1 : cmpN b a = -1 ∨ cmpN b a = 0 ∨ cmpN b a = 1 := by unfold cmpN; split <;> (try split) <;> omega
  have h2 : cmpN a b = -cmpN b a := by unfold cmpN; split <;> (try split) <;> (try split) <;> omega
  rw [h2, w64 (by omega) (by omega)]
theorem cmpN_add (a b c : Nat) : cmpN (a + c) (b + c) = cmpN a b := by
  unfold cmpN
  simp only [Nat.add_lt_add_iff_right, Nat.add_right_cancel_iff]
theorem cmpN_mul (a b c : Nat) (h : c ≠ 0) : cmpN (a * c) (b * c) = cmpN a b := by
  have hp : 0 < c := Nat.pos_of_ne_zero h
  unfold cmpN
  simp only [Nat.mul_lt_mul_right hp, Nat.mul_left_inj h]
theorem len_of {n m : Nat} (h : n < pw m) : (toW n).length ≤ m := toW_len_le m n h
end Go.Proofs.Yteejcpbngnojkaa.P
end
section
namespace Go.Proofs.Yteejcpbngnojkaa.Pure
open Go.RowKit Go.Proofs.Yteejcpbngnojkaa.P Go.Proofs.YteejcpbngnojkaaW.PrintWords Go.Proofs.YteejcpbngnojkaaW.PrintLast Go.Proofs.YteejcpbngnojkaaW.PrintMore
open Go.Proofs.Yteejcpbngnojkaa.Num
set_option linter.unusedVariables false
theorem bytes_of_wf {l : List Int} (h : ∀ x ∈ l, (Lit.int .u8 x).wf = true) : Bytes l := fun x hx => by
  have := h x hx
  simp [Lit.wf, IntKind.min, IntKind.max, IntKind.bits, IntKind.signed] at this
  omega
theorem orders_j1 (a b c : Nat) (ha : a < pw 12) : Ev (fun k => sacristylaw01_NatOrders.j1 k false (toW a) (toW b) (toW c)) true := by
  have la := len_of ha
  have l1 : (toW 1).length ≤ 1 := toW_small 1 (by decide)
  have n1 := New_ev 1 (by decide) (by decide)
  have h1 : cmpN (a + 1) a = 1 := by unfold cmpN; rw [if_neg (by omega), if_neg (by omega)]
  refine Ev.step (f := fun k => (nat_New.f k 1).bind fun t1004 => ((nat_Nat_Add.f k (toW a) t1004).bind fun t1007 => ((nat_Nat_Cmp.f k t1007 (toW a)).bind fun t1010 => (if t1010 = 1 then ((nat_Nat_Cmp.f k (toW a) (toW b)).bind fun t1011 => (if t1011 > 0 then (some true) else ((nat_Nat_Cmp.f k (toW b) (toW c)).bind fun t1012 => (if t1012 > 0 then (some true) else ((nat_Nat_Cmp.f k (toW a) (toW c)).bind fun t1013 => (some (decide (t1013 ≤ 0)))))))) else (none))))) (fun k => ?_) ?_
  · simp only [sacristylaw01_NatOrders.j1]
    exact if_neg (by decide)
  · refine Ev.bind n1 ?_
    refine Ev.bind (AddE a 1 (by omega) (by omega)) ?_
    refine Ev.bind (CmpE (a + 1) a) ?_
    refine Ev.congr (fun k => if_pos h1) ?_
    refine Ev.bind (CmpE a b) ?_
    by_cases g1 : cmpN a b > 0
    · exact Ev.congr (fun k => if_pos g1) (Ev.now _)
    · refine Ev.congr (fun k => if_neg g1) ?_
      refine Ev.bind (CmpE b c) ?_
      by_cases g2 : cmpN b c > 0
      · exact Ev.congr (fun k => if_pos g2) (Ev.now _)
      · refine Ev.congr (fun k => if_neg g2) ?_
        have h3 : decide (cmpN a c ≤ 0) = true := by
          rw [decide_eq_true_iff]
          have e1 : ¬ b < a := fun h => g1 (cmpN_gt.2 h)
          have e2 : ¬ c < b := fun h => g2 (cmpN_gt.2 h)
          have e3 : ¬ 0 < cmpN a c := fun h => by have := cmpN_gt.1 h; omega
          omega
        have := Ev.bind (f := fun _ t => some (decide (t ≤ 0))) (CmpE a c) (Ev.now _)
        rwa [h3] at this
theorem orders_j0 (a b c : Nat) (ha : a < pw 12) (hb : b < pw 12) (hc : c < pw 12) : Ev (fun k => sacristylaw01_NatOrders.j0 k false (toW a) (toW b) (toW c)) true := by
  have la := len_of ha
  have lb := len_of hb
  have lc := len_of hc
  have hj := orders_j1 a b c ha
  refine Ev.step (f := fun k => (nat_Nat_Add.f k (toW a) (toW c)).bind fun t987 => ((nat_Nat_Add.f k (toW b) (toW c)).bind fun t990 => ((nat_Nat_Cmp.f k t987 t990).bind fun t993 => ((nat_Nat_Cmp.f k (toW a) (toW b)).bind fun t994 => (if t993 = t994 then ((nat_Nat_Zero.f (toW c)).bind fun t995 => (if t995 = true then (sacristylaw01_NatOrders.j1 k false (toW a) (toW b) (toW c)) else ((nat_Nat_Mul.f k (toW a) (toW c)).bind fun t996 => ((nat_Nat_Mul.f k (toW b) (toW c)).bind fun t999 => ((nat_Nat_Cmp.f k t996 t999).bind fun t1002 => ((nat_Nat_Cmp.f k (toW a) (toW b)).bind fun t1003 => (sacristylaw01_NatOrders.j1 k (t1002 != t1003) (toW a) (toW b) (toW c)))))))) else (sacristylaw01_NatOrders.j1 k true (toW a) (toW b) (toW c))))))) (fun k => ?_) ?_
  · simp only [sacristylaw01_NatOrders.j0]
    exact if_neg (by decide)
  · refine Ev.bind (AddE a c (by omega) (by omega)) ?_
    refine Ev.bind (AddE b c (by omega) (by omega)) ?_
    refine Ev.bind (CmpE (a + c) (b + c)) ?_
    refine Ev.bind (CmpE a b) ?_
    refine Ev.congr (fun k => if_pos (cmpN_add a b c)) ?_
    refine Ev.bind (ZeroE c) ?_
    by_cases h0 : c = 0
    · exact Ev.congr (fun k => if_pos (by rw [h0]; rfl)) hj
    · refine Ev.congr (fun k => if_neg (by simp [h0])) ?_
      refine Ev.bind (Mul_ev a c (by omega) (by omega)) ?_
      refine Ev.bind (Mul_ev b c (by omega) (by omega)) ?_
      refine Ev.bind (CmpE (a * c) (b * c)) ?_
      refine Ev.bind (CmpE a b) ?_
      have e : (cmpN (a * c) (b * c) != cmpN a b) = false := by rw [cmpN_mul a b c h0]; exact bne_self_eq_false _
      rw [e]
      exact hj
theorem NatOrders : sacristylaw01_NatOrders.Pure := by
  intro l0 l1 l2 _ _ b0 _ _ b1 _ _ b2
  have B0 := bytes_of_wf b0
  have B1 := bytes_of_wf b1
  have B2 := bytes_of_wf b2
  refine Ev.rounds ?_
  unfold sacristylaw01_NatOrders.f
  refine Ev.bind lives_ev ?_
  refine Ev.congr (fun k => if_pos rfl) ?_
  have la := num48_W _ B0
  have lb := num48_W _ B1
  have lc := num48_W _ B2
  have na := Num_ev _ B0
  have nb := Num_ev _ B1
  have nc := Num_ev _ B2
  have ha12 := num48_lt _ B0
  have hb12 := num48_lt _ B1
  have hc12 := num48_lt _ B2
  generalize num48 l0 = a at *
  generalize num48 l1 = b at *
  generalize num48 l2 = c at *
  have hj := orders_j0 a b c ha12 hb12 hc12
  refine Ev.bind na ?_
  refine Ev.bind nb ?_
  refine Ev.bind nc ?_
  refine Ev.bind (CmpE a b) ?_
  refine Ev.bind (CmpE b a) ?_
  refine Ev.congr (fun k => if_pos (cmpN_swap a b)) ?_
  refine Ev.bind (CmpE a b) ?_
  refine Ev.bind (Least_ev a (by omega)) ?_
  refine Ev.bind (Least_ev b (by omega)) ?_
  have e : ((cmpN a b == 0) != ((strOfNums (highBytes a (Go.Proofs.Yteejcpbngnojkaa.P.nb a))).toList == (strOfNums (highBytes b (Go.Proofs.Yteejcpbngnojkaa.P.nb b))).toList)) = false := by
    have e1 : ((strOfNums (highBytes a (Go.Proofs.Yteejcpbngnojkaa.P.nb a))).toList == (strOfNums (highBytes b (Go.Proofs.Yteejcpbngnojkaa.P.nb b))).toList) = decide (a = b) := by
      rw [Bool.eq_iff_iff, beq_iff_eq, decide_eq_true_iff, str_inj (highBytes_bytes _ _) (highBytes_bytes _ _)]
      exact ⟨fun h => highBytes_inj h, fun h => by rw [h]⟩
    have e2 : (cmpN a b == 0) = decide (a = b) := by
      rw [Bool.eq_iff_iff, beq_iff_eq, decide_eq_true_iff, cmpN_eq]
    rw [e1, e2]; exact bne_self_eq_false _
  exact Ev.congr (fun k => by rw [e]) hj
end Go.Proofs.Yteejcpbngnojkaa.Pure
end
section
namespace Go.Proofs.Yteejcpbngnojkaa.Head
open Go
def hd : List Char := ['h', 'a', 'r', 'n', 'e', 's', 's']
def sm : List Char := ['1', '8', 'e', 'b', '4', '4', '3', '4', '8', '7', 'b', 'c', 'a', 'd', 'e', '8', '1', '4', '1', 'e', '3', 'b', 'e', '1', '8', '2', '5', '9', '4', '4', '6', '3', 'a', '2', 'd', 'e', 'd', '6', 'd', 'a', 'e', 'b', 'f', 'a', '9', 'e', 'f', '2', 'e', '8', '6', '2', '7', '8', '6', 'b', '2', '1', '5', '3', 'b', 'd', '8', '1']
def ct : List Char := ['c', 'u', 't']
def rs : List Char := ['a', 't', ' ', 's', 'a', 'c', 'r', 'i', 's', 't', 'y', '/', 's', 'a', 'c', 'r', 'i', 's', 't', 'y', 'l', 'a', 'w', '0', '5', '.', 'S', 't', 'r', 'e', 'a', 'm', 'B', 'l', 'o', 'c', 'k', 's', ' ', 's', 'a', 'c', 'r', 'i', 's', 't', 'y', '/', 's', 'a', 'c', 'r', 'i', 's', 't', 'y', 'l', 'a', 'w', '0', '5', '.', 'S', 't', 'r', 'e', 'a', 'm', 'X', 'o', 'r', 's', ' ', 's', 'a', 'c', 'r', 'i', 's', 't', 'y', '/', 's', 'a', 'c', 'r', 'i', 's', 't', 'y', 'l', 'a', 'w', '0', '5', '.', 'S', 't', 'r', 'e', 'a', 'm', 'B', 'a', 'c', 'k', ' ', 's', 'a', 'c', 'r', 'i', 's', 't', 'y', '/', 's', 'a', 'c', 'r', 'i', 's', 't', 'y', 'l', 'a', 'w', '0', '5', '.', 'S', 't', 'r', 'e', 'a', 'm', 'P', 'a', 'r', 't', 's', ' ', 's', 'a', 'c', 'r', 'i', 's', 't', 'y', '/', 's', 'a', 'c', 'r', 'i', 's', 't', 'y', 'l', 'a', 'w', '0', '1', '.', 'N', 'a', 't', 'B', 'y', 't', 'e', 's', ' ', 's', 'a', 'c', 'r', 'i', 's', 't', 'y', '/', 's', 'a', 'c', 'r', 'i', 's', 't', 'y', 'l', 'a', 'w', '0', '1', '.', 'N', 'a', 't', 'B', 'i', 't', 's', ' ', 's', 'a', 'c', 'r', 'i', 's', 't', 'y', '/', 's', 'a', 'c', 'r', 'i', 's', 't', 'y', 'l', 'a', 'w', '0', '7', '.', 'B', 'o', 'x', 'B', 'a', 'c', 'k', ' ', 's', 'a', 'c', 'r', 'i', 's', 't', 'y', '/', 's', 'a', 'c', 'r', 'i', 's', 't', 'y', 'l', 'a', 'w', '0', '1', '.', 'N', 'a', 't', 'G', 'c', 'd', 's', ' ', 's', 'a', 'c', 'r', 'i', 's', 't', 'y', '/', 's', 'a', 'c', 'r', 'i', 's', 't', 'y', 'l', 'a', 'w', '0', '1', '.', 'N', 'a', 't', 'S', 'm', 'a', 'l', 'l', ' ', 's', 'a', 'c', 'r', 'i', 's', 't', 'y', '/', 's', 'a', 'c', 'r', 'i', 's', 't', 'y', 'l', 'a', 'w', '0', '7', '.', 'B', 'o', 'x', 'S', 'h', 'o', 'r', 't', ' ', 's', 'a', 'c', 'r', 'i', 's', 't', 'y', '/', 's', 'a', 'c', 'r', 'i', 's', 't', 'y', 'l', 'a', 'w', '0', '1', '.', 'N', 'a', 't', 'P', 'r', 'o', 'd', 'u', 'c', 't', 's', ' ', 's', 'a', 'c', 'r', 'i', 's', 't', 'y', '/', 's', 'a', 'c', 'r', 'i', 's', 't', 'y', 'l', 'a', 'w', '0', '1', '.', 'N', 'a', 't', 'B', 'a', 'c', 'k', ' ', 's', 'a', 'c', 'r', 'i', 's', 't', 'y', '/', 's', 'a', 'c', 'r', 'i', 's', 't', 'y', 'l', 'a', 'w', '0', '1', '.', 'N', 'a', 't', 'O', 'r', 'd', 'e', 'r', 's', ' ', 's', 'a', 'c', 'r', 'i', 's', 't', 'y', '/', 's', 'a', 'c', 'r', 'i', 's', 't', 'y', 'l', 'a', 'w', '0', '1', '.', 'N', 'a', 't', 'S', 'u', 'm', 's', ' ', 's', 'a', 'c', 'r', 'i', 's', 't', 'y', '/', 's', 'a', 'c', 'r', 'i', 's', 't', 'y', 'l', 'a', 'w', '0', '1', '.', 'N', 'a', 't', 'R', 'u', 'l', 'e', 's', ' ', 's', 'a', 'c', 'r', 'i', 's', 't', 'y', '/', 's', 'a', 'c', 'r', 'i', 's', 't', 'y', 'l', 'a', 'w', '0', '6', '.', 'T', 'a', 'g', 'T', 'a', 'g', 's', ' ', 's', 'a', 'c', 'r', 'i', 's', 't', 'y', '/', 's', 'a', 'c', 'r', 'i', 's', 't', 'y', 'l', 'a', 'w', '0', '6', '.', 'T', 'a', 'g', 'N', 'o', 'n', 'e', ' ', 's', 'a', 'c', 'r', 'i', 's', 't', 'y', '/', 's', 'a', 'c', 'r', 'i', 's', 't', 'y', 'l', 'a', 'w', '0', '6', '.', 'T', 'a', 'g', 'A', 'd', 'd', 's', ' ', 's', 'a', 'c', 'r', 'i', 's', 't', 'y', '/', 's', 'a', 'c', 'r', 'i', 's', 't', 'y', 'l', 'a', 'w', '0', '2', '.', 'M', 'o', 'd', 'S', 'u', 'm', 's', ' ', 's', 'a', 'c', 'r', 'i', 's', 't', 'y', '/', 's', 'a', 'c', 'r', 'i', 's', 't', 'y', 'l', 'a', 'w', '0', '8', '.', 'C', 'e', 'r', 't', 'S', 'm', 'a', 'l', 'l', 's', ' ', 's', 'a', 'c', 'r', 'i', 's', 't', 'y', '/', 's', 'a', 'c', 'r', 'i', 's', 't', 'y', 'l', 'a', 'w', '0', '8', '.', 'C', 'e', 'r', 't', 'F', 'r', 'o', 'n', 't', 's', ' ', 's', 'a', 'c', 'r', 'i', 's', 't', 'y', '/', 's', 'a', 'c', 'r', 'i', 's', 't', 'y', 'l', 'a', 'w', '0', '8', '.', 'C', 'e', 'r', 't', 'C', 'h', 'e', 'c', 'k', 's', ' ', 's', 'a', 'c', 'r', 'i', 's', 't', 'y', '/', 's', 'a', 'c', 'r', 'i', 's', 't', 'y', 'l', 'a', 'w', '0', '8', '.', 'C', 'e', 'r', 't', 'P', 'r', 'i', 'm', 'e', 's', ' ', 's', 'a', 'c', 'r', 'i', 's', 't', 'y', '/', 's', 'a', 'c', 'r', 'i', 's', 't', 'y', 'l', 'a', 'w', '0', '7', '.', 'B', 'o', 'x', 'S', 'e', 'a', 'l', 's', ' ', 's', 'a', 'c', 'r', 'i', 's', 't', 'y', '/', 's', 'a', 'c', 'r', 'i', 's', 't', 'y', 'l', 'a', 'w', '0', '7', '.', 'B', 'o', 'x', 'O', 'p', 'e', 'n', 's']
set_option maxRecDepth 100000 in
theorem init_chars : Try.prog.initOrder.toList = hd ++ ' ' :: (sm ++ ' ' :: (ct ++ ' ' :: rs)) :=
  (String.toList_ofList : (String.ofList (hd ++ ' ' :: (sm ++ ' ' :: (ct ++ ' ' :: rs)))).toList = _)
theorem words_cons (a r : List Char) (h : ∀ c ∈ a, c ≠ ' ') : wordsSigns (a ++ ' ' :: r) = a :: wordsSigns r := by
  induction a with
  | nil => rfl
  | cons c a ih =>
    have hc : c ≠ ' ' := h c List.mem_cons_self
    have := ih fun x hx => h x (List.mem_cons_of_mem _ hx)
    rw [List.cons_append, wordsSigns.eq_3 _ _ (fun e => hc e), this]
theorem init_words : ∃ r, wordsSigns Try.prog.initOrder.toList = hd :: sm :: ct :: r := by
  refine ⟨wordsSigns rs, ?_⟩
  rw [init_chars, words_cons _ _ (by decide), words_cons _ _ (by decide), words_cons _ _ (by decide)]
theorem behind (r : List (List Char)) : behindMainWord (hd :: sm :: ct :: r) = ct :: r := by
  unfold behindMainWord
  dsimp only
  rw [if_pos (by decide +kernel)]
theorem init_behind : ∃ r, behindMainWord (wordsSigns Try.prog.initOrder.toList) = ct :: r := by
  obtain ⟨r, h⟩ := init_words
  exact ⟨r, by rw [h, behind]⟩
theorem strip (os : List String) (h : ∀ o ∈ os, (ct == o.toList) = false) (r : List (List Char)) : stripLifts os (ct :: r) = ([], ct :: r) := by
  induction os with
  | nil => rfl
  | cons o os ih =>
    rw [stripLifts, h o List.mem_cons_self]
    exact ih fun x hx => h x (List.mem_cons_of_mem _ hx)
theorem strip_lifts (r : List (List Char)) : stripLifts liftWords (ct :: r) = ([], ct :: r) := strip _ (by decide +kernel) r
section
variable (P : Program) (r : List (List Char)) (h : behindMainWord (wordsSigns P.initOrder.toList) = ct :: r)
include h
theorem head_lifts_of : P.headLifts = [] := by
  unfold Program.headLifts
  rw [h, strip_lifts]
  dsimp only
  split <;> rfl
theorem may_enter_of (h1 : P.laysLater = false) (h2 : P.bearsReflect = false) (h3 : P.doorFits [] = true) : P.mayEnter = true := by
  unfold Program.mayEnter
  rw [h]
  dsimp only
  rw [strip_lifts, h1, h2, h3]
  have h4 : (some ct == some "cut".toList) = true := by decide +kernel
  rw [List.head?_cons, h4]
  simp
theorem lifts_final_of : P.liftsFinal = false := by
  unfold Program.liftsFinal
  rw [head_lifts_of P r h]
  dsimp only
  rw [h]
  have h4 : (some ct == some "carried".toList) = false := by decide +kernel
  rw [List.head?_cons, h4]
  rfl
theorem make_cut_of : P.make = some .cut := by
  unfold Program.make
  rw [h]
  dsimp only
  rw [if_neg (by decide +kernel), if_pos (by rw [show (ct == "cut".toList) = true by decide +kernel]; rfl)]
end
theorem lays_later : Try.prog.laysLater = false := by kernel_rfl
theorem bears_reflect : Try.prog.bearsReflect = false := by kernel_rfl
theorem door_fits : Try.prog.doorFits [] = true := by kernel_rfl
theorem may_enter : Try.prog.mayEnter = true := by
  obtain ⟨r, h⟩ := init_behind
  exact may_enter_of _ r h lays_later bears_reflect door_fits
theorem lifts_final : Try.prog.liftsFinal = false := by
  obtain ⟨r, h⟩ := init_behind
  exact lifts_final_of _ r h
theorem make_cut : Try.prog.make = some .cut := by
  obtain ⟨r, h⟩ := init_behind
  exact make_cut_of _ r h
end Go.Proofs.Yteejcpbngnojkaa.Head
end
section
namespace Go.Proofs.YteejcpbngnojkaaW.PrintWords
open Go.ChangeShapes Go.WideShapes
theorem sized_ints {H : Type} {enc : TypeId × Value → H} {P : Program} {W : World} {base : Nat} {spare : Nat → Bool} {held : Bool} {t e : TypeId} {k : IntKind} {a : Option Addr} {len cap : Nat} {d : DataW H} {ps : List MemPlace} {ts : List TypeId} {ds : List (DataW H)} {j : Nat}
    (hsz : (DataW.weightsEach P ts ds).all (· ≤ reachBytes) = true) (ht : ts[j]? = some t) (hd : ds[j]? = some d) (hu : P.underlying t = some (.slice e)) (he : P.underlying e = some (.int k)) (hc : P.cellsOf e = 1) {B : Nat} (hB : P.bytesOf e = B)
    (h : DataW.Trod enc P W base spare held t (.slice a len cap) d ps) : len * B ≤ 140737488351232 := by
  obtain ⟨fuel, hf⟩ := h
  rcases open_ints hu he hc hf with ⟨hcs, _⟩ | ⟨x, l, c, zs, hcs, _, hl, _, hz, hx, _, _⟩
  · simp [Value.cells] at hcs
    obtain ⟨rfl, rfl, rfl⟩ := hcs
    simp
  · simp [Value.cells] at hcs
    obtain ⟨rfl, rfl, rfl⟩ := hcs
    obtain ⟨hx, _⟩ := Prod.mk.inj hx
    subst hx
    have z := sized_slice hsz ht hd hu
    rw [hB] at z
    have hl2 : len ≤ zs.length := by
      rw [hz]
      split
      · exact hl
      · exact Nat.le_refl _
    have h1 : (lits (H := H) k (zs.take len)).length + (lits (H := H) k (zs.drop len)).length = zs.length := by
      simp [lits]
      omega
    rw [h1] at z
    exact Nat.le_trans (Nat.mul_le_mul_right _ hl2) z
end Go.Proofs.YteejcpbngnojkaaW.PrintWords
end
