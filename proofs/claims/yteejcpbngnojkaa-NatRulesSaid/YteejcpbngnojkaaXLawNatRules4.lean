/- Part of the proof: the walks and the plain arithmetic, in line (wip/tools/pack.py). -/
import Derived.Test.YteejcpbngnojkaaXLawNatRules3
import Derived.Lib.Bytes
import Derived.Lib.EndianBits
import Derived.Test.YteejcpbngnojkaaRows
import Derived.WalkKit
import Derived.ProofKit
import Derived.SizedLaws
import Derived.ChangeSlices
section
namespace Go.Proofs.Yteejcpbngnojkaa.P
open Go.RowKit Go.Proofs.YteejcpbngnojkaaW.PrintWords Go.Proofs.YteejcpbngnojkaaW.PrintLast Go.Proofs.YteejcpbngnojkaaW.PrintMore
attribute [local go_sem] max2_int min2_int max_two min_two max_three min_three max_four min_four
set_option linter.unusedVariables false
set_option linter.unusedSimpArgs false
mutual
def sacristyref01_Of.l0 : Nat → List Int → List Bool → Int → Option (List Bool)
 |0,_,_,_ => none
 |k + 1,x0,x3,x4 => if x4 ≥ 0 then (sacristyref01_Of.l1 k x0 x3 x4 0) else ((sacristyref01_Trim.f k x3).bind fun t462 => (some t462))
def sacristyref01_Of.l1 : Nat → List Int → List Bool → Int → Int → Option (List Bool)
 |0,_,_,_,_ => none
 |k + 1,x0,x3,x4,x5 => if x5 < 8 then (if 0 ≤ x4 then (if x4 < (x0.length : Int) then (if 0 ≤ x5 then (if x3.length < 140737488355328 then (sacristyref01_Of.l1 k x0 (x3 ++ [((Int.tmod (shr .u8 (rd x0 x4) x5) 2) == 1)]) x4 (wrap64 (x5 + 1))) else (none)) else (none)) else (none)) else (none)) else (sacristyref01_Of.l0 k x0 x3 (wrap64 (x4 - 1)))
end
def sacristyref01_Of.f (k : Nat) (l0 : List Int) : Option (List Bool):=sacristyref01_Of.l0 k l0 (([] : List Bool)) (wrap64 ((l0.length : Int) - 1))
theorem sacristyref01_Of.mono_l : ∀ k,(∀ y0 y1 y2,LeO (sacristyref01_Of.l0 k y0 y1 y2) (sacristyref01_Of.l0 (k + 1) y0 y1 y2)) ∧ (∀ y0 y1 y2 y3,LeO (sacristyref01_Of.l1 k y0 y1 y2 y3) (sacristyref01_Of.l1 (k + 1) y0 y1 y2 y3))
 |0 => ⟨fun _ _ _ r h => by simp [sacristyref01_Of.l0] at h,fun _ _ _ _ r h => by simp [sacristyref01_Of.l1] at h⟩
 |k + 1 => by
  obtain ⟨ih0,ih1⟩:=sacristyref01_Of.mono_l k
  refine ⟨?_,?_⟩
  ·intro y0 y1 y2
   unfold sacristyref01_Of.l0
   repeat' first
   |(with_reducible exact ih0 _ _ _)
   |(with_reducible exact ih1 _ _ _ _)
   |(with_reducible exact sacristyref01_Trim.mono _ _)
   |(with_reducible exact LeO.refl _)
   |(with_reducible exact LeO.none _)
   |(with_reducible refine LeO.ite ?_ ?_)
   |(with_reducible refine LeO.bind ?_ (fun _ => ?_))
   |exact ih0 _ _ _
   |exact ih1 _ _ _ _
   |exact sacristyref01_Trim.mono _ _
   |exact LeO.none _
   |refine LeO.ite ?_ ?_
   |refine LeO.bind ?_ (fun _ => ?_)
  ·intro y0 y1 y2 y3
   unfold sacristyref01_Of.l1
   repeat' first
   |(with_reducible exact ih0 _ _ _)
   |(with_reducible exact ih1 _ _ _ _)
   |(with_reducible exact sacristyref01_Trim.mono _ _)
   |(with_reducible exact LeO.refl _)
   |(with_reducible exact LeO.none _)
   |(with_reducible refine LeO.ite ?_ ?_)
   |(with_reducible refine LeO.bind ?_ (fun _ => ?_))
   |exact ih0 _ _ _
   |exact ih1 _ _ _ _
   |exact sacristyref01_Trim.mono _ _
   |exact LeO.none _
   |refine LeO.ite ?_ ?_
   |refine LeO.bind ?_ (fun _ => ?_)
theorem sacristyref01_Of.mono : ∀ a0 k,LeO (sacristyref01_Of.f k a0) (sacristyref01_Of.f (k + 1) a0):=by
 intro a0 k
 obtain ⟨ih0,ih1⟩:=sacristyref01_Of.mono_l k
 unfold sacristyref01_Of.f
 repeat' first
   |(with_reducible exact ih0 _ _ _)
   |(with_reducible exact ih1 _ _ _ _)
   |(with_reducible exact sacristyref01_Trim.mono _ _)
   |(with_reducible exact LeO.refl _)
   |(with_reducible exact LeO.none _)
   |(with_reducible refine LeO.ite ?_ ?_)
   |(with_reducible refine LeO.bind ?_ (fun _ => ?_))
   |exact ih0 _ _ _
   |exact ih1 _ _ _ _
   |exact sacristyref01_Trim.mono _ _
   |exact LeO.none _
   |refine LeO.ite ?_ ?_
   |refine LeO.bind ?_ (fun _ => ?_)
end Go.Proofs.Yteejcpbngnojkaa.P
end
section
namespace Go.Proofs.Yteejcpbngnojkaa.P
open Go.RowKit Go.Proofs.YteejcpbngnojkaaW.PrintWords Go.Proofs.YteejcpbngnojkaaW.PrintLast Go.Proofs.YteejcpbngnojkaaW.PrintMore
open Go.Proofs.Yteejcpbngnojkaa.Num
set_option linter.unusedVariables false
def gb (l : List Bool) (j : Nat) : Bool := l.getD j false
theorem rdB (l : List Bool) (i : Nat) : rdOf false l (i : Int) = gb l i := by simp [rdOf, gb]
theorem gb_eq {l : List Bool} {j : Nat} (h : j < l.length) : gb l j = l[j] := by simp [gb, List.getD_eq_getElem?_getD, List.getElem?_eq_getElem h]
theorem gb_out {l : List Bool} {j : Nat} (h : l.length ≤ j) : gb l j = false := by simp [gb, List.getD_eq_getElem?_getD, List.getElem?_eq_none h]
theorem winc {n : Nat} (h : n ≤ 4611686018427387904) : wrap64 ((n : Int) + 1) = ((n + 1 : Nat) : Int) := by rw [w64 (by omega) (by omega)]; omega
theorem bit_toNat (n : Nat) : (n % 2 == 1).toNat = n % 2 := by
  have := Nat.mod_lt n (show 0 < 2 by omega)
  rcases Nat.mod_two_eq_zero_or_one n with h | h <;> rw [h] <;> rfl
theorem rSmall_ev (x : Nat) : ∀ (acc : List Bool), x < 18446744073709551616 → acc.length + (toB x).length ≤ 1000 → Ev (fun k => sacristyref01_Small.l0 k (x : Int) acc) (acc ++ toB x) := by
  induction x using Nat.strongRecOn with
  | ind x ih =>
    intro acc hx hacc
    by_cases h0 : x = 0
    · subst h0
      rw [toB_zero, List.append_nil]
      exact Ev.step (fun k => by simp only [sacristyref01_Small.l0]; rw [if_neg (by omega)]) (Ev.now _)
    · rw [toB_pos (by omega)] at hacc ⊢
      have c1 : (x : Int) > 0 := by omega
      have c2 : acc.length < 140737488355328 := by omega
      have e1 : IntKind.u64.wrap (Int.tdiv (x : Int) 2) = ((x / 2 : Nat) : Int) := by
        rw [show (2 : Int) = ((2 : Nat) : Int) from rfl, ← Int.ofNat_tdiv, wu64 (by omega) (by omega)]
      have e2 : (Int.tmod (x : Int) 2 == 1) = (x % 2 == 1) := by
        rw [show (2 : Int) = ((2 : Nat) : Int) from rfl, ← Int.ofNat_tmod, Bool.eq_iff_iff, beq_iff_eq, beq_iff_eq]; omega
      have h := ih (x / 2) (by omega) (acc ++ [(x % 2 == 1)]) (by omega) (by simp at hacc ⊢; omega)
      rw [List.append_assoc] at h
      refine Ev.step (fun k => ?_) h
      simp only [sacristyref01_Small.l0]
      rw [if_pos c1, if_pos c2, e1, e2]
theorem rSmall (x : Nat) (hx : x < 18446744073709551616) : Ev (fun k => sacristyref01_Small.f k (x : Int)) (toB x) := by
  have h64 : (toB x).length ≤ 64 := toB_len_le 64 x hx
  have := rSmall_ev x [] hx (by simp; omega)
  simpa [sacristyref01_Small.f] using this
theorem gb_toB (a i : Nat) : (gb (toB a) i).toNat = a / 2 ^ i % 2 := by
  by_cases h : i < (toB a).length
  · rw [gb_eq h, toB_get, bit_toNat]
  · rw [gb_out (by omega)]
    have h1 := toB_lt a
    have h2 : 2 ^ (toB a).length ≤ 2 ^ i := Nat.pow_le_pow_right (by omega) (by omega)
    rw [Nat.div_eq_of_lt (by omega)]
    rfl
theorem mod_snoc (a i : Nat) : a % 2 ^ (i + 1) = a % 2 ^ i + 2 ^ i * (a / 2 ^ i % 2) := Nat.mod_pow_succ ..
end Go.Proofs.Yteejcpbngnojkaa.P
end
section
namespace Go.Proofs.Yteejcpbngnojkaa.P
open Go.RowKit Go.Proofs.YteejcpbngnojkaaW.PrintWords Go.Proofs.YteejcpbngnojkaaW.PrintLast Go.Proofs.YteejcpbngnojkaaW.PrintMore
attribute [local go_sem] max2_int min2_int max_two min_two max_three min_three max_four min_four
set_option linter.unusedVariables false
set_option linter.unusedSimpArgs false
def sacristylaw01_ref.f (k : Nat) (l0 : List Int) : Option (List Bool):=if 0 ≤ (mn (l0.length : Int) 48) then (if (mn (l0.length : Int) 48) ≤ (l0.length : Int) then ((sacristyref01_Of.f k (l0.take ((mn (l0.length : Int) 48) : Int).toNat)).bind fun t512 => (some t512)) else (none)) else (none)
theorem sacristylaw01_ref.mono : ∀ a0 k,LeO (sacristylaw01_ref.f k a0) (sacristylaw01_ref.f (k + 1) a0):=by
 intro a0 k
 unfold sacristylaw01_ref.f
 repeat' first
   |(with_reducible exact sacristyref01_Of.mono _ _)
   |(with_reducible exact LeO.refl _)
   |(with_reducible exact LeO.none _)
   |(with_reducible refine LeO.ite ?_ ?_)
   |(with_reducible refine LeO.bind ?_ (fun _ => ?_))
   |exact sacristyref01_Of.mono _ _
   |exact LeO.none _
   |refine LeO.ite ?_ ?_
   |refine LeO.bind ?_ (fun _ => ?_)
end Go.Proofs.Yteejcpbngnojkaa.P
end
section
namespace Go.Proofs.Yteejcpbngnojkaa.P
open Go.RowKit Go.Proofs.YteejcpbngnojkaaW.PrintWords Go.Proofs.YteejcpbngnojkaaW.PrintLast Go.Proofs.YteejcpbngnojkaaW.PrintMore
open Go.Proofs.Yteejcpbngnojkaa.Num
set_option linter.unusedVariables false
theorem pw_two (q : Nat) : pw q = 2 ^ (32 * q) := by
  unfold pw; rw [show (4294967296 : Nat) = 2 ^ 32 from by decide, ← Nat.pow_mul]
theorem pow256 (i : Nat) : 256 ^ i = pw (i / 4) * 2 ^ (8 * (i % 4)) := by
  rw [pw_two, ← Nat.pow_add, show (256 : Nat) = 2 ^ 8 from by decide, ← Nat.pow_mul]
  congr 1
  omega
theorem toB_len_eq {n L : Nat} (hL : 0 < L) (h1 : n < 2 ^ L) (h2 : 2 ^ (L - 1) ≤ n) : (toB n).length = L := by
  have h3 := toB_len_le L n h1
  have h4 := toB_len_gt (L - 1) n h2
  omega
theorem bits_len {n m r : Nat} (hm : 1 ≤ m) (hr : 0 < r) (h1 : n / pw (m - 1) < 2 ^ r) (h2 : 2 ^ (r - 1) ≤ n / pw (m - 1)) : (toB n).length = 32 * (m - 1) + r := by
  refine toB_len_eq (by omega) ?_ ?_
  · rw [Nat.div_lt_iff_lt_mul (pw_pos _), Nat.mul_comm, pw_two, ← Nat.pow_add] at h1
    exact h1
  · rw [Nat.le_div_iff_mul_le (pw_pos _), pw_two, ← Nat.pow_add] at h2
    rw [show 32 * (m - 1) + r - 1 = r - 1 + 32 * (m - 1) by omega]
    exact h2
theorem Bits_toW (n : Nat) (hn : (toW n).length ≤ 1048576) : nat_Nat_Bits.f (toW n) = some (((toB n).length : Nat) : Int) := by
  unfold nat_Nat_Bits.f
  by_cases h0 : n = 0
  · subst h0; simp [toW_zero, toB_zero]
  · have hne : (toW n).length ≠ 0 := by rw [Ne, List.length_eq_zero_iff, toW_eq_nil]; exact h0
    obtain ⟨m, hm⟩ : ∃ m, (toW n).length = m := ⟨_, rfl⟩
    have c1 : ¬ (((toW n).length : Nat) : Int) = 0 := by omega
    have c2 : (0 : Int) ≤ ((m - 1 : Nat) : Int) := by omega
    have c3 : ((m - 1 : Nat) : Int) < (m : Int) := by omega
    have hm1 : 1 ≤ m := by omega
    have hm2 : m ≤ 1048576 := by omega
    have hlo : pw (m - 1) ≤ n := toW_len_lt (by omega)
    have hhi : n < pw m := by have := toW_lt n; rwa [hm] at this
    have hd : n / pw (m - 1) < 4294967296 := by
      rw [Nat.div_lt_iff_lt_mul (pw_pos _), Nat.mul_comm, ← pw_succ, show m - 1 + 1 = m by omega]; exact hhi
    have hp : 0 < n / pw (m - 1) := Nat.div_pos hlo (pw_pos _)
    have hg : gw (toW n) (m - 1) = ((n / pw (m - 1) : Nat) : Int) := by rw [toW_gw, Nat.mod_eq_of_lt hd]
    obtain ⟨r, hr, hr32, hlt, hge⟩ := len32 (gw (toW n) (m - 1)) (by rw [hg]; exact Int.natCast_nonneg _) (by rw [hg]; exact Int.ofNat_lt.2 hd)
    rw [hg] at hlt hge
    rw [Int.toNat_natCast] at hlt hge
    obtain ⟨h3, h4⟩ := hge (Int.natCast_pos.2 hp)
    have hlen := bits_len hm1 h3 hlt h4
    have w1 : wrap64 ((m : Int) - 1) = ((m - 1 : Nat) : Int) := by clear hlen hr; rw [w64 (by omega) (by omega)]; omega
    have w2 : wrap64 (wrap64 (32 * ((m - 1 : Nat) : Int)) + (r : Int)) = ((32 * (m - 1) + r : Nat) : Int) := by
      clear hlen hr w1 hd hp hlt h4 hlo hhi hg
      rw [w64 (x := 32 * ((m - 1 : Nat) : Int)) (by omega) (by omega), w64 (by omega) (by omega)]; omega
    rw [if_neg c1, hm, w1, if_pos c2, if_pos c3, rd_gw, hr]
    simp only [Option.bind_some]
    rw [w2, hlen]
theorem fb_round (a b : Int) (y : Nat) (hy : y = 0 ∨ y = 8 ∨ y = 16 ∨ y = 24) (ha0 : 0 ≤ a) (ha : a.toNat < 2 ^ y) (hb0 : 0 ≤ b) (hb : b < 256) :
    Go.bits .or .u32 a (shl .u32 (b % 4294967296) (y : Int)) = ((a.toNat + b.toNat * 2 ^ y : Nat) : Int) ∧ a.toNat + b.toNat * 2 ^ y < 4294967296 := by
  obtain ⟨n, rfl⟩ := Int.eq_ofNat_of_zero_le ha0
  obtain ⟨m, rfl⟩ := Int.eq_ofNat_of_zero_le hb0
  simp only [Int.toNat_natCast] at ha ⊢
  have hmin : min y IntKind.u32.bits = y := Nat.min_eq_left (by show y ≤ 32; omega)
  have hs : shl .u32 ((m : Int) % 4294967296) (y : Int) = ((m * 2 ^ y : Nat) : Int) := by
    unfold shl
    rw [Int.toNat_natCast, hmin]
    have e1 : (m : Int) % 4294967296 = (m : Int) := by omega
    have e2 : (m : Int) * 2 ^ y = ((m * 2 ^ y : Nat) : Int) := by simp
    rw [e1, e2]
    rcases hy with rfl | rfl | rfl | rfl <;> exact wraps_u32 _ (by omega) (by omega)
  rw [hs]
  rcases hy with rfl | rfl | rfl | rfl
  all_goals
    refine ⟨?_, by omega⟩
    rw [bits_join_low .u32 32 (by decide) wraps_u32 _ (n : Int) ((m * 2 ^ _ : Nat) : Int) (by omega) (by first | exact_mod_cast ha) (by omega) (by omega) (by omega) (by omega)]
    omega
structure FBInv (l : List Int) (i : Nat) (row : List Int) : Prop where
  len : row.length = (l.length + 3) / 4
  sz : Sized row
  eq : valW row = valL (l.reverse.take i)
theorem digit_lt {row : List Int} (hs : Sized row) {q c : Nat} (hq : q < row.length) (h : valW row < pw q * c) : (gw row q).toNat < c := by
  have h1 : valW row = valW (row.take q) + pw q * valW (row.drop q) := valW_drop (by omega)
  have h2 : row.drop q = gw row q :: row.drop (q + 1) := by rw [List.drop_eq_getElem_cons hq, gw_eq hq]
  rw [h2, valW_cons] at h1
  have h3 : pw q * (gw row q).toNat < pw q * c := by
    rw [Nat.mul_add] at h1
    omega
  exact Nat.lt_of_mul_lt_mul_left h3
theorem valW_set' {row : List Int} {q : Nat} (hq : q < row.length) {x : Int} (hx : 0 ≤ x) : valW (row.set q x) + pw q * (gw row q).toNat = valW row + pw q * x.toNat := by
  have := val_set (β := 4294967296) (enc := Int.toNat) row q x hq
  rw [← gw_eq hq] at this
  exact this
theorem fb_loop (l : List Int) (hb : Bytes l) (hl : l.length ≤ 128) (d : Nat) : ∀ (i : Nat) (row : List Int), FBInv l i row → i + d = l.length →
    Ev (fun k => nat_FromBytes.l0 k l row (l.length : Int) (i : Int)) (toW (valH l), 0) := by
  induction d with
  | zero =>
    intro i row h hi
    obtain rfl : i = l.length := by omega
    have ht := trim_ev row h.sz (by rw [h.len]; omega)
    have hv : valW row = valH l := by rw [h.eq, List.take_of_length_le (by simp)]; rfl
    rw [hv] at ht
    exact Ev.step (fun k => by simp only [nat_FromBytes.l0]; rw [if_neg (by omega)]) (Ev.bind (f := fun _ t => some (t, (0 : Int))) ht (Ev.now _))
  | succ d ih =>
    intro i row h hi
    have hrl := h.len
    have hil : i < l.length := by omega
    have c1 : (i : Int) < (l.length : Int) := by omega
    have c2 : (0 : Int) ≤ ((l.length - 1 - i : Nat) : Int) := by omega
    have c3 : ((l.length - 1 - i : Nat) : Int) < (l.length : Int) := by omega
    have c4 : (0 : Int) ≤ ((i / 4 : Nat) : Int) := by omega
    have c5 : ((i / 4 : Nat) : Int) < (row.length : Int) := by omega
    have c6 : (0 : Int) ≤ ((8 * (i % 4) : Nat) : Int) := by omega
    have hq : i / 4 < row.length := by omega
    have hy : 8 * (i % 4) = 0 ∨ 8 * (i % 4) = 8 ∨ 8 * (i % 4) = 16 ∨ 8 * (i % 4) = 24 := by omega
    have i1 : i + 1 + d = l.length := by omega
    have hgl : gw l (l.length - 1 - i) = gw l.reverse i := by
      rw [gw_eq (by omega), gw_eq (by simp; omega), List.getElem_reverse]
    have g := hb.gw (l.length - 1 - i)
    have gr := h.sz.gw (i / 4)
    have hval : valW row < 256 ^ i := by
      have := valL_lt (hb.reverse.take i)
      rw [List.length_take, List.length_reverse, Nat.min_eq_left (by omega)] at this
      rw [h.eq]; exact this
    rw [pow256] at hval
    have hdig := digit_lt h.sz hq hval
    obtain ⟨e1, e2⟩ := fb_round (gw row (i / 4)) (gw l (l.length - 1 - i)) (8 * (i % 4)) hy gr.1 hdig g.1 g.2
    have hst : FBInv l (i + 1) (row.set (i / 4) (((gw row (i / 4)).toNat + (gw l (l.length - 1 - i)).toNat * 2 ^ (8 * (i % 4)) : Nat) : Int)) := by
      refine ⟨by rw [List.length_set]; exact h.len, h.sz.set _ ⟨Int.natCast_nonneg _, Int.ofNat_lt.2 e2⟩, ?_⟩
      have e3 := valW_set' hq (x := (((gw row (i / 4)).toNat + (gw l (l.length - 1 - i)).toNat * 2 ^ (8 * (i % 4)) : Nat) : Int)) (Int.natCast_nonneg _)
      rw [Int.toNat_natCast] at e3
      have e4 : valL (l.reverse.take (i + 1)) = valL (l.reverse.take i) + 256 ^ i * (gw l (l.length - 1 - i)).toNat := by
        rw [take_snoc (by simp; omega), valL_append, valL_one, hgl, List.length_take, List.length_reverse, Nat.min_eq_left (by omega)]
      rw [e4, ← h.eq, pow256]
      generalize 2 ^ (8 * (i % 4)) = P at *
      generalize pw (i / 4) = Q at *
      generalize (gw row (i / 4)).toNat = x at *
      generalize (gw l (l.length - 1 - i)).toNat = y at *
      clear e1 e2 e4 hdig hval hgl hy h ih
      grind
    have w1 : wrap64 (wrap64 ((l.length : Int) - 1) - (i : Int)) = ((l.length - 1 - i : Nat) : Int) := by
      clear e1 e2 hst hdig hval hgl
      rw [w64 (x := (l.length : Int) - 1) (by omega) (by omega), w64 (by omega) (by omega)]; omega
    have w2 : wrap64 (Int.tdiv (i : Int) 4) = ((i / 4 : Nat) : Int) := by
      clear e1 e2 hst hdig hval hgl w1
      rw [show (4 : Int) = ((4 : Nat) : Int) from rfl, ← Int.ofNat_tdiv]; exact w64 (by omega) (by omega)
    have w3 : wrap64 (8 * Int.tmod (i : Int) 4) = ((8 * (i % 4) : Nat) : Int) := by
      clear e1 e2 hst hdig hval hgl w1 w2
      rw [show (4 : Int) = ((4 : Nat) : Int) from rfl, ← Int.ofNat_tmod, w64 (by omega) (by omega)]; omega
    have w4 : wrap64 ((i : Int) + 1) = ((i + 1 : Nat) : Int) := by clear e1 e2 hst hdig hval hgl w1 w2 w3; exact winc (by omega)
    refine Ev.step (fun k => ?_) (ih (i + 1) _ hst i1)
    simp only [nat_FromBytes.l0]
    rw [if_pos c1, w1, if_pos c2, if_pos c3, w2, if_pos c4, if_pos c5, w3, if_pos c6, rd_gw, rd_gw, e1, w4, Int.toNat_natCast]
theorem FromBytes_ev (l : List Int) (hb : Bytes l) (hl : l.length ≤ 128) : Ev (fun k => nat_FromBytes.f k l) (toW (valH l), 0) := by
  unfold nat_FromBytes.f
  have h := fb_loop l hb hl l.length 0 (List.replicate ((l.length + 3) / 4) 0) ⟨by simp, Sized.zeros _, by rw [valW_zeros]; rfl⟩ (by omega)
  have w1 : wrap64 (Int.tdiv (wrap64 ((l.length : Int) + 3)) 4) = (((l.length + 3) / 4 : Nat) : Int) := by
    have : wrap64 ((l.length : Int) + 3) = ((l.length + 3 : Nat) : Int) := by rw [w64 (by omega) (by omega)]; omega
    rw [this, show (4 : Int) = ((4 : Nat) : Int) from rfl, ← Int.ofNat_tdiv]
    clear this
    exact w64 (by omega) (by omega)
  have c0 : ¬ (l.length : Int) > 128 := by omega
  have c1 : (0 : Int) ≤ (((l.length + 3) / 4 : Nat) : Int) := by clear w1; omega
  have c2 : (l.length + 3) / 4 ≤ 70368744177664 := by clear w1; omega
  refine Ev.congr (fun k => ?_) h
  rw [if_neg c0, w1, if_pos c1, Int.toNat_natCast, if_pos c2]
  rfl
end Go.Proofs.Yteejcpbngnojkaa.P
end
section
namespace Go.Proofs.Yteejcpbngnojkaa.P
open Go.RowKit Go.Proofs.YteejcpbngnojkaaW.PrintWords Go.Proofs.YteejcpbngnojkaaW.PrintLast Go.Proofs.YteejcpbngnojkaaW.PrintMore
open Go.Proofs.Yteejcpbngnojkaa.Num
set_option linter.unusedVariables false
def nb (v : Nat) : Nat := ((toB v).length + 7) / 8
def highBytes (v size : Nat) : List Int := (lowBytes v size).reverse
theorem highBytes_length (v size : Nat) : (highBytes v size).length = size := by simp [highBytes, lowBytes_length]
theorem highBytes_bytes (v size : Nat) : Bytes (highBytes v size) := (lowBytes_bytes v size).reverse
theorem nb_lt (v : Nat) : v < 256 ^ nb v := by
  have h := toB_lt v
  have h2 : 2 ^ (toB v).length ≤ 2 ^ (8 * nb v) := Nat.pow_le_pow_right (by decide) (by unfold nb; omega)
  rw [show (256 : Nat) = 2 ^ 8 from by decide, ← Nat.pow_mul]
  exact Nat.lt_of_lt_of_le h h2
theorem nb_le {v i : Nat} (h : i < nb v) : 256 ^ i ≤ v := by
  rw [show (256 : Nat) = 2 ^ 8 from by decide, ← Nat.pow_mul]
  exact toB_len_lt (by unfold nb at h; omega)
theorem gw_rev {l : List Int} {j : Nat} (h : j < l.length) : gw l.reverse j = gw l (l.length - 1 - j) := by
  rw [gw_eq (by simpa using h), gw_eq (by omega), List.getElem_reverse]
theorem word_byte (v i : Nat) : (gw (toW v) (i / 4) / 2 ^ (8 * (i % 4))) % 256 = ((v / 256 ^ i % 256 : Nat) : Int) := by
  rw [toW_gw, pow256, ← Nat.div_div_eq_div_mul]
  generalize v / pw (i / 4) = X
  have hy : i % 4 = 0 ∨ i % 4 = 1 ∨ i % 4 = 2 ∨ i % 4 = 3 := by omega
  rcases hy with h | h | h | h <;> rw [h] <;> simp only [Nat.reduceMul, Nat.reducePow, Int.reducePow] <;> omega
theorem nBytes_loop (v size n : Nat) (hn : n = nb v) (hs : n ≤ size) (hsz : size ≤ 1000000) (hv : (toW v).length ≤ 1048576) (d : Nat) : ∀ (i : Nat) (out : List Int), i + d = n → out.length = size → (∀ j, j < size → gw out (size - 1 - j) = if j < i then ((v / 256 ^ j % 256 : Nat) : Int) else 0) →
    Ev (fun k => nat_Nat_Bytes.l0 k (size : Int) out (n : Int) (i : Int) (toW v)) (highBytes v size, 0) := by
  induction d with
  | zero =>
    intro i out hi hl hg
    obtain rfl : i = n := by omega
    have he : out = highBytes v size := by
      refine list_ext_gw (by rw [hl, highBytes_length]) fun j hj => ?_
      unfold highBytes
      rw [gw_rev (by rw [lowBytes_length]; omega), lowBytes_length, lowBytes_get _ _ _ (by omega)]
      have h := hg (size - 1 - j) (by omega)
      rw [show size - 1 - (size - 1 - j) = j by omega] at h
      rw [h]
      by_cases hc : size - 1 - j < i
      · rw [if_pos hc]
      · rw [if_neg hc]
        have h1 := nb_lt v
        rw [← hn] at h1
        have h2 : 256 ^ i ≤ 256 ^ (size - 1 - j) := Nat.pow_le_pow_right (by decide) (by omega)
        rw [Nat.div_eq_of_lt (Nat.lt_of_lt_of_le h1 h2)]
        rfl
    rw [← he]
    exact Ev.step (f := fun _ => some (out, (0 : Int))) (fun k => by simp only [nat_Nat_Bytes.l0]; rw [if_neg (by omega)]) (Ev.now _)
  | succ d ih =>
    intro i out hi hl hg
    have hin : i < nb v := by omega
    have hle := nb_le hin
    have hqa : i / 4 < (toW v).length := by
      refine toW_len_gt _ _ (Nat.le_trans ?_ hle)
      rw [pow256]
      exact Nat.le_mul_of_pos_right _ (Nat.pow_pos (by decide))
    clear hle
    have c1 : (i : Int) < (n : Int) := by omega
    have c2 : (0 : Int) ≤ ((i / 4 : Nat) : Int) := by omega
    have c3 : ((i / 4 : Nat) : Int) < ((toW v).length : Int) := by omega
    have c4 : (0 : Int) ≤ ((8 * (i % 4) : Nat) : Int) := by omega
    have c5 : (0 : Int) ≤ ((size - 1 - i : Nat) : Int) := by omega
    have c6 : ((size - 1 - i : Nat) : Int) < (out.length : Int) := by omega
    have hso : size - 1 - i < out.length := by omega
    have i1 : i + 1 + d = n := by omega
    have hjj : ∀ j, j < size → (size - 1 - i = size - 1 - j ↔ i = j) := fun j hj => by omega
    have hj2 : ∀ j, i ≠ j → (j < i + 1 ↔ j < i) := fun j hj => by omega
    have h2i : i < i + 1 := by omega
    have hy : 8 * (i % 4) ≤ 32 := by omega
    have w1 : wrap64 (wrap64 ((size : Int) - 1) - (i : Int)) = ((size - 1 - i : Nat) : Int) := by
      rw [w64 (x := (size : Int) - 1) (by omega) (by omega), w64 (by omega) (by omega)]; omega
    have w2 : wrap64 (Int.tdiv (i : Int) 4) = ((i / 4 : Nat) : Int) := by
      clear w1
      rw [show (4 : Int) = ((4 : Nat) : Int) from rfl, ← Int.ofNat_tdiv]; exact w64 (by omega) (by omega)
    have w3 : wrap64 (8 * Int.tmod (i : Int) 4) = ((8 * (i % 4) : Nat) : Int) := by
      clear w1 w2
      rw [show (4 : Int) = ((4 : Nat) : Int) from rfl, ← Int.ofNat_tmod, w64 (by omega) (by omega)]; omega
    have w4 : wrap64 ((i : Int) + 1) = ((i + 1 : Nat) : Int) := by clear w1 w2 w3; exact winc (by omega)
    have hsh : shr .u32 (gw (toW v) (i / 4)) ((8 * (i % 4) : Nat) : Int) % 256 = ((v / 256 ^ i % 256 : Nat) : Int) := by
      have hmin : min (8 * (i % 4)) IntKind.u32.bits = 8 * (i % 4) := Nat.min_eq_left hy
      unfold shr
      rw [Int.toNat_natCast, hmin, word_byte]
    refine Ev.step (fun k => ?_) (ih (i + 1) (out.set (size - 1 - i) ((v / 256 ^ i % 256 : Nat) : Int)) i1 (by rw [List.length_set]; exact hl) (fun j hj => ?_))
    · simp only [nat_Nat_Bytes.l0]
      rw [if_pos c1, w2, if_pos c2, if_pos c3, w3, if_pos c4, w1, if_pos c5, if_pos c6, rd_gw, hsh, w4, Int.toNat_natCast]
    · rw [gw_set hso]
      by_cases hij : i = j
      · subst hij
        rw [if_pos rfl, if_pos h2i]
      · rw [if_neg (fun e => hij ((hjj j hj).1 e)), hg j hj]
        simp only [hj2 j hij]
theorem toB_len_words (v n : Nat) (h : 32 * (toW v).length ≤ n) : (toB v).length ≤ n := by
  refine toB_len_le _ _ (Nat.lt_of_lt_of_le (toW_lt v) ?_)
  rw [pw_two]
  exact Nat.pow_le_pow_right (by decide) h
theorem nb_word (v : Nat) (hv : (toW v).length ≤ 1048576) : wrap64 (Int.tdiv (wrap64 ((((toB v).length : Nat) : Int) + 7)) 8) = ((nb v : Nat) : Int) := by
  have h1 : (toB v).length ≤ 33554432 := toB_len_words v _ (by omega)
  unfold nb
  have e1 : wrap64 ((((toB v).length : Nat) : Int) + 7) = (((toB v).length + 7 : Nat) : Int) := by rw [w64 (by omega) (by omega)]; omega
  rw [e1, show (8 : Int) = ((8 : Nat) : Int) from rfl, ← Int.ofNat_tdiv]
  clear e1
  exact w64 (by omega) (by omega)
theorem nb_bound (v : Nat) (hv : (toW v).length ≤ 1000) : nb v ≤ 4000 := by
  have h1 : (toB v).length ≤ 32000 := toB_len_words v _ (by omega)
  unfold nb; omega
theorem nBytes_ev (v size : Nat) (hs : nb v ≤ size) (hsz : size ≤ 1000000) (hv : (toW v).length ≤ 1048576) : Ev (fun k => nat_Nat_Bytes.f k (toW v) (size : Int)) (highBytes v size, 0) := by
  have h : Ev (fun k => nat_Nat_Bytes.l0 k (size : Int) (List.replicate size 0) ((nb v : Nat) : Int) 0 (toW v)) (highBytes v size, 0) := nBytes_loop v size (nb v) rfl hs hsz hv (nb v) 0 (List.replicate size 0) (by omega) (by simp) (fun j hj => by rw [if_neg (by omega)]; exact valW_zero (Sized.zeros _) (valW_zeros _) _)
  have c1 : ¬ (size : Int) < 0 := by omega
  have c2 : ¬ ((nb v : Nat) : Int) > (size : Int) := by omega
  have c3 : (0 : Int) ≤ (size : Int) := by omega
  have c4 : size ≤ 281474976710656 := by omega
  refine Ev.congr (fun k => ?_) h
  unfold nat_Nat_Bytes.f
  rw [if_neg c1, Bits_toW v hv]
  refine (Option.bind_some _ _).trans ?_
  rw [nb_word v hv]
  refine (if_neg c2).trans ?_
  refine (if_pos c3).trans ?_
  rw [Int.toNat_natCast]
  refine (if_pos c4).trans ?_
  with_reducible rfl
theorem Least_ev (v : Nat) (hv : (toW v).length ≤ 1000) : Ev (fun k => nat_Nat_Least.f k (toW v)) (highBytes v (nb v)) := by
  have hb := nb_bound v hv
  have h := nBytes_ev v (nb v) (Nat.le_refl _) (by omega) (by omega)
  refine Ev.congr (fun k => ?_) (Ev.bind (f := fun _ bt => some bt.1) h (Ev.now _))
  unfold nat_Nat_Least.f
  have hv2 : (toW v).length ≤ 1048576 := Nat.le_trans hv (by decide)
  rw [Bits_toW v hv2]
  refine (Option.bind_some _ _).trans ?_
  rw [nb_word v hv2]
structure RBInv (v size i : Nat) (out : List Int) : Prop where
  len : out.length = size
  by_ : Bytes out
  eq : valL out.reverse = v % 2 ^ i
theorem set_rev {l : List Int} {j : Nat} {x : Int} (h : j < l.length) : (l.set (l.length - 1 - j) x).reverse = l.reverse.set j x := by
  refine list_ext_gw (by simp) fun i hi => ?_
  rw [List.length_reverse, List.length_set] at hi
  rw [gw_rev (by rw [List.length_set]; exact hi), gw_set (by omega), gw_set (by rw [List.length_reverse]; exact h), List.length_set]
  by_cases e : j = i
  · subst e; rw [if_pos rfl, if_pos rfl]
  · rw [if_neg (by omega), if_neg e, gw_rev hi]
theorem digitL_lt {l : List Int} (hb : Bytes l) {q c : Nat} (hq : q < l.length) (h : valL l < 256 ^ q * c) : (gw l q).toNat < c := by
  have h1 := val_take_drop (β := 256) (enc := Int.toNat) q l (by omega)
  have h2 : l.drop q = gw l q :: l.drop (q + 1) := by rw [List.drop_eq_getElem_cons hq, gw_eq hq]
  rw [h2] at h1
  have h1 : valL l = valL (l.take q) + 256 ^ q * ((gw l q).toNat + 256 * valL (l.drop (q + 1))) := h1
  have h3 : 256 ^ q * (gw l q).toNat < 256 ^ q * c := by
    rw [Nat.mul_add] at h1
    omega
  exact Nat.lt_of_mul_lt_mul_left h3
theorem valL_set {l : List Int} {q : Nat} (hq : q < l.length) {x : Int} : valL (l.set q x) + 256 ^ q * (gw l q).toNat = valL l + 256 ^ q * x.toNat := by
  have := val_set (β := 256) (enc := Int.toNat) l q x hq
  rw [← gw_eq hq] at this
  exact this
theorem pow2_8 (i : Nat) : 2 ^ i = 256 ^ (i / 8) * 2 ^ (i % 8) := by
  rw [show (256 : Nat) = 2 ^ 8 from by decide, ← Nat.pow_mul, ← Nat.pow_add]
  congr 1
  omega
theorem rb_round (a : Int) (y : Nat) (hy : y < 8) (ha0 : 0 ≤ a) (ha : a.toNat < 2 ^ y) : (a + shl .u8 1 (y : Int)) % 256 = ((a.toNat + 2 ^ y : Nat) : Int) ∧ a.toNat + 2 ^ y < 256 := by
  obtain ⟨n, rfl⟩ := Int.eq_ofNat_of_zero_le ha0
  simp only [Int.toNat_natCast] at ha ⊢
  have hy8 : y = 0 ∨ y = 1 ∨ y = 2 ∨ y = 3 ∨ y = 4 ∨ y = 5 ∨ y = 6 ∨ y = 7 := by omega
  rcases hy8 with rfl | rfl | rfl | rfl | rfl | rfl | rfl | rfl
  all_goals
    simp only [shl, IntKind.bits, Int.toNat_natCast, IntKind.wrap, IntKind.signed] at ha ⊢
    simp at ha ⊢
    omega
theorem rBytes_loop (v size : Nat) (hs : nb v ≤ size) (hsz : size ≤ 1000000) (hv : (toB v).length ≤ 1000000) (d : Nat) : ∀ (i : Nat) (out : List Int), RBInv v size i out → i + d = (toB v).length →
    Ev (fun k => sacristyref01_Bytes.l0 k (size : Int) out (toB v) ((toB v).length : Int) (i : Int)) (highBytes v size, true) := by
  induction d with
  | zero =>
    intro i out h hi
    have hlt := toB_lt v
    rw [show (toB v).length = i by omega] at hlt
    have he : out = highBytes v size := by
      have e1 := h.eq
      rw [Nat.mod_eq_of_lt hlt] at e1
      have e2 := lowBytes_valL h.by_.reverse
      rw [e1, List.length_reverse, h.len] at e2
      unfold highBytes
      rw [e2, List.reverse_reverse]
    rw [← he]
    exact Ev.step (f := fun _ => some (out, true)) (fun k => by simp only [sacristyref01_Bytes.l0]; rw [if_neg (by omega)]) (Ev.now _)
  | succ d ih =>
    intro i out h hi
    have hl := h.len
    have c1 : (i : Int) < ((toB v).length : Int) := by omega
    have c2 : (0 : Int) ≤ (i : Int) := by omega
    have hq8 : i / 8 < size := by unfold nb at hs; omega
    have c3 : (0 : Int) ≤ ((size - 1 - i / 8 : Nat) : Int) := by omega
    have c4 : ((size - 1 - i / 8 : Nat) : Int) < (out.length : Int) := by omega
    have c5 : (0 : Int) ≤ ((i % 8 : Nat) : Int) := by omega
    have i1 : i + 1 + d = (toB v).length := by omega
    have hi8 : i % 8 < 8 := by omega
    have hlo : i / 8 < out.length := by omega
    have hlor : i / 8 < out.reverse.length := by rw [List.length_reverse]; exact hlo
    have w1 : wrap64 (wrap64 ((size : Int) - 1) - wrap64 (Int.tdiv (i : Int) 8)) = ((size - 1 - i / 8 : Nat) : Int) := by
      have : wrap64 (Int.tdiv (i : Int) 8) = ((i / 8 : Nat) : Int) := by
        rw [show (8 : Int) = ((8 : Nat) : Int) from rfl, ← Int.ofNat_tdiv]; exact w64 (by omega) (by omega)
      rw [this]
      clear this
      rw [w64 (x := (size : Int) - 1) (by omega) (by omega), w64 (by omega) (by omega)]; omega
    have w3 : Int.tmod (i : Int) 8 = ((i % 8 : Nat) : Int) := by
      rw [show (8 : Int) = ((8 : Nat) : Int) from rfl, ← Int.ofNat_tmod]
    have w4 : wrap64 ((i : Int) + 1) = ((i + 1 : Nat) : Int) := by clear w1 w3; exact winc (by omega)
    have hg := gb_toB v i
    have hm := mod_snoc v i
    cases hx : gb (toB v) i with
    | false =>
      rw [hx] at hg
      rw [← hg] at hm
      simp only [Bool.toNat_false, Nat.mul_zero, Nat.add_zero] at hm
      refine Ev.step (fun k => ?_) (ih (i + 1) out ⟨h.len, h.by_, by rw [hm]; exact h.eq⟩ i1)
      simp only [sacristyref01_Bytes.l0]
      rw [if_pos c1, if_pos c2, if_pos c1, rdB, hx, if_neg (by decide), w4]
    | true =>
      rw [hx] at hg
      rw [← hg] at hm
      simp only [Bool.toNat_true, Nat.mul_one] at hm
      have hval : valL out.reverse < 2 ^ i := by rw [h.eq]; exact Nat.mod_lt _ (Nat.pow_pos (by decide))
      rw [pow2_8] at hval
      have hdig := digitL_lt h.by_.reverse hlor hval
      have hgr : gw out.reverse (i / 8) = gw out (size - 1 - i / 8) := by rw [gw_rev hlo, hl]
      rw [hgr] at hdig
      obtain ⟨e1, e2⟩ := rb_round (gw out (size - 1 - i / 8)) (i % 8) hi8 (h.by_.gw _).1 hdig
      have hst : RBInv v size (i + 1) (out.set (size - 1 - i / 8) (((gw out (size - 1 - i / 8)).toNat + 2 ^ (i % 8) : Nat) : Int)) := by
        refine ⟨by rw [List.length_set]; exact h.len, fun y hy => ?_, ?_⟩
        · rcases List.mem_or_eq_of_mem_set hy with h1 | rfl
          · exact h.by_ y h1
          · exact ⟨Int.natCast_nonneg _, Int.ofNat_lt.2 e2⟩
        · have e3 := set_rev (l := out) (x := (((gw out (size - 1 - i / 8)).toNat + 2 ^ (i % 8) : Nat) : Int)) hlo
          rw [hl] at e3
          have e4 := valL_set hlor (x := (((gw out (size - 1 - i / 8)).toNat + 2 ^ (i % 8) : Nat) : Int))
          rw [Int.toNat_natCast, hgr, h.eq] at e4
          rw [e3, hm]
          have e5 := pow2_8 i
          rw [e5] at e4 ⊢
          generalize 256 ^ (i / 8) = Q at *
          generalize 2 ^ (i % 8) = P at *
          generalize (gw out (size - 1 - i / 8)).toNat = x at *
          rw [Nat.mul_add] at e4
          clear e1 e2 e3 e5 hdig hgr hval hm ih w1 w3 w4 hg
          omega
      refine Ev.step (fun k => ?_) (ih (i + 1) _ hst i1)
      simp only [sacristyref01_Bytes.l0]
      rw [if_pos c1, if_pos c2, if_pos c1, rdB, hx, if_pos rfl, w1, if_pos c3, if_pos c4, w3, if_pos c5, rd_gw, e1, w4, Int.toNat_natCast]
theorem rnb_word (v : Nat) (hv : (toB v).length ≤ 1000000) : wrap64 (Int.tdiv (wrap64 ((((toB v).length : Nat) : Int) + 7)) 8) = ((nb v : Nat) : Int) := by
  unfold nb
  have e1 : wrap64 ((((toB v).length : Nat) : Int) + 7) = (((toB v).length + 7 : Nat) : Int) := by rw [w64 (by omega) (by omega)]; omega
  rw [e1, show (8 : Int) = ((8 : Nat) : Int) from rfl, ← Int.ofNat_tdiv]
  clear e1
  exact w64 (by omega) (by omega)
theorem rBytes_ev (v size : Nat) (hs : nb v ≤ size) (hsz : size ≤ 1000000) (hv : (toB v).length ≤ 1000000) : Ev (fun k => sacristyref01_Bytes.f k (toB v) (size : Int)) (highBytes v size, true) := by
  have hz : Bytes (List.replicate size 0) := fun x hx => by rw [List.eq_of_mem_replicate hx]; decide
  have h : Ev (fun k => sacristyref01_Bytes.l0 k (size : Int) (List.replicate size 0) (toB v) ((toB v).length : Int) 0) (highBytes v size, true) := rBytes_loop v size hs hsz hv (toB v).length 0 (List.replicate size 0) ⟨by simp, hz, by rw [List.reverse_replicate, valL_zeros]; simp [Nat.mod_one]⟩ (by omega)
  have c2 : ¬ ((nb v : Nat) : Int) > (size : Int) := by omega
  have c3 : (0 : Int) ≤ (size : Int) := by omega
  have c4 : size ≤ 281474976710656 := by omega
  refine Ev.congr (fun k => ?_) h
  unfold sacristyref01_Bytes.f
  rw [rnb_word v hv]
  refine (if_neg c2).trans ?_
  refine (if_pos c3).trans ?_
  rw [Int.toNat_natCast]
  refine (if_pos c4).trans ?_
  with_reducible rfl
theorem highBytes_inj {a b : Nat} (h : highBytes a (nb a) = highBytes b (nb b)) : a = b := by
  have hl := congrArg List.length h
  rw [highBytes_length, highBytes_length] at hl
  have h2 : lowBytes a (nb a) = lowBytes b (nb b) := by
    have := congrArg List.reverse h
    simpa [highBytes] using this
  have h3 := congrArg valL h2
  rw [lowBytes_val, lowBytes_val, Nat.mod_eq_of_lt (nb_lt a), Nat.mod_eq_of_lt (nb_lt b)] at h3
  exact h3
end Go.Proofs.Yteejcpbngnojkaa.P
end
section
namespace Go.Proofs.Yteejcpbngnojkaa.P
open Go.RowKit Go.Proofs.YteejcpbngnojkaaW.PrintWords Go.Proofs.YteejcpbngnojkaaW.PrintLast Go.Proofs.YteejcpbngnojkaaW.PrintMore
attribute [local go_sem] max2_int min2_int max_two min_two max_three min_three max_four min_four
set_option linter.unusedVariables false
set_option linter.unusedSimpArgs false
def nat_Nat_Gcd.l0 : Nat → List Int → List Int → Option (List Int)
 |0,_,_ => none
 |k + 1,x719000,x720000 => (nat_Nat_Zero.f x720000).bind fun t721 => (if t721 = true then (some x719000) else ((nat_Nat_Div.f k x719000 x720000).bind fun bt722 => (nat_Nat_Gcd.l0 k x720000 bt722.2.1)))
def nat_Nat_Gcd.f (k : Nat) (l0_0 : List Int) (l1_0 : List Int) : Option (List Int):=nat_Nat_Gcd.l0 k l0_0 l1_0
theorem nat_Nat_Gcd.mono_l : ∀ k,(∀ y0 y1,LeO (nat_Nat_Gcd.l0 k y0 y1) (nat_Nat_Gcd.l0 (k + 1) y0 y1))
 |0 => fun _ _ r h => by simp [nat_Nat_Gcd.l0] at h
 |k + 1 => by
  have ih0:=nat_Nat_Gcd.mono_l k
  ·intro y0 y1
   unfold nat_Nat_Gcd.l0
   repeat' first
   |(with_reducible exact ih0 _ _)
   |(with_reducible exact nat_Nat_Div.mono _ _ _)
   |(with_reducible exact LeO.refl _)
   |(with_reducible exact LeO.none _)
   |(with_reducible refine LeO.ite ?_ ?_)
   |(with_reducible refine LeO.bind ?_ (fun _ => ?_))
   |exact ih0 _ _
   |exact nat_Nat_Div.mono _ _ _
   |exact LeO.none _
   |refine LeO.ite ?_ ?_
   |refine LeO.bind ?_ (fun _ => ?_)
theorem nat_Nat_Gcd.mono : ∀ a0 a1 k,LeO (nat_Nat_Gcd.f k a0 a1) (nat_Nat_Gcd.f (k + 1) a0 a1):=by
 intro a0 a1 k
 have ih0:=nat_Nat_Gcd.mono_l k
 unfold nat_Nat_Gcd.f
 repeat' first
   |(with_reducible exact ih0 _ _)
   |(with_reducible exact nat_Nat_Div.mono _ _ _)
   |(with_reducible exact LeO.refl _)
   |(with_reducible exact LeO.none _)
   |(with_reducible refine LeO.ite ?_ ?_)
   |(with_reducible refine LeO.bind ?_ (fun _ => ?_))
   |exact ih0 _ _
   |exact nat_Nat_Div.mono _ _ _
   |exact LeO.none _
   |refine LeO.ite ?_ ?_
   |refine LeO.bind ?_ (fun _ => ?_)
end Go.Proofs.Yteejcpbngnojkaa.P
end
section
namespace Go.Proofs.Yteejcpbngnojkaa.P
open Go.RowKit Go.Proofs.YteejcpbngnojkaaW.PrintWords Go.Proofs.YteejcpbngnojkaaW.PrintLast Go.Proofs.YteejcpbngnojkaaW.PrintMore
open Go.Proofs.Yteejcpbngnojkaa.Num
set_option linter.unusedVariables false
theorem str_inj {xs ys : List Int} (hx : Bytes xs) (hy : Bytes ys) : (strOfNums xs).toList = (strOfNums ys).toList ↔ xs = ys := by
  constructor
  · intro h
    rw [Lib.strOfNums_toList, Lib.strOfNums_toList] at h
    have h3 : xs.map (fun n => UInt8.ofNat n.toNat) = ys.map (fun n => UInt8.ofNat n.toNat) := h
    refine List.ext_getElem (by have := congrArg List.length h3; simpa using this) fun i h1 h4 => ?_
    have h5 := congrArg (fun l => l[i]?) h3
    simp only [List.getElem?_map, List.getElem?_eq_getElem h1, List.getElem?_eq_getElem h4, Option.map_some, Option.some.injEq] at h5
    have g1 := hx _ (List.getElem_mem h1)
    have g2 := hy _ (List.getElem_mem h4)
    have h6 := congrArg UInt8.toNat h5
    rw [UInt8.toNat_ofNat_of_lt' (by show _ < 256; omega), UInt8.toNat_ofNat_of_lt' (by show _ < 256; omega)] at h6
    omega
  · rintro rfl; rfl
theorem toB_of_W {v : Nat} {n : Nat} (hv : v < pw n) : (toB v).length ≤ 32 * n := toB_len_le _ _ (by rwa [pw_two] at hv)
theorem Same_ev (a b : Nat) (ha : (toW a).length ≤ 1000) (hb : (toB b).length ≤ 1000000) : Ev (fun k => sacristylaw01_Same.f k (toW a) (toB b)) (decide (a = b)) := by
  have h1 := Least_ev a ha
  have h2 := rBytes_ev b (nb b) (Nat.le_refl _) (by unfold nb; omega) hb
  have e : ((strOfNums (highBytes a (nb a))).toList == (strOfNums (highBytes b (nb b))).toList) = decide (a = b) := by
    rw [Bool.eq_iff_iff, beq_iff_eq, decide_eq_true_iff, str_inj (highBytes_bytes _ _) (highBytes_bytes _ _)]
    exact ⟨fun h => highBytes_inj h, fun h => by rw [h]⟩
  rw [← e]
  refine Ev.congr (fun k => ?_) (Ev.bind (f := fun k bt => (nat_Nat_Least.f k (toW a)).bind fun t317 => some ((strOfNums t317).toList == (strOfNums bt.1).toList)) h2 (Ev.bind h1 (f := fun _ t317 => some ((strOfNums t317).toList == (strOfNums (highBytes b (nb b))).toList)) (Ev.now _)))
  unfold sacristylaw01_Same.f
  rw [rnb_word b hb]
theorem Same_true (a : Nat) (ha : (toW a).length ≤ 1000) : Ev (fun k => sacristylaw01_Same.f k (toW a) (toB a)) true := by
  have := Same_ev a a ha (Nat.le_trans (toB_of_W (toW_lt a)) (by omega))
  simpa using this
theorem mn_nat (a b : Nat) : mn (a : Int) (b : Int) = ((min a b : Nat) : Int) := by unfold mn; split <;> omega
def num48 (l : List Int) : Nat := valH (l.take 48)
theorem num48_lt (l : List Int) (hb : Bytes l) : num48 l < pw 12 := by
  have h := valH_lt (hb.take 48)
  refine Nat.lt_of_lt_of_le h (Nat.le_trans (Nat.pow_le_pow_right (by decide) (List.length_take_le ..)) ?_)
  exact Nat.le_of_eq (by rw [pow256]; decide)
theorem num48_W (l : List Int) (hb : Bytes l) : (toW (num48 l)).length ≤ 12 := toW_len_le _ _ (num48_lt l hb)
theorem take_min (l : List Int) (n : Nat) : l.take (min l.length n) = l.take n := by
  by_cases h : n ≤ l.length
  · rw [Nat.min_eq_right h]
  · rw [Nat.min_eq_left (by omega), List.take_length, List.take_of_length_le (by omega)]
theorem Num_ev (l : List Int) (hb : Bytes l) : Ev (fun k => sacristylaw01_Num.f k l) (toW (num48 l)) := by
  have h := FromBytes_ev (l.take 48) (hb.take 48) (Nat.le_trans (List.length_take_le ..) (by decide))
  have hm : mn (l.length : Int) 48 = ((min l.length 48 : Nat) : Int) := mn_nat _ 48
  have c1 : (0 : Int) ≤ ((min l.length 48 : Nat) : Int) := Int.natCast_nonneg _
  have c2 : ((min l.length 48 : Nat) : Int) ≤ (l.length : Int) := Int.ofNat_le.2 (Nat.min_le_left ..)
  refine Ev.congr (fun k => ?_) (Ev.bind (f := fun _ bt => some bt.1) h (Ev.now _))
  unfold sacristylaw01_Num.f
  rw [hm, if_pos c1, if_pos c2, Int.toNat_natCast, take_min]
theorem Div_toW (k a b : Nat) (hb : 0 < b) (ha : (toW a).length ≤ 1048576) (hbl : (toW b).length ≤ 1048576) : nat_Nat_Div.f k (toW a) (toW b) = some (toW (a / b), toW (a % b), 0) := by
  unfold nat_Nat_Div.f
  rw [if_pos (by rw [canonB_toW, canonB_toW]; simp [ha, hbl]), valW_toW, valW_toW, if_neg (by omega)]
theorem toW_small (n : Nat) (h : n < 4294967296) : (toW n).length ≤ 1 := toW_len_le 1 n (by simpa [pw] using h)
theorem lives_ev : Ev (fun k => sacristylaw01_lives.f k) true := by
  have n7 := New_ev 7 (by decide) (by decide)
  have n2 := New_ev 2 (by decide) (by decide)
  have s3 := rSmall 3 (by decide)
  have s1 := rSmall 1 (by decide)
  have m3 := Same_true 3 (Nat.le_trans (toW_small 3 (by decide)) (by decide))
  have m1 := Same_true 1 (Nat.le_trans (toW_small 1 (by decide)) (by decide))
  unfold sacristylaw01_lives.f
  refine Ev.bind n7 (Ev.bind n2 ?_)
  have hd : ∀ k, nat_Nat_Div.f k (toW (7 : Int).toNat) (toW (2 : Int).toNat) = some (toW 3, toW 1, 0) := fun k => Div_toW k 7 2 (by decide) (Nat.le_trans (toW_small 7 (by decide)) (by decide)) (Nat.le_trans (toW_small 2 (by decide)) (by decide))
  refine Ev.congr (f := fun k => (sacristyref01_Small.f k 3).bind fun t435 => (sacristylaw01_Same.f k (toW 3) t435).bind fun t438 => if t438 = true then ((sacristyref01_Small.f k 1).bind fun t439 => (sacristylaw01_Same.f k (toW 1) t439).bind fun t442 => some t442) else some false) (fun k => ?_) ?_
  · rw [hd]
    refine (Option.bind_some _ _).trans ?_
    exact if_pos rfl
  · refine Ev.bind s3 (Ev.bind m3 ?_)
    refine Ev.congr (fun k => if_pos rfl) ?_
    exact Ev.bind s1 (Ev.bind (f := fun _ t442 => some t442) m1 (Ev.now _))
end Go.Proofs.Yteejcpbngnojkaa.P
end
section
namespace Go.Proofs.Yteejcpbngnojkaa.P
open Go.RowKit Go.Proofs.YteejcpbngnojkaaW.PrintWords Go.Proofs.YteejcpbngnojkaaW.PrintLast Go.Proofs.YteejcpbngnojkaaW.PrintMore
open Go.Proofs.Yteejcpbngnojkaa.Num
set_option linter.unusedVariables false
theorem mul_step {V V' P x y c old s : Nat} (hs : s = c + (x * y + old)) (h : V' + P * old = V + P * (s % 4294967296)) : V' + P * 4294967296 * (s / 4294967296) = V + P * c + P * (x * y) := by
  have h1 := Nat.mod_add_div s 4294967296
  have h2 : P * (s % 4294967296) + P * 4294967296 * (s / 4294967296) = P * s := by rw [Nat.mul_assoc, ← Nat.mul_add, h1]
  have h3 : P * s = P * c + (P * (x * y) + P * old) := by rw [hs, Nat.mul_add, Nat.mul_add]
  omega
theorem mul_inner (a b : List Int) (hb : Sized b) (i x : Nat) (hx : x < 4294967296) (hi : i < a.length) (hla : a.length ≤ 100000) (hlb : b.length ≤ 100000) (r : List Int) (d : Nat) :
    ∀ (j c V0 : Nat) (out : List Int), j + d = b.length → out.length = a.length + b.length → Sized out → c < 4294967296 → gw out (i + b.length) = 0 → valW out + pw (i + j) * c = V0 + pw i * (x * valW (b.take j)) →
    (∀ out', out'.length = a.length + b.length → Sized out' → valW out' = V0 + pw i * (x * valW b) → Ev (fun k => nat_Nat_Mul.l0 k out' a (a.length : Int) (wrap64 ((i : Int) + 1)) b) r) →
    Ev (fun k => nat_Nat_Mul.l1 k out (i : Int) (x : Int) (c : Int) a (a.length : Int) (i : Int) b (b.length : Int) (j : Int) b) r := by
  induction d with
  | zero =>
    intro j c V0 out hj hol hos hc hz he hK
    obtain rfl : j = b.length := by omega
    have c1 : ¬ ((b.length : Nat) : Int) < (b.length : Int) := by omega
    have c2 : (0 : Int) ≤ ((i + b.length : Nat) : Int) := by omega
    have c3 : ((i + b.length : Nat) : Int) < (out.length : Int) := by omega
    have hq : i + b.length < out.length := by omega
    have ec : (c : Int) % 4294967296 = (c : Int) := by omega
    have hbd : (0 : Int) ≤ (c : Int) ∧ (c : Int) < 4294967296 := by omega
    have w1 : wrap64 ((i : Int) + (b.length : Int)) = ((i + b.length : Nat) : Int) := by rw [w64 (by omega) (by omega)]; omega
    have hv := valW_set' hq (x := (c : Int)) hbd.1
    rw [hz, Int.toNat_natCast] at hv
    rw [List.take_length] at he
    refine Ev.step (fun k => ?_) (hK (out.set (i + b.length) (c : Int)) (by rw [List.length_set]; exact hol) (hos.set _ hbd) (by simp at hv; omega))
    simp only [nat_Nat_Mul.l1]
    rw [if_neg c1, w1, if_pos c2, if_pos c3, Int.toNat_natCast, ec]
  | succ d ih =>
    intro j c V0 out hj hol hos hc hz he hK
    have c1 : (j : Int) < (b.length : Int) := by omega
    have c2 : (0 : Int) ≤ (j : Int) := by omega
    have c3 : (0 : Int) ≤ ((i + j : Nat) : Int) := by omega
    have c4 : ((i + j : Nat) : Int) < (out.length : Int) := by omega
    have hq : i + j < out.length := by omega
    have hjb : j < b.length := by omega
    have j1 : j + 1 + d = b.length := by omega
    have hne : ¬ i + j = i + b.length := by omega
    have gy := hb.gw j
    have go := hos.gw (i + j)
    obtain ⟨y, hy⟩ := Int.eq_ofNat_of_zero_le gy.1
    obtain ⟨o, ho⟩ := Int.eq_ofNat_of_zero_le go.1
    rw [hy] at gy
    rw [ho] at go
    have hy4 : y < 4294967296 := by omega
    have ho4 : o < 4294967296 := by omega
    have hxy : x * y ≤ 4294967295 * 4294967295 := Nat.mul_le_mul (by omega) (by omega)
    have hs64 : c + (x * y + o) < 18446744073709551616 := by omega
    have e1 : IntKind.u64.wrap ((x : Int) * (y : Int)) = ((x * y : Nat) : Int) := by
      rw [← Int.natCast_mul]; exact wu64 (by omega) (by omega)
    have e2 : IntKind.u64.wrap (((x * y : Nat) : Int) + (o : Int)) = ((x * y + o : Nat) : Int) := by
      rw [← Int.natCast_add]; exact wu64 (by omega) (by omega)
    have e3 : IntKind.u64.wrap ((c : Int) + ((x * y + o : Nat) : Int)) = ((c + (x * y + o) : Nat) : Int) := by
      rw [← Int.natCast_add]; exact wu64 (by omega) (by omega)
    have ex : IntKind.u64.wrap (x : Int) = (x : Int) := wu64 (by omega) (by omega)
    have ey : IntKind.u64.wrap (y : Int) = (y : Int) := wu64 (by omega) (by omega)
    have eo : IntKind.u64.wrap (o : Int) = (o : Int) := wu64 (by omega) (by omega)
    have w1 : wrap64 ((i : Int) + (j : Int)) = ((i + j : Nat) : Int) := by
      clear e1 e2 e3 ex ey eo
      rw [w64 (by omega) (by omega)]; omega
    have w2 : wrap64 ((j : Int) + 1) = ((j + 1 : Nat) : Int) := by clear e1 e2 e3 ex ey eo w1; exact winc (by omega)
    obtain ⟨s, hs⟩ : ∃ s, s = c + (x * y + o) := ⟨_, rfl⟩
    rw [← hs] at e3 hs64
    have hbd : (0 : Int) ≤ ((s % 4294967296 : Nat) : Int) ∧ ((s % 4294967296 : Nat) : Int) < 4294967296 := by clear e1 e2 e3 ex ey eo w1 w2; omega
    have hcc : s / 4294967296 < 4294967296 := by clear e1 e2 e3 ex ey eo w1 w2; omega
    have hv := valW_set' hq (x := ((s % 4294967296 : Nat) : Int)) hbd.1
    rw [ho, Int.toNat_natCast, Int.toNat_natCast] at hv
    have hm := mul_step hs hv
    have hz' : gw (out.set (i + j) ((s % 4294967296 : Nat) : Int)) (i + b.length) = 0 := by rw [gw_set hq, if_neg hne]; exact hz
    have hval : valW (out.set (i + j) ((s % 4294967296 : Nat) : Int)) + pw (i + (j + 1)) * (s / 4294967296) = V0 + pw i * (x * valW (b.take (j + 1))) := by
      rw [show i + (j + 1) = i + j + 1 from rfl, pw_succ, hm, valW_snoc hjb, hy, Int.toNat_natCast, he, pw_add]
      clear e1 e2 e3 ex ey eo w1 w2 hm hv hz' ih hK
      generalize pw i = P
      generalize pw j = Q
      generalize valW (b.take j) = T
      grind
    refine Ev.step (fun k => ?_) (ih (j + 1) (s / 4294967296) V0 _ j1 (by rw [List.length_set]; exact hol) (hos.set _ hbd) hcc hz' hval hK)
    simp only [nat_Nat_Mul.l1]
    rw [if_pos c1, if_pos c2, if_pos c1, w1, if_pos c3, if_pos c4, rd_gw, rd_gw, hy, ho, ex, ey, eo, e1, e2, e3, w2, Int.toNat_natCast]
    rfl
theorem mul_outer (a b : List Int) (ha : Sized a) (hb : Sized b) (hla : a.length ≤ 100000) (hlb : b.length ≤ 100000) (d : Nat) : ∀ (i : Nat) (out : List Int), i + d = a.length → out.length = a.length + b.length → Sized out → valW out = valW (a.take i) * valW b →
    Ev (fun k => nat_Nat_Mul.l0 k out a (a.length : Int) (i : Int) b) (toW (valW a * valW b)) := by
  induction d with
  | zero =>
    intro i out hi hol hos he
    obtain rfl : i = a.length := by omega
    have ht := trim_ev out hos (by omega)
    rw [he, List.take_length] at ht
    exact Ev.step (fun k => by simp only [nat_Nat_Mul.l0]; rw [if_neg (by omega)]) (Ev.bind (f := fun _ t => some t) ht (Ev.now _))
  | succ d ih =>
    intro i out hi hol hos he
    have c1 : (i : Int) < (a.length : Int) := by omega
    have c2 : (0 : Int) ≤ (i : Int) := by omega
    have hia : i < a.length := by omega
    have i1 : i + 1 + d = a.length := by omega
    have hq : i + b.length < out.length := by omega
    have gx := ha.gw i
    obtain ⟨x, hx⟩ := Int.eq_ofNat_of_zero_le gx.1
    rw [hx] at gx
    have hx4 : x < 4294967296 := by omega
    have hT := valW_lt (ha.take i)
    rw [List.length_take, Nat.min_eq_left (by omega)] at hT
    have hB := valW_lt hb
    have hz : gw out (i + b.length) = 0 := by
      have h1 : valW out < pw (i + b.length) * 1 := by
        rw [he, Nat.mul_one, pw_add]; exact Nat.mul_lt_mul'' hT hB
      have h2 := digit_lt hos hq h1
      have := (hos.gw (i + b.length)).1
      omega
    have hw := winc (n := i) (by omega)
    refine Ev.step (f := fun k => nat_Nat_Mul.l1 k out (i : Int) (x : Int) 0 a (a.length : Int) (i : Int) b (b.length : Int) 0 b) (fun k => ?_) ?_
    · simp only [nat_Nat_Mul.l0]
      rw [if_pos c1, if_pos c2, if_pos c1, rd_gw, hx]
    · refine mul_inner a b hb i x hx4 hia hla hlb _ b.length 0 0 (valW out) out (by simp) hol hos (by decide) hz (by simp [valW_nil]) (fun out' hl' hs' hv' => ?_)
      rw [hw]
      refine ih (i + 1) out' i1 hl' hs' ?_
      rw [hv', he, valW_snoc hia, hx, Int.toNat_natCast, Nat.add_mul, Nat.mul_assoc]
theorem Mul_ev (a b : Nat) (ha : (toW a).length ≤ 100000) (hb : (toW b).length ≤ 100000) : Ev (fun k => nat_Nat_Mul.f k (toW a) (toW b)) (toW (a * b)) := by
  have h := mul_outer (toW a) (toW b) (toW_sized a) (toW_sized b) ha hb (toW a).length 0 (List.replicate ((toW a).length + (toW b).length) 0) (by omega) (by simp) (Sized.zeros _) (by rw [valW_zeros, List.take_zero, valW_nil, Nat.zero_mul])
  rw [valW_toW, valW_toW] at h
  have w1 : wrap64 (((toW a).length : Int) + ((toW b).length : Int)) = (((toW a).length + (toW b).length : Nat) : Int) := by rw [w64 (by omega) (by omega)]; omega
  have c1 : (0 : Int) ≤ (((toW a).length + (toW b).length : Nat) : Int) := Int.natCast_nonneg _
  have c2 : (toW a).length + (toW b).length ≤ 70368744177664 := by clear w1; omega
  refine Ev.congr (fun k => ?_) h
  unfold nat_Nat_Mul.f
  rw [w1, if_pos c1, Int.toNat_natCast]
  exact if_pos c2
end Go.Proofs.Yteejcpbngnojkaa.P
end
section
namespace Go.Proofs.Yteejcpbngnojkaa.P
open Go.RowKit Go.Proofs.YteejcpbngnojkaaW.PrintWords Go.Proofs.YteejcpbngnojkaaW.PrintLast Go.Proofs.YteejcpbngnojkaaW.PrintMore
attribute [local go_sem] max2_int min2_int max_two min_two max_three min_three max_four min_four
set_option linter.unusedVariables false
set_option linter.unusedSimpArgs false
def nat_Nat_Uint.l0 : Nat → Int → List Int → Int → Int → Option (Int × Bool)
 |0,_,_,_,_ => none
 |k + 1,x4,x12,x13,x14 => if x14 < x13 then (if 0 ≤ x14 then (if x14 < (x12.length : Int) then (if 0 ≤ (wrap64 (32 * x14)) then (nat_Nat_Uint.l0 k (Go.bits .or .u64 x4 (shl .u64 (IntKind.u64.wrap (rd x12 x14)) (wrap64 (32 * x14)))) x12 x13 (wrap64 (x14 + 1))) else (none)) else (none)) else (none)) else (some (x4,true))
def nat_Nat_Uint.f (k : Nat) (l0_0 : List Int) : Option (Int × Bool):=if (l0_0.length : Int) > 2 then (some (0,false)) else (nat_Nat_Uint.l0 k 0 l0_0 (l0_0.length : Int) 0)
theorem nat_Nat_Uint.mono_l : ∀ k,(∀ y0 y1 y2 y3,LeO (nat_Nat_Uint.l0 k y0 y1 y2 y3) (nat_Nat_Uint.l0 (k + 1) y0 y1 y2 y3))
 |0 => fun _ _ _ _ r h => by simp [nat_Nat_Uint.l0] at h
 |k + 1 => by
  have ih0:=nat_Nat_Uint.mono_l k
  ·intro y0 y1 y2 y3
   unfold nat_Nat_Uint.l0
   repeat' first
   |(with_reducible exact ih0 _ _ _ _)
   |(with_reducible exact LeO.refl _)
   |(with_reducible exact LeO.none _)
   |(with_reducible refine LeO.ite ?_ ?_)
   |(with_reducible refine LeO.bind ?_ (fun _ => ?_))
   |exact ih0 _ _ _ _
   |exact LeO.none _
   |refine LeO.ite ?_ ?_
   |refine LeO.bind ?_ (fun _ => ?_)
theorem nat_Nat_Uint.mono : ∀ a0 k,LeO (nat_Nat_Uint.f k a0) (nat_Nat_Uint.f (k + 1) a0):=by
 intro a0 k
 have ih0:=nat_Nat_Uint.mono_l k
 unfold nat_Nat_Uint.f
 repeat' first
   |(with_reducible exact ih0 _ _ _ _)
   |(with_reducible exact LeO.refl _)
   |(with_reducible exact LeO.none _)
   |(with_reducible refine LeO.ite ?_ ?_)
   |(with_reducible refine LeO.bind ?_ (fun _ => ?_))
   |exact ih0 _ _ _ _
   |exact LeO.none _
   |refine LeO.ite ?_ ?_
   |refine LeO.bind ?_ (fun _ => ?_)
end Go.Proofs.Yteejcpbngnojkaa.P
end
section
namespace Go.Proofs.Yteejcpbngnojkaa.P
open Go.RowKit Go.Proofs.YteejcpbngnojkaaW.PrintWords Go.Proofs.YteejcpbngnojkaaW.PrintLast Go.Proofs.YteejcpbngnojkaaW.PrintMore
attribute [local go_sem] max2_int min2_int max_two min_two max_three min_three max_four min_four
set_option linter.unusedVariables false
set_option linter.unusedSimpArgs false
def nat_Nat_Bit.f (l0_0 : List Int) (a1 : Int) : Option (Int):=if a1 < 0 then (some 0) else (if (wrap64 (Int.tdiv a1 32)) ≥ (l0_0.length : Int) then (some 0) else (if 0 ≤ (wrap64 (Int.tdiv a1 32)) then (if (wrap64 (Int.tdiv a1 32)) < (l0_0.length : Int) then (if 0 ≤ (Int.tmod a1 32) then (some (wrap64 (Go.bits .and .u32 (shr .u32 (rd l0_0 (wrap64 (Int.tdiv a1 32))) (Int.tmod a1 32)) 1))) else (none)) else (none)) else (none)))
end Go.Proofs.Yteejcpbngnojkaa.P
end
section
namespace Go.Proofs.Yteejcpbngnojkaa.P
open Go.RowKit Go.Proofs.YteejcpbngnojkaaW.PrintWords Go.Proofs.YteejcpbngnojkaaW.PrintLast Go.Proofs.YteejcpbngnojkaaW.PrintMore
open Go.Proofs.Yteejcpbngnojkaa.Num
set_option linter.unusedVariables false
theorem sub_eq {A O B P x z y bo bo' : Nat} (h : A + bo * P = O + B) (he : x + bo' * 4294967296 = z + y + bo) : A + P * x + bo' * (P * 4294967296) = O + P * z + (B + P * y) := by
  have h2 : P * (x + bo' * 4294967296) = P * (z + y + bo) := by rw [he]
  simp only [Nat.mul_add] at h2
  have e1 : P * (bo' * 4294967296) = bo' * (P * 4294967296) := Nat.mul_left_comm ..
  have e2 : P * bo = bo * P := Nat.mul_comm ..
  omega
theorem sub_w (x y bo : Nat) (hx : x < 4294967296) (hy : y < 4294967296) (hb : bo ≤ 1) : wrap64 (x : Int) = (x : Int) ∧ wrap64 ((x : Int) - (bo : Int)) = (x : Int) - (bo : Int) ∧ wrap64 (y : Int) = (y : Int) ∧ wrap64 ((x : Int) - (bo : Int) - (y : Int)) = (x : Int) - (bo : Int) - (y : Int) ∧ wrap64 ((x : Int) - (bo : Int) - (y : Int) + 4294967296) = (x : Int) - (bo : Int) - (y : Int) + 4294967296 :=
  ⟨w64 (by omega) (by omega), w64 (by omega) (by omega), w64 (by omega) (by omega), w64 (by omega) (by omega), w64 (by omega) (by omega)⟩
theorem valW_snoc' (l : List Int) (j : Nat) : valW (l.take (j + 1)) = valW (l.take j) + pw j * (gw l j).toNat := by
  by_cases h : j < l.length
  · exact valW_snoc h
  · rw [List.take_of_length_le (by omega), List.take_of_length_le (by omega), gw_out (by omega)]; simp
theorem sub_round (l m : List Int) (i bo x y : Nat) (out : List Int) (hx : gw l i = (x : Int)) (hy : gw m i = (y : Int)) (hx4 : x < 4294967296) (hy4 : y < 4294967296) (hb : bo ≤ 1) (hi : i < l.length) (hll : l.length ≤ 1048576) (hol : out.length = l.length) (k : Nat) :
    nat_Nat_Sub.l0 (k + 1) out (bo : Int) l (l.length : Int) (i : Int) m = if x < y + bo then nat_Nat_Sub.l0 k (out.set i (((x + 4294967296 - y - bo : Nat) : Nat) : Int)) ((1 : Nat) : Int) l (l.length : Int) ((i + 1 : Nat) : Int) m else nat_Nat_Sub.l0 k (out.set i (((x - y - bo : Nat) : Nat) : Int)) ((0 : Nat) : Int) l (l.length : Int) ((i + 1 : Nat) : Int) m := by
  have c1 : (i : Int) < (l.length : Int) := by omega
  have c2 : (0 : Int) ≤ (i : Int) := by omega
  have c3 : (i : Int) < (out.length : Int) := by omega
  have z1 : x < y + bo → ((x : Int) - (bo : Int) - (y : Int) + 4294967296) % 4294967296 = ((x + 4294967296 - y - bo : Nat) : Int) := fun h => by omega
  have z0 : ¬ x < y + bo → ((x : Int) - (bo : Int) - (y : Int)) % 4294967296 = ((x - y - bo : Nat) : Int) := fun h => by omega
  have d1 : x < y + bo → (x : Int) - (bo : Int) - (y : Int) < 0 := fun h => by omega
  have d0 : ¬ x < y + bo → ¬ (x : Int) - (bo : Int) - (y : Int) < 0 := fun h => by omega
  have hyo : ¬ (i : Int) < (m.length : Int) → y = 0 := fun h => by
    rw [gw_out (by omega)] at hy; omega
  obtain ⟨e1, e2, e3, e4, e5⟩ := sub_w x y bo hx4 hy4 hb
  have hw := winc (n := i) (by omega)
  simp only [nat_Nat_Sub.l0]
  rw [if_pos c1, if_pos c2, if_pos c1, rd_gw, rd_gw, hx, hy, e1, e2, e3, e4, e5, hw, Int.toNat_natCast]
  by_cases hm : (i : Int) < (m.length : Int)
  · rw [if_pos hm]
    by_cases hs : x < y + bo
    · rw [if_pos (d1 hs), if_pos c3, z1 hs, if_pos hs]; rfl
    · rw [if_neg (d0 hs), if_pos c3, z0 hs, if_neg hs]; rfl
  · rw [if_neg hm]
    have h0 := hyo hm
    subst h0
    have ez : (x : Int) - (bo : Int) - ((0 : Nat) : Int) = (x : Int) - (bo : Int) := Int.sub_zero _
    rw [ez] at z1 z0 d1 d0 e5
    by_cases hs : x < 0 + bo
    · rw [if_pos (d1 hs), if_pos c3, e5, z1 hs, if_pos hs]; rfl
    · rw [if_neg (d0 hs), if_pos c3, z0 hs, if_neg hs]; rfl
theorem sub_loop (l m : List Int) (hl : Sized l) (hm : Sized m) (hll : l.length ≤ 1048576) (hmm : m.length ≤ l.length) (hle : valW m ≤ valW l) (d : Nat) : ∀ (i bo : Nat) (out : List Int), i + d = l.length → out.length = l.length → Sized out → bo ≤ 1 →
    valW (l.take i) + bo * pw i = valW (out.take i) + valW (m.take i) → Ev (fun k => nat_Nat_Sub.l0 k out (bo : Int) l (l.length : Int) (i : Int) m) (toW (valW l - valW m), true) := by
  induction d with
  | zero =>
    intro i bo out hi hol hos hb he
    obtain rfl : i = l.length := by omega
    have ht := trim_ev out hos (by omega)
    have hlt := valW_lt hos
    rw [hol] at hlt
    rw [List.take_length, List.take_of_length_le (l := m) hmm, List.take_of_length_le (l := out) (by omega)] at he
    have hv : valW out = valW l - valW m := by
      rcases Nat.le_one_iff_eq_zero_or_eq_one.1 hb with rfl | rfl <;> omega
    rw [hv] at ht
    have c1 : ¬ ((l.length : Nat) : Int) < (l.length : Int) := by omega
    exact Ev.step (fun k => by simp only [nat_Nat_Sub.l0]; rw [if_neg c1]) (Ev.bind (f := fun _ t => some (t, true)) ht (Ev.now _))
  | succ d ih =>
    intro i bo out hi hol hos hb he
    have gx := hl.gw i
    have gy := hm.gw i
    obtain ⟨x, hx⟩ := Int.eq_ofNat_of_zero_le gx.1
    obtain ⟨y, hy⟩ := Int.eq_ofNat_of_zero_le gy.1
    rw [hx] at gx
    rw [hy] at gy
    have hx4 : x < 4294967296 := by omega
    have hy4 : y < 4294967296 := by omega
    have hil : i < l.length := by omega
    have hio : i < out.length := by omega
    have i1 : i + 1 + d = l.length := by omega
    have ex := valW_snoc' l i
    have ey := valW_snoc' m i
    rw [hx, Int.toNat_natCast] at ex
    rw [hy, Int.toNat_natCast] at ey
    by_cases hs : x < y + bo
    · have hz : (0 : Int) ≤ ((x + 4294967296 - y - bo : Nat) : Int) ∧ ((x + 4294967296 - y - bo : Nat) : Int) < 4294967296 := by omega
      have hzz : x + 1 * 4294967296 = (x + 4294967296 - y - bo) + y + bo := by omega
      refine Ev.step (fun k => (sub_round l m i bo x y out hx hy hx4 hy4 hb hil hll hol k).trans (if_pos hs)) (ih (i + 1) 1 _ i1 (by rw [List.length_set]; exact hol) (hos.set _ hz) (by omega) ?_)
      rw [ex, ey, valW_set_snoc hio, Int.toNat_natCast, pw_succ]
      exact sub_eq he hzz
    · have hz : (0 : Int) ≤ ((x - y - bo : Nat) : Int) ∧ ((x - y - bo : Nat) : Int) < 4294967296 := by omega
      have hzz : x + 0 * 4294967296 = (x - y - bo) + y + bo := by omega
      refine Ev.step (fun k => (sub_round l m i bo x y out hx hy hx4 hy4 hb hil hll hol k).trans (if_neg hs)) (ih (i + 1) 0 _ i1 (by rw [List.length_set]; exact hol) (hos.set _ hz) (by omega) ?_)
      rw [ex, ey, valW_set_snoc hio, Int.toNat_natCast, pw_succ]
      exact sub_eq he hzz
theorem toW_len_mono {a b : Nat} (h : b ≤ a) : (toW b).length ≤ (toW a).length := toW_len_le _ _ (Nat.lt_of_le_of_lt h (toW_lt a))
theorem Sub_ev (a b : Nat) (h : b ≤ a) (ha : (toW a).length ≤ 1000) : Ev (fun k => nat_Nat_Sub.f k (toW a) (toW b)) (toW (a - b), true) := by
  have hl := sub_loop (toW a) (toW b) (toW_sized a) (toW_sized b) (by omega) (toW_len_mono h) (by rw [valW_toW, valW_toW]; exact h) (toW a).length 0 0 (List.replicate (toW a).length 0) (by omega) (by simp) (Sized.zeros _) (by omega) (by simp [valW_nil])
  rw [valW_toW, valW_toW] at hl
  have c0 : ¬ cmpN a b < 0 := by rw [cmpN_lt]; omega
  have c1 : (0 : Int) ≤ ((toW a).length : Int) := Int.natCast_nonneg _
  have c2 : (toW a).length ≤ 70368744177664 := by omega
  refine Ev.congr (fun k => ?_) hl
  unfold nat_Nat_Sub.f
  rw [Cmp_toW]
  refine (Option.bind_some _ _).trans ?_
  refine (if_neg c0).trans ?_
  refine (if_pos c1).trans ?_
  rw [Int.toNat_natCast]
  exact if_pos c2
end Go.Proofs.Yteejcpbngnojkaa.P
end
section
namespace Go.Proofs.Yteejcpbngnojkaa.P
open Go.RowKit Go.Proofs.YteejcpbngnojkaaW.PrintWords Go.Proofs.YteejcpbngnojkaaW.PrintLast Go.Proofs.YteejcpbngnojkaaW.PrintMore
open Go.Proofs.Yteejcpbngnojkaa.Num
set_option linter.unusedVariables false
theorem Ev.same {α : Type} {g : Nat → Option α} {r : α} (h : ∀ k, g k = some r) : Ev g r := ⟨0, fun k _ => h k⟩
theorem CmpE (a b : Nat) : Ev (fun k => nat_Nat_Cmp.f k (toW a) (toW b)) (cmpN a b) := Ev.same fun k => Cmp_toW k a b
theorem AddE (a b : Nat) (ha : (toW a).length < 1000) (hb : (toW b).length < 1000) : Ev (fun k => nat_Nat_Add.f k (toW a) (toW b)) (toW (a + b)) := Ev.same fun k => Add_toW k a b ha hb
theorem cmpN_self (a : Nat) : cmpN a a = 0 := cmpN_eq.2 rfl
theorem len_of {n m : Nat} (h : n < pw m) : (toW n).length ≤ m := toW_len_le m n h
theorem lt_add {a b m : Nat} (ha : a < pw m) (hb : b < pw m) : a + b < pw (m + 1) := by rw [pw_succ]; omega
theorem lt_mul {a b m n : Nat} (ha : a < pw m) (hb : b < pw n) : a * b < pw (m + n) := by rw [pw_add]; exact Nat.mul_lt_mul'' ha hb
end Go.Proofs.Yteejcpbngnojkaa.P
end
section
namespace Go.Proofs.Yteejcpbngnojkaa.Pure
open Go.RowKit Go.Proofs.Yteejcpbngnojkaa.P Go.Proofs.YteejcpbngnojkaaW.PrintWords Go.Proofs.YteejcpbngnojkaaW.PrintLast Go.Proofs.YteejcpbngnojkaaW.PrintMore
open Go.Proofs.Yteejcpbngnojkaa.Num
set_option linter.unusedVariables false
theorem bytes_of_wf {l : List Int} (h : ∀ x ∈ l, (Lit.int .u8 x).wf = true) : Bytes l := fun x hx => by
  have := h x hx
  simp [Lit.wf, IntKind.min, IntKind.max, IntKind.bits, IntKind.signed] at this
  omega
theorem rules_j0 (a b c : Nat) (ha : a < pw 12) (hb : b < pw 12) (hc : c < pw 12) : Ev (fun k => sacristylaw01_NatRules.j0 k false (toW a) (toW b) (toW c)) true := by
  have la := len_of ha
  have lb := len_of hb
  have lc := len_of hc
  have lab := len_of (lt_mul ha hb)
  have lac := len_of (lt_mul ha hc)
  have lbc := len_of (lt_mul hb hc)
  have lsc := len_of (lt_add hb hc)
  have e1 : cmpN (a * b * c) (a * (b * c)) = 0 := by rw [Nat.mul_assoc]; exact cmpN_self _
  have e2 : (cmpN (a * (b + c)) (a * b + a * c) == 0) = true := by rw [Nat.mul_add, cmpN_self]; rfl
  refine Ev.step (f := fun k => (nat_Nat_Mul.f k (toW a) (toW b)).bind fun t1098 => ((nat_Nat_Mul.f k t1098 (toW c)).bind fun t1101 => ((nat_Nat_Mul.f k (toW b) (toW c)).bind fun t1104 => ((nat_Nat_Mul.f k (toW a) t1104).bind fun t1107 => ((nat_Nat_Cmp.f k t1101 t1107).bind fun t1110 => (if t1110 = 0 then ((nat_Nat_Add.f k (toW b) (toW c)).bind fun t1111 => ((nat_Nat_Mul.f k (toW a) t1111).bind fun t1114 => ((nat_Nat_Mul.f k (toW a) (toW b)).bind fun t1117 => ((nat_Nat_Mul.f k (toW a) (toW c)).bind fun t1120 => ((nat_Nat_Add.f k t1117 t1120).bind fun t1123 => ((nat_Nat_Cmp.f k t1114 t1123).bind fun t1126 => (some (t1126 == 0)))))))) else (none))))))) (fun k => ?_) ?_
  · simp only [sacristylaw01_NatRules.j0]
    exact if_neg (by decide)
  · refine Ev.bind (Mul_ev a b (by omega) (by omega)) ?_
    refine Ev.bind (Mul_ev (a * b) c (by omega) (by omega)) ?_
    refine Ev.bind (Mul_ev b c (by omega) (by omega)) ?_
    refine Ev.bind (Mul_ev a (b * c) (by omega) (by omega)) ?_
    refine Ev.bind (CmpE (a * b * c) (a * (b * c))) ?_
    refine Ev.congr (fun k => if_pos e1) ?_
    refine Ev.bind (AddE b c (by omega) (by omega)) ?_
    refine Ev.bind (Mul_ev a (b + c) (by omega) (by omega)) ?_
    refine Ev.bind (Mul_ev a b (by omega) (by omega)) ?_
    refine Ev.bind (Mul_ev a c (by omega) (by omega)) ?_
    refine Ev.bind (AddE (a * b) (a * c) (by omega) (by omega)) ?_
    have := Ev.bind (f := fun _ t => some (t == 0)) (CmpE (a * (b + c)) (a * b + a * c)) (Ev.now _)
    rwa [e2] at this
theorem NatRules : sacristylaw01_NatRules.Pure := by
  intro l0 l1 l2 _ _ b0 _ _ b1 _ _ b2
  have B0 := bytes_of_wf b0
  have B1 := bytes_of_wf b1
  have B2 := bytes_of_wf b2
  refine Ev.rounds ?_
  unfold sacristylaw01_NatRules.f
  refine Ev.bind lives_ev ?_
  refine Ev.congr (fun k => if_pos rfl) ?_
  have la := num48_W _ B0
  have lb := num48_W _ B1
  have lc := num48_W _ B2
  have na := Num_ev _ B0
  have nb := Num_ev _ B1
  have nc := Num_ev _ B2
  have ha12 := num48_lt _ B0
  have hb12 := num48_lt _ B1
  have hc12 := num48_lt _ B2
  generalize num48 l0 = a at *
  generalize num48 l1 = b at *
  generalize num48 l2 = c at *
  have hj := rules_j0 a b c ha12 hb12 hc12
  have lab := len_of (lt_add ha12 hb12)
  have lbc := len_of (lt_add hb12 hc12)
  have hs := Sub_ev (a + b) b (by omega) (by omega)
  rw [Nat.add_sub_cancel] at hs
  have e1 : cmpN (a + b) (b + a) = 0 := by rw [Nat.add_comm]; exact cmpN_self _
  have e2 : cmpN (a * b) (b * a) = 0 := by rw [Nat.mul_comm]; exact cmpN_self _
  have e3 : (cmpN (a + b + c) (a + (b + c)) != 0) = false := by rw [Nat.add_assoc, cmpN_self]; rfl
  refine Ev.bind na ?_
  refine Ev.bind nb ?_
  refine Ev.bind nc ?_
  refine Ev.bind (AddE a b (by omega) (by omega)) ?_
  refine Ev.bind hs ?_
  refine Ev.congr (fun k => if_pos rfl) ?_
  refine Ev.bind (CmpE a a) ?_
  refine Ev.congr (fun k => if_pos (cmpN_self a)) ?_
  refine Ev.bind (AddE a b (by omega) (by omega)) ?_
  refine Ev.bind (AddE b a (by omega) (by omega)) ?_
  refine Ev.bind (CmpE (a + b) (b + a)) ?_
  refine Ev.congr (fun k => if_pos e1) ?_
  refine Ev.bind (Mul_ev a b (by omega) (by omega)) ?_
  refine Ev.bind (Mul_ev b a (by omega) (by omega)) ?_
  refine Ev.bind (CmpE (a * b) (b * a)) ?_
  refine Ev.congr (fun k => if_pos e2) ?_
  refine Ev.bind (AddE a b (by omega) (by omega)) ?_
  refine Ev.bind (AddE (a + b) c (by omega) (by omega)) ?_
  refine Ev.bind (AddE b c (by omega) (by omega)) ?_
  refine Ev.bind (AddE a (b + c) (by omega) (by omega)) ?_
  refine Ev.bind (CmpE (a + b + c) (a + (b + c))) ?_
  exact Ev.congr (fun k => by rw [e3]) hj
end Go.Proofs.Yteejcpbngnojkaa.Pure
end
section
namespace Go.Proofs.Yteejcpbngnojkaa.Head
open Go
def hd : List Char := ['h', 'a', 'r', 'n', 'e', 's', 's']
def sm : List Char := ['1', '8', 'e', 'b', '4', '4', '3', '4', '8', '7', 'b', 'c', 'a', 'd', 'e', '8', '1', '4', '1', 'e', '3', 'b', 'e', '1', '8', '2', '5', '9', '4', '4', '6', '3', 'a', '2', 'd', 'e', 'd', '6', 'd', 'a', 'e', 'b', 'f', 'a', '9', 'e', 'f', '2', 'e', '8', '6', '2', '7', '8', '6', 'b', '2', '1', '5', '3', 'b', 'd', '8', '1']
def ct : List Char := ['c', 'u', 't']
def rs : List Char := ['a', 't', ' ', 's', 'a', 'c', 'r', 'i', 's', 't', 'y', '/', 's', 'a', 'c', 'r', 'i', 's', 't', 'y', 'l', 'a', 'w', '0', '5', '.', 'S', 't', 'r', 'e', 'a', 'm', 'B', 'l', 'o', 'c', 'k', 's', ' ', 's', 'a', 'c', 'r', 'i', 's', 't', 'y', '/', 's', 'a', 'c', 'r', 'i', 's', 't', 'y', 'l', 'a', 'w', '0', '5', '.', 'S', 't', 'r', 'e', 'a', 'm', 'X', 'o', 'r', 's', ' ', 's', 'a', 'c', 'r', 'i', 's', 't', 'y', '/', 's', 'a', 'c', 'r', 'i', 's', 't', 'y', 'l', 'a', 'w', '0', '5', '.', 'S', 't', 'r', 'e', 'a', 'm', 'B', 'a', 'c', 'k', ' ', 's', 'a', 'c', 'r', 'i', 's', 't', 'y', '/', 's', 'a', 'c', 'r', 'i', 's', 't', 'y', 'l', 'a', 'w', '0', '5', '.', 'S', 't', 'r', 'e', 'a', 'm', 'P', 'a', 'r', 't', 's', ' ', 's', 'a', 'c', 'r', 'i', 's', 't', 'y', '/', 's', 'a', 'c', 'r', 'i', 's', 't', 'y', 'l', 'a', 'w', '0', '1', '.', 'N', 'a', 't', 'B', 'y', 't', 'e', 's', ' ', 's', 'a', 'c', 'r', 'i', 's', 't', 'y', '/', 's', 'a', 'c', 'r', 'i', 's', 't', 'y', 'l', 'a', 'w', '0', '1', '.', 'N', 'a', 't', 'B', 'i', 't', 's', ' ', 's', 'a', 'c', 'r', 'i', 's', 't', 'y', '/', 's', 'a', 'c', 'r', 'i', 's', 't', 'y', 'l', 'a', 'w', '0', '7', '.', 'B', 'o', 'x', 'B', 'a', 'c', 'k', ' ', 's', 'a', 'c', 'r', 'i', 's', 't', 'y', '/', 's', 'a', 'c', 'r', 'i', 's', 't', 'y', 'l', 'a', 'w', '0', '1', '.', 'N', 'a', 't', 'G', 'c', 'd', 's', ' ', 's', 'a', 'c', 'r', 'i', 's', 't', 'y', '/', 's', 'a', 'c', 'r', 'i', 's', 't', 'y', 'l', 'a', 'w', '0', '1', '.', 'N', 'a', 't', 'S', 'm', 'a', 'l', 'l', ' ', 's', 'a', 'c', 'r', 'i', 's', 't', 'y', '/', 's', 'a', 'c', 'r', 'i', 's', 't', 'y', 'l', 'a', 'w', '0', '7', '.', 'B', 'o', 'x', 'S', 'h', 'o', 'r', 't', ' ', 's', 'a', 'c', 'r', 'i', 's', 't', 'y', '/', 's', 'a', 'c', 'r', 'i', 's', 't', 'y', 'l', 'a', 'w', '0', '1', '.', 'N', 'a', 't', 'P', 'r', 'o', 'd', 'u', 'c', 't', 's', ' ', 's', 'a', 'c', 'r', 'i', 's', 't', 'y', '/', 's', 'a', 'c', 'r', 'i', 's', 't', 'y', 'l', 'a', 'w', '0', '1', '.', 'N', 'a', 't', 'B', 'a', 'c', 'k', ' ', 's', 'a', 'c', 'r', 'i', 's', 't', 'y', '/', 's', 'a', 'c', 'r', 'i', 's', 't', 'y', 'l', 'a', 'w', '0', '1', '.', 'N', 'a', 't', 'O', 'r', 'd', 'e', 'r', 's', ' ', 's', 'a', 'c', 'r', 'i', 's', 't', 'y', '/', 's', 'a', 'c', 'r', 'i', 's', 't', 'y', 'l', 'a', 'w', '0', '1', '.', 'N', 'a', 't', 'S', 'u', 'm', 's', ' ', 's', 'a', 'c', 'r', 'i', 's', 't', 'y', '/', 's', 'a', 'c', 'r', 'i', 's', 't', 'y', 'l', 'a', 'w', '0', '1', '.', 'N', 'a', 't', 'R', 'u', 'l', 'e', 's', ' ', 's', 'a', 'c', 'r', 'i', 's', 't', 'y', '/', 's', 'a', 'c', 'r', 'i', 's', 't', 'y', 'l', 'a', 'w', '0', '6', '.', 'T', 'a', 'g', 'T', 'a', 'g', 's', ' ', 's', 'a', 'c', 'r', 'i', 's', 't', 'y', '/', 's', 'a', 'c', 'r', 'i', 's', 't', 'y', 'l', 'a', 'w', '0', '6', '.', 'T', 'a', 'g', 'N', 'o', 'n', 'e', ' ', 's', 'a', 'c', 'r', 'i', 's', 't', 'y', '/', 's', 'a', 'c', 'r', 'i', 's', 't', 'y', 'l', 'a', 'w', '0', '6', '.', 'T', 'a', 'g', 'A', 'd', 'd', 's', ' ', 's', 'a', 'c', 'r', 'i', 's', 't', 'y', '/', 's', 'a', 'c', 'r', 'i', 's', 't', 'y', 'l', 'a', 'w', '0', '2', '.', 'M', 'o', 'd', 'S', 'u', 'm', 's', ' ', 's', 'a', 'c', 'r', 'i', 's', 't', 'y', '/', 's', 'a', 'c', 'r', 'i', 's', 't', 'y', 'l', 'a', 'w', '0', '8', '.', 'C', 'e', 'r', 't', 'S', 'm', 'a', 'l', 'l', 's', ' ', 's', 'a', 'c', 'r', 'i', 's', 't', 'y', '/', 's', 'a', 'c', 'r', 'i', 's', 't', 'y', 'l', 'a', 'w', '0', '8', '.', 'C', 'e', 'r', 't', 'F', 'r', 'o', 'n', 't', 's', ' ', 's', 'a', 'c', 'r', 'i', 's', 't', 'y', '/', 's', 'a', 'c', 'r', 'i', 's', 't', 'y', 'l', 'a', 'w', '0', '8', '.', 'C', 'e', 'r', 't', 'C', 'h', 'e', 'c', 'k', 's', ' ', 's', 'a', 'c', 'r', 'i', 's', 't', 'y', '/', 's', 'a', 'c', 'r', 'i', 's', 't', 'y', 'l', 'a', 'w', '0', '8', '.', 'C', 'e', 'r', 't', 'P', 'r', 'i', 'm', 'e', 's', ' ', 's', 'a', 'c', 'r', 'i', 's', 't', 'y', '/', 's', 'a', 'c', 'r', 'i', 's', 't', 'y', 'l', 'a', 'w', '0', '7', '.', 'B', 'o', 'x', 'S', 'e', 'a', 'l', 's', ' ', 's', 'a', 'c', 'r', 'i', 's', 't', 'y', '/', 's', 'a', 'c', 'r', 'i', 's', 't', 'y', 'l', 'a', 'w', '0', '7', '.', 'B', 'o', 'x', 'O', 'p', 'e', 'n', 's']
set_option maxRecDepth 100000 in
theorem init_chars : Try.prog.initOrder.toList = hd ++ ' ' :: (sm ++ ' ' :: (ct ++ ' ' :: rs)) :=
  (String.toList_ofList : (String.ofList (hd ++ ' ' :: (sm ++ ' ' :: (ct ++ ' ' :: rs)))).toList = _)
theorem words_cons (a r : List Char) (h : ∀ c ∈ a, c ≠ ' ') : wordsSigns (a ++ ' ' :: r) = a :: wordsSigns r := by
  induction a with
  | nil => rfl
  | cons c a ih =>
    have hc : c ≠ ' ' := h c List.mem_cons_self
    have := ih fun x hx => h x (List.mem_cons_of_mem _ hx)
    rw [List.cons_append, wordsSigns.eq_3 _ _ (fun e => hc e), this]
theorem init_words : ∃ r, wordsSigns Try.prog.initOrder.toList = hd :: sm :: ct :: r := by
  refine ⟨wordsSigns rs, ?_⟩
  rw [init_chars, words_cons _ _ (by decide), words_cons _ _ (by decide), words_cons _ _ (by decide)]
theorem behind (r : List (List Char)) : behindMainWord (hd :: sm :: ct :: r) = ct :: r := by
  unfold behindMainWord
  dsimp only
  rw [if_pos (by decide +kernel)]
theorem init_behind : ∃ r, behindMainWord (wordsSigns Try.prog.initOrder.toList) = ct :: r := by
  obtain ⟨r, h⟩ := init_words
  exact ⟨r, by rw [h, behind]⟩
theorem strip (os : List String) (h : ∀ o ∈ os, (ct == o.toList) = false) (r : List (List Char)) : stripLifts os (ct :: r) = ([], ct :: r) := by
  induction os with
  | nil => rfl
  | cons o os ih =>
    rw [stripLifts, h o List.mem_cons_self]
    exact ih fun x hx => h x (List.mem_cons_of_mem _ hx)
theorem strip_lifts (r : List (List Char)) : stripLifts liftWords (ct :: r) = ([], ct :: r) := strip _ (by decide +kernel) r
section
variable (P : Program) (r : List (List Char)) (h : behindMainWord (wordsSigns P.initOrder.toList) = ct :: r)
include h
theorem head_lifts_of : P.headLifts = [] := by
  unfold Program.headLifts
  rw [h, strip_lifts]
  dsimp only
  split <;> rfl
theorem may_enter_of (h1 : P.laysLater = false) (h2 : P.bearsReflect = false) (h3 : P.doorFits [] = true) : P.mayEnter = true := by
  unfold Program.mayEnter
  rw [h]
  dsimp only
  rw [strip_lifts, h1, h2, h3]
  have h4 : (some ct == some "cut".toList) = true := by decide +kernel
  rw [List.head?_cons, h4]
  simp
theorem lifts_final_of : P.liftsFinal = false := by
  unfold Program.liftsFinal
  rw [head_lifts_of P r h]
  dsimp only
  rw [h]
  have h4 : (some ct == some "carried".toList) = false := by decide +kernel
  rw [List.head?_cons, h4]
  rfl
theorem make_cut_of : P.make = some .cut := by
  unfold Program.make
  rw [h]
  dsimp only
  rw [if_neg (by decide +kernel), if_pos (by rw [show (ct == "cut".toList) = true by decide +kernel]; rfl)]
end
theorem lays_later : Try.prog.laysLater = false := by kernel_rfl
theorem bears_reflect : Try.prog.bearsReflect = false := by kernel_rfl
theorem door_fits : Try.prog.doorFits [] = true := by kernel_rfl
theorem may_enter : Try.prog.mayEnter = true := by
  obtain ⟨r, h⟩ := init_behind
  exact may_enter_of _ r h lays_later bears_reflect door_fits
theorem lifts_final : Try.prog.liftsFinal = false := by
  obtain ⟨r, h⟩ := init_behind
  exact lifts_final_of _ r h
theorem make_cut : Try.prog.make = some .cut := by
  obtain ⟨r, h⟩ := init_behind
  exact make_cut_of _ r h
end Go.Proofs.Yteejcpbngnojkaa.Head
end
section
namespace Go.Proofs.YteejcpbngnojkaaW.PrintWords
open Go.ChangeShapes Go.WideShapes
theorem sized_ints {H : Type} {enc : TypeId × Value → H} {P : Program} {W : World} {base : Nat} {spare : Nat → Bool} {held : Bool} {t e : TypeId} {k : IntKind} {a : Option Addr} {len cap : Nat} {d : DataW H} {ps : List MemPlace} {ts : List TypeId} {ds : List (DataW H)} {j : Nat}
    (hsz : (DataW.weightsEach P ts ds).all (· ≤ reachBytes) = true) (ht : ts[j]? = some t) (hd : ds[j]? = some d) (hu : P.underlying t = some (.slice e)) (he : P.underlying e = some (.int k)) (hc : P.cellsOf e = 1) {B : Nat} (hB : P.bytesOf e = B)
    (h : DataW.Trod enc P W base spare held t (.slice a len cap) d ps) : len * B ≤ 140737488351232 := by
  obtain ⟨fuel, hf⟩ := h
  rcases open_ints hu he hc hf with ⟨hcs, _⟩ | ⟨x, l, c, zs, hcs, _, hl, _, hz, hx, _, _⟩
  · simp [Value.cells] at hcs
    obtain ⟨rfl, rfl, rfl⟩ := hcs
    simp
  · simp [Value.cells] at hcs
    obtain ⟨rfl, rfl, rfl⟩ := hcs
    obtain ⟨hx, _⟩ := Prod.mk.inj hx
    subst hx
    have z := sized_slice hsz ht hd hu
    rw [hB] at z
    have hl2 : len ≤ zs.length := by
      rw [hz]
      split
      · exact hl
      · exact Nat.le_refl _
    have h1 : (lits (H := H) k (zs.take len)).length + (lits (H := H) k (zs.drop len)).length = zs.length := by
      simp [lits]
      omega
    rw [h1] at z
    exact Nat.le_trans (Nat.mul_le_mul_right _ hl2) z
end Go.Proofs.YteejcpbngnojkaaW.PrintWords
end
