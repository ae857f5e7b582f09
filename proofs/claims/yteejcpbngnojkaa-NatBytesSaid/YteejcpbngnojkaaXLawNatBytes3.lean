/- Part of the proof: the walks and the plain arithmetic, in line (wip/tools/pack.py). -/
import Derived.Test.YteejcpbngnojkaaXLawNatBytes2
import Derived.Lib.Bytes
import Derived.Test.YteejcpbngnojkaaRows
import Derived.WalkKit
import Derived.ProofKit
import Derived.SizedLaws
import Derived.ChangeSlices
section
namespace Go.Proofs.Yteejcpbngnojkaa.P
open Go.RowKit Go.Shelf Go.Proofs.YteejcpbngnojkaaW.PrintWords Go.Proofs.YteejcpbngnojkaaW.PrintLast Go.Proofs.YteejcpbngnojkaaW.PrintMore
open Go.Proofs.Yteejcpbngnojkaa.Num
set_option linter.unusedVariables false
def nat_Nat_Div.f (_k : Nat) (l0_0 : List Int) (l1_0 : List Int) : Option (List Int × List Int × Int) :=
  if canonB l0_0 && canonB l1_0 && decide (l0_0.length ≤ 1048576) && decide (l1_0.length ≤ 1048576) then (if valW l1_0 = 0 then some ([], [], 5) else some (toW (valW l0_0 / valW l1_0), toW (valW l0_0 % valW l1_0), 0)) else none
theorem nat_Nat_Div.mono : ∀ a0 a1 k, LeO (nat_Nat_Div.f k a0 a1) (nat_Nat_Div.f (k + 1) a0 a1) := fun _ _ _ => LeO.refl _
theorem four_new (w : World) (o0 o1 o2 o3 : Obj) : ((((w.alloc o0).alloc o1).alloc o2).alloc o3).heap[w.heap.size]? = some o0 ∧ ((((w.alloc o0).alloc o1).alloc o2).alloc o3).heap[w.heap.size + 1]? = some o1 ∧ ((((w.alloc o0).alloc o1).alloc o2).alloc o3).heap[w.heap.size + 1 + 1]? = some o2 ∧ ((((w.alloc o0).alloc o1).alloc o2).alloc o3).heap[w.heap.size + 1 + 1 + 1]? = some o3 ∧ Below w.heap.size w ((((w.alloc o0).alloc o1).alloc o2).alloc o3) := by
  refine ⟨blk_alloc (blk_alloc (blk_alloc (blk_new w o0) _) _) _, ?_, ?_, ?_, ?_⟩
  · refine blk_alloc (blk_alloc ?_ _) _
    have := blk_new (w.alloc o0) o1
    simpa only [World.size_alloc] using this
  · refine blk_alloc ?_ _
    have := blk_new ((w.alloc o0).alloc o1) o2
    simpa only [World.size_alloc] using this
  · have := blk_new (((w.alloc o0).alloc o1).alloc o2) o3
    simpa only [World.size_alloc] using this
  · exact ((((Below.refl _ w).alloc (Nat.le_refl _) _).alloc (by simp) _).alloc (by simp; omega) _).alloc (by simp; omega) _
theorem two_end {w W : World} {va vb : Value} (m2 : W.heap[w.heap.size + 1 + 1]? = some (.cells #[.slice none 0 0] 38 (0, 0))) (m3 : W.heap[w.heap.size + 1 + 1 + 1]? = some (.cells #[.slice none 0 0] 38 (0, 0))) (hB : Below w.heap.size w W) (Wf : World)
    (hW : (W.setCell ⟨w.heap.size + 1 + 1, 0, none⟩ va).setCell ⟨w.heap.size + 1 + 1 + 1, 0, none⟩ vb = Wf) :
    Wf.heap[w.heap.size + 1 + 1]? = some (.cells #[va] 38 (0, 0)) ∧ Wf.heap[w.heap.size + 1 + 1 + 1]? = some (.cells #[vb] 38 (0, 0)) ∧ Below w.heap.size w Wf ∧ ∀ (b : Nat) (ok ok' : Nat → Prop) (v : Value) (xs : List Int), Kd.V (Kd.int .u32) 23 W b ok v xs → (∀ k, ok k → (k ≠ w.heap.size + 1 + 1 ∧ k ≠ w.heap.size + 1 + 1 + 1) ∧ ok' k) → Kd.V (Kd.int .u32) 23 Wf w.heap.size ok' v xs := by
  subst hW
  refine ⟨(Below.heap_setCell _ _ _ _ (by show w.heap.size + 1 + 1 ≠ w.heap.size + 1 + 1 + 1; omega)).trans (blk_put m2 0 _ rfl), blk_put ((Below.heap_setCell _ _ _ _ (by show w.heap.size + 1 + 1 + 1 ≠ w.heap.size + 1 + 1; omega)).trans m3) 0 _ rfl,
    (hB.setCell (p := ⟨w.heap.size + 1 + 1, 0, none⟩) (by show w.heap.size ≤ w.heap.size + 1 + 1; omega) _).setCell (p := ⟨w.heap.size + 1 + 1 + 1, 0, none⟩) (by show w.heap.size ≤ w.heap.size + 1 + 1 + 1; omega) _, fun b ok ok' v xs hv ho => ?_⟩
  exact Kd.V_mono (Kd.V_far (Kd.V_far hv (fun k hk => (ho k hk).1.1) _) (fun k hk => (ho k hk).1.2) _) (fun k hk => (ho k hk).2)
set_option maxRecDepth 100000 in
set_option maxHeartbeats 4000000 in
theorem nat_Nat_Div.calls_z (P0_0_ : Nat → Prop) (A0_0 : Option Addr) (c0_0 : Nat) (l0_0 : List Int) (A1_0 : Option Addr) (c1_0 : Nat) (l1_0 : List Int) (w : World) (hs0_0 : Kd.V (Kd.int .u32) 23 w w.heap.size (fun k_ => P0_0_ k_) (.slice A0_0 l0_0.length c0_0) l0_0) (hr1_0 : Kd.C (Kd.int .u32) w A1_0 l1_0.length l1_0) (hc1_0 : l1_0.length ≤ c1_0) (hz : l1_0.length = 0) :
    Calls Try.prog 53 #[.agg #[.slice A0_0 l0_0.length c0_0], .agg #[.slice A1_0 l1_0.length c1_0]] w fun e w' => ∃ v0_ v1_ : Value, e = .returned (.tuple #[.agg #[v0_], .agg #[v1_], (.int .i64 5)]) ∧ Kd.V (Kd.int .u32) 23 w' w.heap.size (fun k_ => (P0_0_ k_ ∨ w.heap.size ≤ k_)) v0_ [] ∧ Kd.V (Kd.int .u32) 23 w' w.heap.size (fun k_ => (P0_0_ k_ ∨ w.heap.size ≤ k_)) v1_ [] ∧ Below w.heap.size w w' := by
  have V0 := Aside0.mk (Kd.V_bound hs0_0)
  have C1 := Aside0.mk hr1_0
  have hc1 := Aside0.mk hc1_0
  clear hs0_0 hr1_0 hc1_0
  obtain ⟨k0, k1, k2, k3, B⟩ := four_new w (.cells #[.slice A0_0 l0_0.length c0_0] 38) (.cells #[.slice A1_0 l1_0.length c1_0] 38) (.cells #[.slice none 0 0] 38) (.cells #[.slice none 0 0] 38)
  have V1 := Aside0.mk (Kd.V_alloc (Kd.V_alloc (Kd.V_alloc (Kd.V_alloc V0.out (.cells #[.slice A0_0 l0_0.length c0_0] 38)) (.cells #[.slice A1_0 l1_0.length c1_0] 38)) (.cells #[.slice none 0 0] 38)) (.cells #[.slice none 0 0] 38))
  have C2 := Aside0.mk (Kd.C_below C1.out B)
  have hzb : ((l1_0.length : Int) == 0) = true := by rw [hz]; rfl
  replace hz := Aside0.mk hz
  go_enter Try.func53, Try.ntmps53
  go_wp2_with (go_at_call 44; refine (nat_Nat_Zero.calls _ _ l1_0 _ _ C2.out hc1.out rfl).mono ?_; rintro e w1 ⟨rfl, hb⟩; replace k0 := (hb.block _ (blk_lt k0)).trans k0; replace k1 := (hb.block _ (blk_lt k1)).trans k1; replace k2 := (hb.block _ (blk_lt k2)).trans k2; replace k3 := (hb.block _ (blk_lt k3)).trans k3; replace V1 := Aside0.mk (Kd.V_below V1.out hb); replace C2 := Aside0.mk (Kd.C_below C2.out hb); replace B := below_step B hb; clear hb; have q0 : World.cell? _ ⟨w.heap.size, 0, none⟩ = some (.slice A0_0 l0_0.length c0_0) := blk_cell k0 0; have q1 : World.cell? _ ⟨w.heap.size + 1, 0, none⟩ = some (.slice A1_0 l1_0.length c1_0) := blk_cell k1 0; have q2 : World.cell? _ ⟨w.heap.size + 1 + 1, 0, none⟩ = some (.slice none 0 0) := blk_cell k2 0; have q3 : World.cell? _ ⟨w.heap.size + 1 + 1 + 1, 0, none⟩ = some (.slice none 0 0) := blk_cell k3 0; have f2 := blk_frozen k2 0; have f3 := blk_frozen k3 0)
  obtain ⟨e2, e3, y1, y2⟩ := two_end k2 k3 B _ rfl
  refine bodyPost_ret (results_list (rs := [.cell 4 38, .cell 5 38, .tmp 6]) rfl (by simp) (.cell _ 38 _ (0, 0) _ rfl e2 Try.underlying38 rfl (by kernel_rfl) (.cell _ 38 _ (0, 0) _ rfl e3 Try.underlying38 rfl (by kernel_rfl) (.tmp .nil)))) rfl ?_
  exact ⟨_, _, rfl, Kd.V_nil _ _ _ _ _, Kd.V_nil _ _ _ _ _, y1⟩
set_option maxRecDepth 100000 in
set_option maxHeartbeats 4000000 in
theorem nat_Nat_Div.calls_l (k : Nat) (c : Int) (P0_0_ : Nat → Prop) (A0_0 : Option Addr) (c0_0 : Nat) (l0_0 : List Int) (A1_0 : Option Addr) (c1_0 : Nat) (l1_0 : List Int) (w : World) (hs0_0 : Kd.V (Kd.int .u32) 23 w w.heap.size (fun k_ => P0_0_ k_) (.slice A0_0 l0_0.length c0_0) l0_0) (hr1_0 : Kd.C (Kd.int .u32) w A1_0 l1_0.length l1_0) (hc1_0 : l1_0.length ≤ c1_0) (hz : ¬ l1_0.length = 0) (hc : nat_Nat_Cmp.f k l0_0 l1_0 = some c) (hneg : c < 0) :
    Calls Try.prog 53 #[.agg #[.slice A0_0 l0_0.length c0_0], .agg #[.slice A1_0 l1_0.length c1_0]] w fun e w' => ∃ v0_ v1_ : Value, e = .returned (.tuple #[.agg #[v0_], .agg #[v1_], (.int .i64 0)]) ∧ Kd.V (Kd.int .u32) 23 w' w.heap.size (fun k_ => (P0_0_ k_ ∨ w.heap.size ≤ k_)) v0_ [] ∧ Kd.V (Kd.int .u32) 23 w' w.heap.size (fun k_ => (P0_0_ k_ ∨ w.heap.size ≤ k_)) v1_ l0_0 ∧ Below w.heap.size w w' := by
  have V0 := Aside0.mk (Kd.V_bound hs0_0)
  have C1 := Aside0.mk hr1_0
  have hc1 := Aside0.mk hc1_0
  clear hs0_0 hr1_0 hc1_0
  obtain ⟨k0, k1, k2, k3, B⟩ := four_new w (.cells #[.slice A0_0 l0_0.length c0_0] 38) (.cells #[.slice A1_0 l1_0.length c1_0] 38) (.cells #[.slice none 0 0] 38) (.cells #[.slice none 0 0] 38)
  have V1 := Aside0.mk (Kd.V_alloc (Kd.V_alloc (Kd.V_alloc (Kd.V_alloc V0.out (.cells #[.slice A0_0 l0_0.length c0_0] 38)) (.cells #[.slice A1_0 l1_0.length c1_0] 38)) (.cells #[.slice none 0 0] 38)) (.cells #[.slice none 0 0] 38))
  have C2 := Aside0.mk (Kd.C_below C1.out B)
  have hzb : ((l1_0.length : Int) == 0) = false := beq_eq_false_iff_ne.2 (by omega)
  replace hc := Aside0.mk hc
  replace hz := Aside0.mk hz
  have hmx : Try.prog.follows .mixedOrders = true := by kernel_rfl
  have hnb : decide (c < 0) = true := decide_eq_true hneg
  go_enter Try.func53, Try.ntmps53
  go_wp2_with (first | (go_at_call 44; refine (nat_Nat_Zero.calls _ _ l1_0 _ _ C2.out hc1.out rfl).mono ?_; rintro e w1 ⟨rfl, hb⟩; replace k0 := (hb.block _ (blk_lt k0)).trans k0; replace k1 := (hb.block _ (blk_lt k1)).trans k1; replace k2 := (hb.block _ (blk_lt k2)).trans k2; replace k3 := (hb.block _ (blk_lt k3)).trans k3; replace V1 := Aside0.mk (Kd.V_below V1.out hb); replace C2 := Aside0.mk (Kd.C_below C2.out hb); replace B := below_step B hb; clear hb; have q0 : World.cell? _ ⟨w.heap.size, 0, none⟩ = some (.slice A0_0 l0_0.length c0_0) := blk_cell k0 0; have q1 : World.cell? _ ⟨w.heap.size + 1, 0, none⟩ = some (.slice A1_0 l1_0.length c1_0) := blk_cell k1 0; have q2 : World.cell? _ ⟨w.heap.size + 1 + 1, 0, none⟩ = some (.slice none 0 0) := blk_cell k2 0; have q3 : World.cell? _ ⟨w.heap.size + 1 + 1 + 1, 0, none⟩ = some (.slice none 0 0) := blk_cell k3 0; have f2 := blk_frozen k2 0; have f3 := blk_frozen k3 0) | (go_at_call 45; refine (nat_Nat_Cmp.calls k _ _ l0_0 _ _ l1_0 c _ (Kd.V_reads' V1.out).2.2 (Kd.V_reads' V1.out).2.1 C2.out hc1.out hc.out).mono ?_; rintro e w2 ⟨rfl, hb⟩; replace k0 := (hb.block _ (blk_lt k0)).trans k0; replace k1 := (hb.block _ (blk_lt k1)).trans k1; replace k2 := (hb.block _ (blk_lt k2)).trans k2; replace k3 := (hb.block _ (blk_lt k3)).trans k3; replace V1 := Aside0.mk (Kd.V_below V1.out hb); replace C2 := Aside0.mk (Kd.C_below C2.out hb); replace B := below_step B hb; clear hb; have q0 : World.cell? _ ⟨w.heap.size, 0, none⟩ = some (.slice A0_0 l0_0.length c0_0) := blk_cell k0 0; have q1 : World.cell? _ ⟨w.heap.size + 1, 0, none⟩ = some (.slice A1_0 l1_0.length c1_0) := blk_cell k1 0; have q2 : World.cell? _ ⟨w.heap.size + 1 + 1, 0, none⟩ = some (.slice none 0 0) := blk_cell k2 0; have q3 : World.cell? _ ⟨w.heap.size + 1 + 1 + 1, 0, none⟩ = some (.slice none 0 0) := blk_cell k3 0; have f2 := blk_frozen k2 0; have f3 := blk_frozen k3 0))
  go_region
  all_goals go_wp2
  obtain ⟨e2, e3, y1, y2⟩ := two_end (w := w) (W := w2) (va := .slice none 0 0) (vb := .slice A0_0 l0_0.length c0_0) k2 k3 B _ rfl
  refine bodyPost_ret (results_list (rs := [.cell 4 38, .cell 5 38, .tmp 6]) rfl (by simp) (.cell _ 38 _ (0, 0) _ rfl e2 Try.underlying38 rfl (by kernel_rfl) (.cell _ 38 _ (0, 0) _ rfl e3 Try.underlying38 rfl (by kernel_rfl) (.tmp .nil)))) rfl ?_
  exact ⟨_, _, rfl, Kd.V_nil _ _ _ _ _, Kd.V_drew (y2 _ _ _ _ _ V1.out (fun k_ hk => ⟨⟨by have := hk.2; omega, by have := hk.2; omega⟩, .inl hk.1⟩)), y1.drew⟩
theorem nat_Nat_Div.calls (k : Nat) (P0_0_ : Nat → Prop) (A0_0 : Option Addr) (c0_0 : Nat) (l0_0 : List Int) (A1_0 : Option Addr) (c1_0 : Nat) (l1_0 : List Int) (r1 : List Int) (r2 : List Int) (r3 : Int) (w : World) (hs0_0 : Kd.V (Kd.int .u32) 23 w w.heap.size (fun k_ => P0_0_ k_) (.slice A0_0 l0_0.length c0_0) l0_0) (hr1_0 : Kd.C (Kd.int .u32) w A1_0 l1_0.length l1_0) (hc1_0 : l1_0.length ≤ c1_0) (h : nat_Nat_Div.f k l0_0 l1_0 = some (r1, r2, r3)) :
    Calls Try.prog 53 #[.agg #[.slice A0_0 l0_0.length c0_0], .agg #[.slice A1_0 l1_0.length c1_0]] w fun e w' => ∃ v0_ v1_ : Value, e = .returned (.tuple #[.agg #[v0_], .agg #[v1_], .int .i64 r3]) ∧ Kd.V (Kd.int .u32) 23 w' w.heap.size (fun k_ => (P0_0_ k_ ∨ w.heap.size ≤ k_)) v0_ r1 ∧ Kd.V (Kd.int .u32) 23 w' w.heap.size (fun k_ => (P0_0_ k_ ∨ w.heap.size ≤ k_)) v1_ r2 ∧ Below w.heap.size w w' := by
  unfold nat_Nat_Div.f at h
  by_cases hg : (canonB l0_0 && canonB l1_0 && decide (l0_0.length ≤ 1048576) && decide (l1_0.length ≤ 1048576)) = true
  · rw [if_pos hg] at h
    simp only [Bool.and_eq_true, decide_eq_true_eq] at hg
    obtain ⟨⟨⟨g0, g1⟩, g2⟩, g3⟩ := hg
    have e0 := canonB_eq g0
    have e1 := canonB_eq g1
    by_cases hB : valW l1_0 = 0
    · rw [if_pos hB] at h
      cases h
      exact nat_Nat_Div.calls_z P0_0_ A0_0 c0_0 l0_0 A1_0 c1_0 l1_0 w hs0_0 hr1_0 hc1_0 ((canonB_nil g1).1 hB)
    · rw [if_neg hB] at h
      cases h
      have hl : ¬ l1_0.length = 0 := fun e => hB ((canonB_nil g1).2 e)
      by_cases hlt : valW l0_0 < valW l1_0
      · have hc : nat_Nat_Cmp.f 0 l0_0 l1_0 = some (cmpN (valW l0_0) (valW l1_0)) := by
          have := Cmp_toW 0 (valW l0_0) (valW l1_0)
          rwa [e0, e1] at this
        have hcal := nat_Nat_Div.calls_l 0 _ P0_0_ A0_0 c0_0 l0_0 A1_0 c1_0 l1_0 w hs0_0 hr1_0 hc1_0 hl hc (cmpN_lt.2 hlt)
        rw [Nat.div_eq_of_lt hlt, Nat.mod_eq_of_lt hlt, toW_zero, e0]
        exact hcal
      · obtain ⟨K, hK⟩ := (g_ev (valW l0_0) (valW l1_0) (by omega) (by rw [e0]; exact g2) (by rw [e1]; exact g3)).rounds
        rw [e0, e1] at hK
        have hz : nat_Nat_Zero.f l1_0 = some false := by
          have := Zero_toW (valW l1_0)
          rw [e1] at this
          rw [this]
          simp [hB]
        have hn : ∀ t, nat_Nat_Cmp.f K l0_0 l1_0 = some t → ¬ t < 0 := by
          intro t ht hneg
          have := Cmp_toW K (valW l0_0) (valW l1_0)
          rw [e0, e1, ht] at this
          cases this
          exact hlt (cmpN_lt.1 hneg)
        have hr0 := Kd.V_reads' hs0_0
        by_cases h1 : (l1_0.length : Int) = 1
        · refine (nat_Nat_Div.calls_o K A0_0 c0_0 l0_0 A1_0 c1_0 l1_0 _ _ _ w hr0.2.2 hr0.2.1 hr1_0 hc1_0 hz hn h1 hK).mono ?_
          rintro e w' ⟨v0, v1, he, hv0, hv1, hb⟩
          exact ⟨v0, v1, he, Kd.V_mono hv0 (fun _ hk => .inr hk), Kd.V_mono hv1 (fun _ hk => .inr hk), hb⟩
        · refine (nat_Nat_Div.calls_k K A0_0 c0_0 l0_0 A1_0 c1_0 l1_0 _ _ _ w hr0.2.2 hr0.2.1 hr1_0 hc1_0 hz hn h1 hK).mono ?_
          rintro e w' ⟨v0, v1, he, hv0, hv1, hb⟩
          exact ⟨v0, v1, he, Kd.V_mono hv0 (fun _ hk => .inr hk), Kd.V_mono hv1 (fun _ hk => .inr hk), hb⟩
  · rw [if_neg hg] at h
    cases h
end Go.Proofs.Yteejcpbngnojkaa.P
end
section
namespace Go.Proofs.Yteejcpbngnojkaa.P
open Go.RowKit Go.Proofs.YteejcpbngnojkaaW.PrintWords Go.Proofs.YteejcpbngnojkaaW.PrintLast Go.Proofs.YteejcpbngnojkaaW.PrintMore
attribute [local go_sem] max2_int min2_int max_two min_two max_three min_three max_four min_four
set_option linter.unusedVariables false
set_option linter.unusedSimpArgs false
def sacristyref01_Small.l0 : Nat → Int → List Bool → Option (List Bool)
 |0,_,_ => none
 |k + 1,x0,x3 => if x0 > 0 then (if x3.length < 140737488355328 then (sacristyref01_Small.l0 k (IntKind.u64.wrap (Int.tdiv x0 2)) (x3 ++ [((Int.tmod x0 2) == 1)])) else (none)) else (some x3)
def sacristyref01_Small.f (k : Nat) (a0 : Int) : Option (List Bool):=sacristyref01_Small.l0 k a0 (([] : List Bool))
theorem sacristyref01_Small.mono_l : ∀ k,(∀ y0 y1,LeO (sacristyref01_Small.l0 k y0 y1) (sacristyref01_Small.l0 (k + 1) y0 y1))
 |0 => fun _ _ r h => by simp [sacristyref01_Small.l0] at h
 |k + 1 => by
  have ih0:=sacristyref01_Small.mono_l k
  ·intro y0 y1
   unfold sacristyref01_Small.l0
   repeat' first
   |(with_reducible exact ih0 _ _)
   |(with_reducible exact LeO.refl _)
   |(with_reducible exact LeO.none _)
   |(with_reducible refine LeO.ite ?_ ?_)
   |(with_reducible refine LeO.bind ?_ (fun _ => ?_))
   |exact ih0 _ _
   |exact LeO.none _
   |refine LeO.ite ?_ ?_
   |refine LeO.bind ?_ (fun _ => ?_)
theorem sacristyref01_Small.mono : ∀ a0 k,LeO (sacristyref01_Small.f k a0) (sacristyref01_Small.f (k + 1) a0):=by
 intro a0 k
 have ih0:=sacristyref01_Small.mono_l k
 unfold sacristyref01_Small.f
 repeat' first
   |(with_reducible exact ih0 _ _)
   |(with_reducible exact LeO.refl _)
   |(with_reducible exact LeO.none _)
   |(with_reducible refine LeO.ite ?_ ?_)
   |(with_reducible refine LeO.bind ?_ (fun _ => ?_))
   |exact ih0 _ _
   |exact LeO.none _
   |refine LeO.ite ?_ ?_
   |refine LeO.bind ?_ (fun _ => ?_)
set_option maxHeartbeats 8000000 in
set_option maxRecDepth 100000 in
theorem sacristyref01_Small.calls (k : Nat) (a0 : Int) (r : List Bool) (w : World) (h : sacristyref01_Small.f k a0 = some r) :
  Calls Try.prog 56 #[.int .u64 a0] w fun e w' => ∃ v0_ : Value,e = .returned (v0_) ∧ Kd.R Kd.bool 4 w' w.heap.size (fun _ => True) v0_ r ∧ Below w.heap.size w w':=by
 have HB:=Aside0.mk (Below.refl w.heap.size w)
 have H : (sacristyref01_Small.l0 k a0 (([] : List Bool))) = some r:=h
 clear h
 obtain ⟨y414,hy414⟩ : ∃ y_ : List Bool,y_ = (([] : List Bool)):=⟨_,rfl⟩
 replace H : (sacristyref01_Small.l0 k a0 y414) = some r:=by first|(rw [hy414];with_reducible exact H)|(have H2_:=(Option.bind_some _ _).symm.trans H;rw [hy414];with_reducible exact H2_)|(have H2_:=(Option.bind_some _ _).symm.trans H;with_reducible exact H2_)|with_reducible exact H|(rw [hy414];exact H)|exact H
 have Ny414:=Aside0.mk hy414
 clear hy414
 have H':=Aside0.mk H
 clear H
 go_enter Try.func56,Try.ntmps56
 go_wp2_with (first|((with_reducible refine gate_dst (N:=4) rfl ?_);refine Kd.R_lit Kd.bool _ 4 ?hg (N:=4) ?hd (xs:=([] : List Bool)) (inner:=[]) (ok:=fun _ => True) (okp:=fun _ => True) ?hr ?hp (fun _ hk => hk) trivial (Below.refl _ _) (Nat.le_refl _) (by simp) ?_;(case hd => rfl);(case hg => rfl);(case hr => first|(go_simp;done)|(go_simp;rfl));(case hp => exact (Reps.none _ _));intro v415 w2 ho3 hb hg_ hnew_;clear hg_ hnew_;(first|rw [← Ny414.out] at ho3|(simp only [Int.reduceToNat] at ho3;rw [← Ny414.out] at ho3));have HO416:=Aside0.mk (Kd.R_lower ho3 (below_size (qS HB)));replace HB:=qs HB hb;clear hb ho3))
 go_loopg [0,3] k (fun kq v0 v3 w' => ∃ (x0_1 : Int) (x3_1 : List Bool),v0 = .int .u64 x0_1 ∧ Aside0 (sacristyref01_Small.l0 kq x0_1 x3_1 = some r) ∧ Aside0 (kq ≤ k) ∧ Aside0 (Kd.R Kd.bool 4 w' w.heap.size (fun _ => True) v3 x3_1) ∧ Aside0 (Below w.heap.size w w'))
 case atStart => exact ⟨(a0),(y414),(by first|rfl|(simp;done)|(simp [*];done)),H',⟨Nat.le_refl _⟩,⟨qRm HO416⟩,⟨qS HB⟩⟩
 case round =>
  clear H'
  try clear p2
  obtain ⟨x0_1,x3_1,rfl,HA,HK1,HO_3,HB⟩:=hrel
  cases gk with
  |zero => exact absurd HA.out (by simp [sacristyref01_Small.l0])
  |succ k1 =>
   have H:=HA.out
   clear HA
   simp only [sacristyref01_Small.l0] at H
   by_cases c4 : x0_1 > 0
   ·rw [if_pos c4] at H
    have c4b0 : decide (0 < x0_1) = true:=decide_eq_true c4
    clear c4
    by_cases c5 : x3_1.length < 140737488355328
    ·rw [if_pos c5] at H
     have LMc5:=Aside0.mk c5
     clear c5
     obtain ⟨y417,hy417⟩ : ∃ y_ : List Bool,y_ = (x3_1 ++ [((Int.tmod x0_1 2) == 1)]):=⟨_,rfl⟩
     replace H : (sacristyref01_Small.l0 k1 (IntKind.u64.wrap (Int.tdiv x0_1 2)) y417) = some r:=by first|(rw [hy417];with_reducible exact H)|(have H2_:=(Option.bind_some _ _).symm.trans H;rw [hy417];with_reducible exact H2_)|(have H2_:=(Option.bind_some _ _).symm.trans H;with_reducible exact H2_)|with_reducible exact H|(rw [hy417];exact H)|exact H
     have Ny417:=Aside0.mk hy417
     clear hy417
     have H':=Aside0.mk H
     clear H
     go_wp2_with (first|((with_reducible refine gate_builtin (b:=.append) (xs:=#[.tmp 7,.tmp 11]) rfl ?_);at_builtin;refine Kd.R_append Kd.bool (w0:=w) w.heap.size rfl (.tmp 7) (.tmp 11) 42 4 (.bool false) 1 rfl Try.underlying42 info4 rfl (by decide) (by omega) u3 x3_1 ((Int.tmod x0_1 2) == 1) [.bool ((Int.tmod x0_1 2) == 1)] (fun _ => True) (fun _ => False) rfl rfl ?aP (fun _ hk => hk.elim) ?aF ?aO ?aB ?aS ?aL ?_;(case aP => exact rfl);(case aB => exact (qS HB));(case aF => exact (fun _ _ => trivial));(case aO => exact (qRm HO_3));(case aS => exact (below_size (qS HB)));(case aL => have:=LMc5.out;omega);intro v418 w6 ho hb hg hat;rw [← Ny417.out] at ho;replace HB:=Aside0.mk (hb);have HO419:=Aside0.mk (ho);(try clear HO_3);clear ho hb hg hat))
     go_roundg k1
     case measure => have:=HK1.out;omega
     case rel => exact ⟨(IntKind.u64.wrap (Int.tdiv x0_1 2)),(y417),(by first|rfl|(simp;done)|(simp [*];done)),H',⟨by have:=HK1.out;omega⟩,⟨qRm HO419⟩,⟨qS HB⟩⟩
    ·rw [if_neg c5] at H
     exact absurd H (by simp)
   ·rw [if_neg c4] at H
    have c4b0 : decide (0 < x0_1) = false:=decide_eq_false c4
    clear c4
    obtain rfl:=Option.some.inj H
    go_wp2
    (first|go_ret|(refine ⟨_,results_tmp rfl _ _ _,?_⟩))
    exact ⟨_,by first|rfl|(simp [errW_none,errW_some] <;> rfl)|(simp [*,errW_none,errW_some] <;> rfl),qRm HO_3,qS HB⟩
end Go.Proofs.Yteejcpbngnojkaa.P
end
section
namespace Go.Proofs.Yteejcpbngnojkaa.P
open Go.RowKit Go.Proofs.YteejcpbngnojkaaW.PrintWords Go.Proofs.YteejcpbngnojkaaW.PrintLast Go.Proofs.YteejcpbngnojkaaW.PrintMore
attribute [local go_sem] max2_int min2_int max_two min_two max_three min_three max_four min_four
set_option linter.unusedVariables false
set_option linter.unusedSimpArgs false
def sacristylaw01_lives.f (k : Nat)  : Option (Bool):=(nat_New.f k 7).bind fun t420 => ((nat_New.f k 2).bind fun t423 => ((nat_Nat_Div.f k t420 t423).bind fun bt426 => (if bt426.2.2 = 0 then ((sacristyref01_Small.f k 3).bind fun t435 => ((sacristylaw01_Same.f k bt426.1 t435).bind fun t438 => (if t438 = true then ((sacristyref01_Small.f k 1).bind fun t439 => ((sacristylaw01_Same.f k bt426.2.1 t439).bind fun t442 => (some t442))) else (some false)))) else (some false))))
theorem sacristylaw01_lives.mono : ∀ k,LeO (sacristylaw01_lives.f k ) (sacristylaw01_lives.f (k + 1) ):=by
 intro  k
 unfold sacristylaw01_lives.f
 repeat' first
   |(with_reducible exact nat_Nat_Div.mono _ _ _)
   |(with_reducible exact nat_New.mono _ _)
   |(with_reducible exact sacristylaw01_Same.mono _ _ _)
   |(with_reducible exact sacristyref01_Small.mono _ _)
   |(with_reducible exact LeO.refl _)
   |(with_reducible exact LeO.none _)
   |(with_reducible refine LeO.ite ?_ ?_)
   |(with_reducible refine LeO.bind ?_ (fun _ => ?_))
   |exact nat_Nat_Div.mono _ _ _
   |exact nat_New.mono _ _
   |exact sacristylaw01_Same.mono _ _ _
   |exact sacristyref01_Small.mono _ _
   |exact LeO.none _
   |refine LeO.ite ?_ ?_
   |refine LeO.bind ?_ (fun _ => ?_)
def sacristylaw01_lives.T2 : Bool × List (List Nat × List Nat):=(true,[([],[]),([0],[0]),([1],[1]),([2],[2]),([2,2],[2]),([3,4,4,2],[2,3,4]),([2,5],[2,5]),([6,5],[6]),([7],[7]),([7,7],[7]),([8,9,9,7],[7,8,9]),([7,10],[7,10]),([11,10,0,1,2,3,4,5,6,7,8,9,10,11],[11])])
def sacristylaw01_lives.B2 : List Nat:=[0,1,3,7,7,31,63,127,255,255,1023,2047,4095]
theorem sacristylaw01_lives.tab2 : rtab .any (opsOf Try.f34 2) = sacristylaw01_lives.T2:=by kernel_rfl
theorem sacristylaw01_lives.bits2 : waitsOk sacristylaw01_lives.T2.2 sacristylaw01_lives.B2 = true:=by kernel_rfl
set_option maxHeartbeats 8000000 in
set_option maxRecDepth 100000 in
theorem sacristylaw01_lives.calls (k : Nat)  (r : Bool) (w : World) (h : sacristylaw01_lives.f k  = some r) :
  Calls Try.prog 34 #[] w fun e w' => e = .returned (.bool r) ∧ Below w.heap.size w w':=by
 have hu38:=Try.underlying38
 have HB:=Aside0.mk (Below.refl w.heap.size w)
 have H : ((nat_New.f k 7).bind fun t420 => ((nat_New.f k 2).bind fun t423 => ((nat_Nat_Div.f k t420 t423).bind fun bt426 => (if bt426.2.2 = 0 then ((sacristyref01_Small.f k 3).bind fun t435 => ((sacristylaw01_Same.f k bt426.1 t435).bind fun t438 => (if t438 = true then ((sacristyref01_Small.f k 1).bind fun t439 => ((sacristylaw01_Same.f k bt426.2.1 t439).bind fun t442 => (some t442))) else (some false)))) else (some false))))) = some r:=h
 clear h
 obtain ⟨t420,A1,H⟩:=qH H
 obtain ⟨t423,A2,H⟩:=qH H
 obtain ⟨⟨t426,t429,t432⟩,A3,H⟩:=qH H
 dsimp only at H
 by_cases c4 : t432 = 0
 ·rw [if_pos c4] at H
  have c4b0 : (t432 == 0) = true:=beq_iff_eq.mpr c4
  have c4b1 : (t432 != 0) = false:=bne_eq_false_iff_eq.mpr c4
  clear c4
  obtain ⟨t435,A5,H⟩:=qH H
  obtain ⟨t438,A6,H⟩:=qH H
  by_cases c7 : t438 = true
  ·subst c7
   rw [if_pos rfl] at H
   obtain ⟨t439,A8,H⟩:=qH H
   obtain ⟨t442,A9,H⟩:=qH H
   obtain rfl:=Option.some.inj H
   go_enter Try.func34,Try.ntmps34
   try go_wp2_with (first|((with_reducible refine gate_callee (f:=54) rfl ?_);refine gL (some 5) Try.func54 #[.int .u64 7] ?_;(with_reducible refine (nat_New.calls k 7 t420 _ A1.out).mono ?_);rintro e w10 ⟨v421,rfl,ho0,hb⟩;refine ⟨_,rfl,?_⟩;have HO422:=Aside0.mk (Kd.V_lower (Kd.V_mono (ok':=fun k_ => True) ho0 (fun k_ hk_ => trivial)) (below_size (qS HB)));replace HB:=qs HB hb;clear hb ho0)|((with_reducible refine gate_callee (f:=54) rfl ?_);refine gL (some 6) Try.func54 #[.int .u64 2] ?_;(with_reducible refine (nat_New.calls k 2 t423 _ A2.out).mono ?_);rintro e w11 ⟨v424,rfl,ho0,hb⟩;refine ⟨_,rfl,?_⟩;replace HO422:=qVb HO422 hb;have HO425:=Aside0.mk (Kd.V_lower (Kd.V_mono (ok':=fun k_ => True) ho0 (fun k_ hk_ => trivial)) (below_size (qS HB)));replace HB:=qs HB hb;clear hb ho0;obtain ⟨Ao12,co12,eo12⟩:=Kd.V_slice HO422.out;subst eo12;obtain ⟨Ao13,co13,eo13⟩:=Kd.V_slice HO425.out;subst eo13)|((with_reducible refine gate_callee (f:=53) rfl ?_);refine gL (some 7) Try.func53 #[.agg #[.slice Ao12 t420.length co12],.agg #[.slice Ao13 t423.length co13]] ?_;(with_reducible refine (nat_Nat_Div.calls k (fun k_ => True) _ _ t420 _ _ t423 t426 t429 t432 _ ?side1 ?side2 ?side3 A3.out).mono ?_);(case side1 => first|exact HO422.out|exact qVm HO422);(case side2 => exact qCV HO425);(case side3 => exact qL HO425);rintro e w14 ⟨v427,v430,rfl,ho0,ho1,hb⟩;refine ⟨_,rfl,?_⟩;replace HO422:=qVb HO422 hb;replace HO425:=qVb HO425 hb;have HO428:=Aside0.mk (Kd.V_lower (Kd.V_mono (ok':=fun k_ => True) ho0 (fun k_ hk_ => trivial)) (below_size (qS HB)));have HO431:=Aside0.mk (Kd.V_lower (Kd.V_mono (ok':=fun k_ => True) ho1 (fun k_ hk_ => trivial)) (below_size (qS HB)));replace HB:=qs HB hb;clear hb ho0 ho1)|((with_reducible refine gate_dst (N:=1) rfl ?_);refine qX #[.slice none 0 0] 38 ?_;intro gb433 hg w15 hbox hb;replace HO422:=qVe HO422 hb hg;replace HO425:=qVe HO425 hb hg;replace HO428:=qVe HO428 hb hg;replace HO431:=qVe HO431 hb hg;have BK433:=Aside0.mk hbox;have GE433:=qh hg HB;replace HB:=qs HB hb;clear hb hbox hg)|((with_reducible refine gate_dst (N:=2) rfl ?_);refine qX #[.slice none 0 0] 38 ?_;intro gb434 hg w16 hbox hb;replace HO422:=qVe HO422 hb hg;replace HO425:=qVe HO425 hb hg;replace HO428:=qVe HO428 hb hg;replace HO431:=qVe HO431 hb hg;have BK434:=Aside0.mk hbox;have GE434:=qh hg HB;replace HB:=qs HB hb;have NB433_434:=ql hg BK433;have NB434_433:=qg hg BK433;replace BK433:=qb BK433 hb;clear hb hbox hg;obtain ⟨Ao17,co17,eo17⟩:=Kd.V_slice HO428.out;subst eo17;have hnb18:=NB433_434.out;have hnc18:=NB434_433.out;have hcz19_0:=bc BK433;have hfz19_0:=bz BK433;obtain ⟨Ao20,co20,eo20⟩:=Kd.V_slice HO431.out;subst eo20;have hcz21_0:=bc BK434;have hfz21_0:=bz BK434))
   generalize hw : ((w16.setCell ⟨gb433,0,none⟩ (.slice Ao17 t426.length co17)).setCell ⟨gb434,0,none⟩ (.slice Ao20 t429.length co20)) = w22
   replace hw:=hw.symm
   replace HO422:=qVh hw HO422
   replace HO425:=qVh hw HO425
   replace HO428:=qVh hw HO428
   replace HO431:=qVh hw HO431
   replace BK433:=qBp hw BK433
   replace BK434:=qBp hw BK434
   replace HB:=qSh hw HB
   clear hw
   replace HO422:=qVw HO422
   replace HO425:=qVw HO425
   replace HO428:=qVw HO428
   replace HO431:=qVw HO431
   replace BK433:=qbd BK433
   replace BK434:=qbd BK434
   replace HB:=qsd HB
   refine start_ (n:=13) (S:=fun w' => w'.cell? ⟨gb433,0,none⟩ = some (.slice Ao17 t426.length co17) ∧ w'.cell? ⟨gb434,0,none⟩ = some (.slice Ao20 t429.length co20)) (ds:=[]) #[false,false,false,false,false,false,false,false,false,false,false,false,false] (by kernel_rfl) rfl rfl ⟨bc BK433,bc BK434⟩ (fun hHeld => ?_);refine with_tabW sacristylaw01_lives.tab2 sacristylaw01_lives.bits2 (fun HT_ HW_ => ?_)
   generalize w22.drew = w23 at HO422 HO425 HO428 HO431 BK433 BK434 HB hHeld ⊢
   refine qP 0 11 HT_ ?_
   refine qP 1 12 HT_ ?_
   refine qP 2 13 HT_ ?_
   refine qT 3 14 HT_ HW_ hHeld ?_
   refine q1 4 (some 15) HT_ rfl (fun K hK => ?_)
   refine g_ Try.func56 #[.int .u64 3] ?_
   with_reducible refine (sacristyref01_Small.calls k 3 t435 _ A5.out).mono ?_
   rintro e w24 ⟨v436,rfl,ho0,hb⟩
   refine ⟨_,rfl,?_⟩
   replace HO422:=qVd HO422 ho0 hb
   replace HO425:=qVd HO425 ho0 hb
   replace HO428:=qVd HO428 ho0 hb
   replace HO431:=qVd HO431 ho0 hb
   have HO437:=Aside0.mk (Kd.R_lower ho0 (below_size (qS HB)))
   replace BK433:=qb BK433 hb
   replace BK434:=qb BK434 hb
   replace HB:=qs HB hb
   clear hb ho0
   obtain ⟨Ao25,co25,eo25⟩:=Kd.R_slice HO437.out
   (first|subst eo25|(injection eo25 with f1_ f2_ f3_;have f4_:=f1_.symm;have f5_:=f3_.symm;clear f1_ f2_ f3_;subst f4_;subst f5_))
   refine hK.out _ _ ⟨bc BK433,bc BK434⟩ (fun hHeld => ?_)
   clear hK K
   refine qO 15 ?_
   refine q1 5 (some 16) HT_ rfl (fun K hK => ?_)
   refine g_ Try.func37 #[.agg #[.slice Ao17 t426.length co17],.slice Ao25 t435.length co25] ?_
   with_reducible refine (sacristylaw01_Same.calls k _ _ t426 _ _ t435 true _ ?side1 ?side2 ?side3 ?side4 A6.out).mono ?_
   (case side1 => exact qCV HO428)
   (case side2 => exact qL HO428)
   (case side3 => exact qCR HO437)
   (case side4 => exact qLR HO437)
   rintro e w26 ⟨rfl,hb⟩
   refine ⟨_,rfl,?_⟩
   replace HO422:=qVb HO422 hb
   replace HO425:=qVb HO425 hb
   replace HO428:=qVb HO428 hb
   replace HO431:=qVb HO431 hb
   replace HO437:=qRb HO437 hb
   replace BK433:=qb BK433 hb
   replace BK434:=qb BK434 hb
   replace HB:=qs HB hb
   clear hb
   refine hK.out _ _ ⟨bc BK433,bc BK434⟩ (fun hHeld => ?_)
   clear hK K
   refine qO 16 ?_
   refine qP 6 17 HT_ ?_
   refine qP 7 18 HT_ ?_
   refine qT 8 19 HT_ HW_ hHeld ?_
   refine q1 9 (some 20) HT_ rfl (fun K hK => ?_)
   refine g_ Try.func56 #[.int .u64 1] ?_
   with_reducible refine (sacristyref01_Small.calls k 1 t439 _ A8.out).mono ?_
   rintro e w27 ⟨v440,rfl,ho0,hb⟩
   refine ⟨_,rfl,?_⟩
   replace HO422:=qVd HO422 ho0 hb
   replace HO425:=qVd HO425 ho0 hb
   replace HO428:=qVd HO428 ho0 hb
   replace HO431:=qVd HO431 ho0 hb
   have HO441:=Aside0.mk (Kd.R_lower (Kd.R_new' ho0 (Kd.R_lt (qRm HO437))) (below_size (qS HB)))
   replace HO437:=qRd HO437 ho0 hb
   replace BK433:=qb BK433 hb
   replace BK434:=qb BK434 hb
   replace HB:=qs HB hb
   clear hb ho0
   obtain ⟨Ao28,co28,eo28⟩:=Kd.R_slice HO441.out
   (first|subst eo28|(injection eo28 with f1_ f2_ f3_;have f4_:=f1_.symm;have f5_:=f3_.symm;clear f1_ f2_ f3_;subst f4_;subst f5_))
   refine hK.out _ _ ⟨bc BK433,bc BK434⟩ (fun hHeld => ?_)
   clear hK K
   refine qO 20 ?_
   refine q1 10 (some 21) HT_ rfl (fun K hK => ?_)
   refine g_ Try.func37 #[.agg #[.slice Ao20 t429.length co20],.slice Ao28 t439.length co28] ?_
   with_reducible refine (sacristylaw01_Same.calls k _ _ t429 _ _ t439 t442 _ ?side1 ?side2 ?side3 ?side4 A9.out).mono ?_
   (case side1 => exact qCV HO431)
   (case side2 => exact qL HO431)
   (case side3 => exact qCR HO441)
   (case side4 => exact qLR HO441)
   rintro e w29 ⟨rfl,hb⟩
   refine ⟨_,rfl,?_⟩
   replace HO422:=qVb HO422 hb
   replace HO425:=qVb HO425 hb
   replace HO428:=qVb HO428 hb
   replace HO431:=qVb HO431 hb
   replace HO437:=qRb HO437 hb
   replace HO441:=qRb HO441 hb
   replace BK433:=qb BK433 hb
   replace BK434:=qb BK434 hb
   replace HB:=qs HB hb
   clear hb
   refine hK.out _ _ ⟨bc BK433,bc BK434⟩ (fun hHeld => ?_)
   clear hK K
   refine qO 21 ?_
   refine qP 11 22 HT_ ?_
   refine qP 12 0 HT_ ?_
   refine qD HT_ ?_
   try go_wp2
   (first|go_ret|(refine ⟨_,results_tmp rfl _ _ _,?_⟩))
   exact ⟨by first|rfl|(simp [errW_none,errW_some] <;> rfl)|(simp [*,errW_none,errW_some] <;> rfl),qS HB⟩
  ·replace c7:=Bool.eq_false_iff.mpr c7
   subst c7
   rw [qFT] at H
   obtain rfl:=Option.some.inj H
   go_enter Try.func34,Try.ntmps34
   try go_wp2_with (first|((with_reducible refine gate_callee (f:=54) rfl ?_);refine gL (some 5) Try.func54 #[.int .u64 7] ?_;(with_reducible refine (nat_New.calls k 7 t420 _ A1.out).mono ?_);rintro e w30 ⟨v421,rfl,ho0,hb⟩;refine ⟨_,rfl,?_⟩;have HO422:=Aside0.mk (Kd.V_lower (Kd.V_mono (ok':=fun k_ => True) ho0 (fun k_ hk_ => trivial)) (below_size (qS HB)));replace HB:=qs HB hb;clear hb ho0)|((with_reducible refine gate_callee (f:=54) rfl ?_);refine gL (some 6) Try.func54 #[.int .u64 2] ?_;(with_reducible refine (nat_New.calls k 2 t423 _ A2.out).mono ?_);rintro e w31 ⟨v424,rfl,ho0,hb⟩;refine ⟨_,rfl,?_⟩;replace HO422:=qVb HO422 hb;have HO425:=Aside0.mk (Kd.V_lower (Kd.V_mono (ok':=fun k_ => True) ho0 (fun k_ hk_ => trivial)) (below_size (qS HB)));replace HB:=qs HB hb;clear hb ho0;obtain ⟨Ao32,co32,eo32⟩:=Kd.V_slice HO422.out;subst eo32;obtain ⟨Ao33,co33,eo33⟩:=Kd.V_slice HO425.out;subst eo33)|((with_reducible refine gate_callee (f:=53) rfl ?_);refine gL (some 7) Try.func53 #[.agg #[.slice Ao32 t420.length co32],.agg #[.slice Ao33 t423.length co33]] ?_;(with_reducible refine (nat_Nat_Div.calls k (fun k_ => True) _ _ t420 _ _ t423 t426 t429 t432 _ ?side1 ?side2 ?side3 A3.out).mono ?_);(case side1 => first|exact HO422.out|exact qVm HO422);(case side2 => exact qCV HO425);(case side3 => exact qL HO425);rintro e w34 ⟨v427,v430,rfl,ho0,ho1,hb⟩;refine ⟨_,rfl,?_⟩;replace HO422:=qVb HO422 hb;replace HO425:=qVb HO425 hb;have HO428:=Aside0.mk (Kd.V_lower (Kd.V_mono (ok':=fun k_ => True) ho0 (fun k_ hk_ => trivial)) (below_size (qS HB)));have HO431:=Aside0.mk (Kd.V_lower (Kd.V_mono (ok':=fun k_ => True) ho1 (fun k_ hk_ => trivial)) (below_size (qS HB)));replace HB:=qs HB hb;clear hb ho0 ho1)|((with_reducible refine gate_dst (N:=1) rfl ?_);refine qX #[.slice none 0 0] 38 ?_;intro gb433 hg w35 hbox hb;replace HO422:=qVe HO422 hb hg;replace HO425:=qVe HO425 hb hg;replace HO428:=qVe HO428 hb hg;replace HO431:=qVe HO431 hb hg;have BK433:=Aside0.mk hbox;have GE433:=qh hg HB;replace HB:=qs HB hb;clear hb hbox hg)|((with_reducible refine gate_dst (N:=2) rfl ?_);refine qX #[.slice none 0 0] 38 ?_;intro gb434 hg w36 hbox hb;replace HO422:=qVe HO422 hb hg;replace HO425:=qVe HO425 hb hg;replace HO428:=qVe HO428 hb hg;replace HO431:=qVe HO431 hb hg;have BK434:=Aside0.mk hbox;have GE434:=qh hg HB;replace HB:=qs HB hb;have NB433_434:=ql hg BK433;have NB434_433:=qg hg BK433;replace BK433:=qb BK433 hb;clear hb hbox hg;obtain ⟨Ao37,co37,eo37⟩:=Kd.V_slice HO428.out;subst eo37;have hnb38:=NB433_434.out;have hnc38:=NB434_433.out;have hcz39_0:=bc BK433;have hfz39_0:=bz BK433;obtain ⟨Ao40,co40,eo40⟩:=Kd.V_slice HO431.out;subst eo40;have hcz41_0:=bc BK434;have hfz41_0:=bz BK434))
   generalize hw : ((w36.setCell ⟨gb433,0,none⟩ (.slice Ao37 t426.length co37)).setCell ⟨gb434,0,none⟩ (.slice Ao40 t429.length co40)) = w42
   replace hw:=hw.symm
   replace HO422:=qVh hw HO422
   replace HO425:=qVh hw HO425
   replace HO428:=qVh hw HO428
   replace HO431:=qVh hw HO431
   replace BK433:=qBp hw BK433
   replace BK434:=qBp hw BK434
   replace HB:=qSh hw HB
   clear hw
   replace HO422:=qVw HO422
   replace HO425:=qVw HO425
   replace HO428:=qVw HO428
   replace HO431:=qVw HO431
   replace BK433:=qbd BK433
   replace BK434:=qbd BK434
   replace HB:=qsd HB
   refine start_ (n:=13) (S:=fun w' => w'.cell? ⟨gb433,0,none⟩ = some (.slice Ao37 t426.length co37)) (ds:=[]) #[false,false,false,false,false,false,false,false,false,false,false,false,false] (by kernel_rfl) rfl rfl (bc BK433) (fun hHeld => ?_);refine with_tabW sacristylaw01_lives.tab2 sacristylaw01_lives.bits2 (fun HT_ HW_ => ?_)
   generalize w42.drew = w43 at HO422 HO425 HO428 HO431 BK433 BK434 HB hHeld ⊢
   refine qP 0 11 HT_ ?_
   refine qP 1 12 HT_ ?_
   refine qP 2 13 HT_ ?_
   refine qT 3 14 HT_ HW_ hHeld ?_
   refine q1 4 (some 15) HT_ rfl (fun K hK => ?_)
   refine g_ Try.func56 #[.int .u64 3] ?_
   with_reducible refine (sacristyref01_Small.calls k 3 t435 _ A5.out).mono ?_
   rintro e w44 ⟨v436,rfl,ho0,hb⟩
   refine ⟨_,rfl,?_⟩
   replace HO422:=qVd HO422 ho0 hb
   replace HO425:=qVd HO425 ho0 hb
   replace HO428:=qVd HO428 ho0 hb
   replace HO431:=qVd HO431 ho0 hb
   have HO437:=Aside0.mk (Kd.R_lower ho0 (below_size (qS HB)))
   replace BK433:=qb BK433 hb
   replace BK434:=qb BK434 hb
   replace HB:=qs HB hb
   clear hb ho0
   obtain ⟨Ao45,co45,eo45⟩:=Kd.R_slice HO437.out
   (first|subst eo45|(injection eo45 with f1_ f2_ f3_;have f4_:=f1_.symm;have f5_:=f3_.symm;clear f1_ f2_ f3_;subst f4_;subst f5_))
   refine hK.out _ _ (bc BK433) (fun hHeld => ?_)
   clear hK K
   refine qO 15 ?_
   refine q1 5 (some 16) HT_ rfl (fun K hK => ?_)
   refine g_ Try.func37 #[.agg #[.slice Ao37 t426.length co37],.slice Ao45 t435.length co45] ?_
   with_reducible refine (sacristylaw01_Same.calls k _ _ t426 _ _ t435 false _ ?side1 ?side2 ?side3 ?side4 A6.out).mono ?_
   (case side1 => exact qCV HO428)
   (case side2 => exact qL HO428)
   (case side3 => exact qCR HO437)
   (case side4 => exact qLR HO437)
   rintro e w46 ⟨rfl,hb⟩
   refine ⟨_,rfl,?_⟩
   replace HO422:=qVb HO422 hb
   replace HO425:=qVb HO425 hb
   replace HO428:=qVb HO428 hb
   replace HO431:=qVb HO431 hb
   replace HO437:=qRb HO437 hb
   replace BK433:=qb BK433 hb
   replace BK434:=qb BK434 hb
   replace HB:=qs HB hb
   clear hb
   refine hK.out _ _ (bc BK433) (fun hHeld => ?_)
   clear hK K
   refine qO 16 ?_
   refine qP 6 17 HT_ ?_
   refine qP 7 18 HT_ ?_
   refine qU 8 19 HT_ ?_
   refine qU 9 20 HT_ ?_
   refine qU 10 21 HT_ ?_
   refine qP 11 22 HT_ ?_
   refine qP 12 0 HT_ ?_
   refine qD HT_ ?_
   try go_wp2
   (first|go_ret|(refine ⟨_,results_tmp rfl _ _ _,?_⟩))
   exact ⟨by first|rfl|(simp [errW_none,errW_some] <;> rfl)|(simp [*,errW_none,errW_some] <;> rfl),qS HB⟩
 ·rw [if_neg c4] at H
  have c4b0 : (t432 == 0) = false:=beq_eq_false_iff_ne.mpr c4
  have c4b1 : (t432 != 0) = true:=bne_iff_ne.mpr c4
  obtain rfl:=Option.some.inj H
  go_enter Try.func34,Try.ntmps34
  try go_wp2_with (first|((with_reducible refine gate_callee (f:=54) rfl ?_);refine gL (some 5) Try.func54 #[.int .u64 7] ?_;(with_reducible refine (nat_New.calls k 7 t420 _ A1.out).mono ?_);rintro e w47 ⟨v421,rfl,ho0,hb⟩;refine ⟨_,rfl,?_⟩;have HO422:=Aside0.mk (Kd.V_lower (Kd.V_mono (ok':=fun k_ => True) ho0 (fun k_ hk_ => trivial)) (below_size (qS HB)));replace HB:=qs HB hb;clear hb ho0)|((with_reducible refine gate_callee (f:=54) rfl ?_);refine gL (some 6) Try.func54 #[.int .u64 2] ?_;(with_reducible refine (nat_New.calls k 2 t423 _ A2.out).mono ?_);rintro e w48 ⟨v424,rfl,ho0,hb⟩;refine ⟨_,rfl,?_⟩;replace HO422:=qVb HO422 hb;have HO425:=Aside0.mk (Kd.V_lower (Kd.V_mono (ok':=fun k_ => True) ho0 (fun k_ hk_ => trivial)) (below_size (qS HB)));replace HB:=qs HB hb;clear hb ho0;obtain ⟨Ao49,co49,eo49⟩:=Kd.V_slice HO422.out;subst eo49;obtain ⟨Ao50,co50,eo50⟩:=Kd.V_slice HO425.out;subst eo50)|((with_reducible refine gate_callee (f:=53) rfl ?_);refine gL (some 7) Try.func53 #[.agg #[.slice Ao49 t420.length co49],.agg #[.slice Ao50 t423.length co50]] ?_;(with_reducible refine (nat_Nat_Div.calls k (fun k_ => True) _ _ t420 _ _ t423 t426 t429 t432 _ ?side1 ?side2 ?side3 A3.out).mono ?_);(case side1 => first|exact HO422.out|exact qVm HO422);(case side2 => exact qCV HO425);(case side3 => exact qL HO425);rintro e w51 ⟨v427,v430,rfl,ho0,ho1,hb⟩;refine ⟨_,rfl,?_⟩;replace HO422:=qVb HO422 hb;replace HO425:=qVb HO425 hb;have HO428:=Aside0.mk (Kd.V_lower (Kd.V_mono (ok':=fun k_ => True) ho0 (fun k_ hk_ => trivial)) (below_size (qS HB)));have HO431:=Aside0.mk (Kd.V_lower (Kd.V_mono (ok':=fun k_ => True) ho1 (fun k_ hk_ => trivial)) (below_size (qS HB)));replace HB:=qs HB hb;clear hb ho0 ho1)|((with_reducible refine gate_dst (N:=1) rfl ?_);refine qX #[.slice none 0 0] 38 ?_;intro gb433 hg w52 hbox hb;replace HO422:=qVe HO422 hb hg;replace HO425:=qVe HO425 hb hg;replace HO428:=qVe HO428 hb hg;replace HO431:=qVe HO431 hb hg;have BK433:=Aside0.mk hbox;have GE433:=qh hg HB;replace HB:=qs HB hb;clear hb hbox hg)|((with_reducible refine gate_dst (N:=2) rfl ?_);refine qX #[.slice none 0 0] 38 ?_;intro gb434 hg w53 hbox hb;replace HO422:=qVe HO422 hb hg;replace HO425:=qVe HO425 hb hg;replace HO428:=qVe HO428 hb hg;replace HO431:=qVe HO431 hb hg;have BK434:=Aside0.mk hbox;have GE434:=qh hg HB;replace HB:=qs HB hb;have NB433_434:=ql hg BK433;have NB434_433:=qg hg BK433;replace BK433:=qb BK433 hb;clear hb hbox hg;obtain ⟨Ao54,co54,eo54⟩:=Kd.V_slice HO428.out;subst eo54;have hnb55:=NB433_434.out;have hnc55:=NB434_433.out;have hcz56_0:=bc BK433;have hfz56_0:=bz BK433;obtain ⟨Ao57,co57,eo57⟩:=Kd.V_slice HO431.out;subst eo57;have hcz58_0:=bc BK434;have hfz58_0:=bz BK434))
  generalize hw : ((w53.setCell ⟨gb433,0,none⟩ (.slice Ao54 t426.length co54)).setCell ⟨gb434,0,none⟩ (.slice Ao57 t429.length co57)) = w59
  replace hw:=hw.symm
  replace HO422:=qVh hw HO422
  replace HO425:=qVh hw HO425
  replace HO428:=qVh hw HO428
  replace HO431:=qVh hw HO431
  replace BK433:=qBp hw BK433
  replace BK434:=qBp hw BK434
  replace HB:=qSh hw HB
  clear hw
  replace HO422:=qVw HO422
  replace HO425:=qVw HO425
  replace HO428:=qVw HO428
  replace HO431:=qVw HO431
  replace BK433:=qbd BK433
  replace BK434:=qbd BK434
  replace HB:=qsd HB
  refine start_ (n:=13) (S:=fun w' => True) (ds:=[]) #[false,false,false,false,false,false,false,false,false,false,false,false,false] (by kernel_rfl) rfl rfl trivial (fun hHeld => ?_);refine with_tabW sacristylaw01_lives.tab2 sacristylaw01_lives.bits2 (fun HT_ HW_ => ?_)
  generalize w59.drew = w60 at HO422 HO425 HO428 HO431 BK433 BK434 HB hHeld ⊢
  refine qP 0 11 HT_ ?_
  refine qP 1 12 HT_ ?_
  refine qP 2 13 HT_ ?_
  refine qU 3 14 HT_ ?_
  refine qU 4 15 HT_ ?_
  refine qU 5 16 HT_ ?_
  refine qP 6 17 HT_ ?_
  refine qP 7 18 HT_ ?_
  refine qU 8 19 HT_ ?_
  refine qU 9 20 HT_ ?_
  refine qU 10 21 HT_ ?_
  refine qP 11 22 HT_ ?_
  refine qP 12 0 HT_ ?_
  refine qD HT_ ?_
  try go_wp2
  (first|go_ret|(refine ⟨_,results_tmp rfl _ _ _,?_⟩))
  exact ⟨by first|rfl|(simp [errW_none,errW_some] <;> rfl)|(simp [*,errW_none,errW_some] <;> rfl),qS HB⟩
end Go.Proofs.Yteejcpbngnojkaa.P
end
section
namespace Go.Proofs.Yteejcpbngnojkaa.P
open Go.RowKit Go.Proofs.YteejcpbngnojkaaW.PrintWords Go.Proofs.YteejcpbngnojkaaW.PrintLast Go.Proofs.YteejcpbngnojkaaW.PrintMore
attribute [local go_sem] max2_int min2_int max_two min_two max_three min_three max_four min_four
set_option linter.unusedVariables false
set_option linter.unusedSimpArgs false
def nat_FromBytes.l0 : Nat → List Int → List Int → Int → Int → Option (List Int × Int)
 |0,_,_,_,_ => none
 |k + 1,x0,x4,x17,x18 => if x18 < x17 then (if 0 ≤ (wrap64 ((wrap64 ((x0.length : Int) - 1)) - x18)) then (if (wrap64 ((wrap64 ((x0.length : Int) - 1)) - x18)) < (x0.length : Int) then (if 0 ≤ (wrap64 (Int.tdiv x18 4)) then (if (wrap64 (Int.tdiv x18 4)) < (x4.length : Int) then (if 0 ≤ (wrap64 (8 * (Int.tmod x18 4))) then (nat_FromBytes.l0 k x0 (x4.set ((wrap64 (Int.tdiv x18 4)) : Int).toNat (Go.bits .or .u32 (rd x4 (wrap64 (Int.tdiv x18 4))) (shl .u32 ((rd x0 (wrap64 ((wrap64 ((x0.length : Int) - 1)) - x18))) % 4294967296) (wrap64 (8 * (Int.tmod x18 4)))))) x17 (wrap64 (x18 + 1))) else (none)) else (none)) else (none)) else (none)) else (none)) else ((nat_trim.f k x4).bind fun t450 => (some (t450,0)))
def nat_FromBytes.f (k : Nat) (l0 : List Int) : Option (List Int × Int):=if (l0.length : Int) > 128 then (some (([] : List Int),4)) else (if 0 ≤ (wrap64 (Int.tdiv (wrap64 ((l0.length : Int) + 3)) 4)) then (if (wrap64 (Int.tdiv (wrap64 ((l0.length : Int) + 3)) 4) : Int).toNat ≤ 70368744177664 then (nat_FromBytes.l0 k l0 (List.replicate (wrap64 (Int.tdiv (wrap64 ((l0.length : Int) + 3)) 4) : Int).toNat 0) (l0.length : Int) 0) else (none)) else (none))
theorem nat_FromBytes.mono_l : ∀ k,(∀ y0 y1 y2 y3,LeO (nat_FromBytes.l0 k y0 y1 y2 y3) (nat_FromBytes.l0 (k + 1) y0 y1 y2 y3))
 |0 => fun _ _ _ _ r h => by simp [nat_FromBytes.l0] at h
 |k + 1 => by
  have ih0:=nat_FromBytes.mono_l k
  ·intro y0 y1 y2 y3
   unfold nat_FromBytes.l0
   repeat' first
   |(with_reducible exact ih0 _ _ _ _)
   |(with_reducible exact nat_trim.mono _ _)
   |(with_reducible exact LeO.refl _)
   |(with_reducible exact LeO.none _)
   |(with_reducible refine LeO.ite ?_ ?_)
   |(with_reducible refine LeO.bind ?_ (fun _ => ?_))
   |exact ih0 _ _ _ _
   |exact nat_trim.mono _ _
   |exact LeO.none _
   |refine LeO.ite ?_ ?_
   |refine LeO.bind ?_ (fun _ => ?_)
theorem nat_FromBytes.mono : ∀ a0 k,LeO (nat_FromBytes.f k a0) (nat_FromBytes.f (k + 1) a0):=by
 intro a0 k
 have ih0:=nat_FromBytes.mono_l k
 unfold nat_FromBytes.f
 repeat' first
   |(with_reducible exact ih0 _ _ _ _)
   |(with_reducible exact nat_trim.mono _ _)
   |(with_reducible exact LeO.refl _)
   |(with_reducible exact LeO.none _)
   |(with_reducible refine LeO.ite ?_ ?_)
   |(with_reducible refine LeO.bind ?_ (fun _ => ?_))
   |exact ih0 _ _ _ _
   |exact nat_trim.mono _ _
   |exact LeO.none _
   |refine LeO.ite ?_ ?_
   |refine LeO.bind ?_ (fun _ => ?_)
def nat_FromBytes.T8 : Bool × List (List Nat × List Nat):=(true,[([],[]),([],[]),([1],[1]),([0,2],[0,2]),([3],[3]),([],[]),([5],[5]),([],[]),([7],[7]),([8],[8]),([6,9],[6,9]),([4,10],[4,10]),([0,2,0,1,2,3,4,5,6,7,8,9,10,11],[0,2]),([12,11,0,1,2,3,4,5,6,7,8,9,10,11],[11,12])])
def nat_FromBytes.B8 : List Nat:=[0,0,2,7,15,0,32,0,128,384,992,2047,4095,8191]
theorem nat_FromBytes.tab8 : rtab .any (opsOf Try.f35 8) = nat_FromBytes.T8:=by kernel_rfl
theorem nat_FromBytes.bits8 : waitsOk nat_FromBytes.T8.2 nat_FromBytes.B8 = true:=by kernel_rfl
set_option maxHeartbeats 8000000 in
set_option maxRecDepth 100000 in
theorem nat_FromBytes.calls (k : Nat) (A0 : Option Addr) (c0 : Nat) (l0 : List Int) (r1 : List Int) (r2 : Int) (w : World) (hr0 : Kd.C (Kd.int .u8) w A0 l0.length l0) (hc0 : l0.length ≤ c0) (h : nat_FromBytes.f k l0 = some (r1,r2)) :
  Calls Try.prog 35 #[.slice A0 l0.length c0] w fun e w' => ∃ v0_ : Value,e = .returned (.tuple #[.agg #[v0_],.int .i64 r2]) ∧ Kd.V (Kd.int .u32) 23 w' w.heap.size (fun k_ => (w.heap.size ≤ k_)) v0_ r1 ∧ Below w.heap.size w w':=by
 have hu38:=Try.underlying38
 have HR0:=Aside0.mk hr0
 have HC0:=Aside0.mk hc0
 clear hr0 hc0
 have HB:=Aside0.mk (Below.refl w.heap.size w)
 have H : (if (l0.length : Int) > 128 then (some (([] : List Int),4)) else (if 0 ≤ (wrap64 (Int.tdiv (wrap64 ((l0.length : Int) + 3)) 4)) then (if (wrap64 (Int.tdiv (wrap64 ((l0.length : Int) + 3)) 4) : Int).toNat ≤ 70368744177664 then (nat_FromBytes.l0 k l0 (List.replicate (wrap64 (Int.tdiv (wrap64 ((l0.length : Int) + 3)) 4) : Int).toNat 0) (l0.length : Int) 0) else (none)) else (none))) = some (r1,r2):=h
 clear h
 by_cases c2 : (l0.length : Int) > 128
 ·rw [if_pos c2] at H
  have c2b0 : decide (128 < (l0.length : Int)) = true:=decide_eq_true c2
  have c2b1 : decide (128 < l0.length) = true:=decide_eq_true (by omega)
  clear c2
  simp only [Option.some.injEq,Prod.mk.injEq] at H
  obtain ⟨rfl,rfl⟩:=H
  go_enter Try.func35,Try.ntmps35
  go_wp2_with (first|((with_reducible refine gate_dst (N:=2) rfl ?_);refine qX #[.slice none 0 0] 38 ?_;intro gb443 hg w3 hbox hb;have BK443:=Aside0.mk hbox;have GE443:=qh hg HB;replace HB:=qs HB hb;clear hb hbox hg;have hcz4_0:=bc BK443;have hfz4_0:=bz BK443))
  refine bodyPost_ret (results_ct rfl _ _ gb443 38 #[.slice none 0 0] (0,0) _ rfl (by (with_reducible repeat (first|refine blk_drewN ?_ _|refine blk_drew ?_|refine blk_alloc ?_ _));refine blk_put (cs:=#[.slice none 0 0]) ?_ 0 _ rfl;(with_reducible repeat (first|refine blk_drewN ?_ _|refine blk_drew ?_|refine blk_alloc ?_ _));exact BK443.out) Try.underlying38 rfl (by kernel_rfl)) rfl ?_
  exact ⟨_,by first|rfl|(simp [errW_none,errW_some] <;> rfl)|(simp [*,errW_none,errW_some] <;> rfl),Kd.V_nil _ _ _ _ _,qS HB⟩
 ·rw [if_neg c2] at H
  have c2b0 : decide (128 < (l0.length : Int)) = false:=decide_eq_false c2
  have c2b1 : decide (128 < l0.length) = false:=decide_eq_false (by omega)
  clear c2
  obtain ⟨ji5,hji5⟩ : ∃ j_ : Int,(wrap64 (Int.tdiv (wrap64 ((l0.length : Int) + 3)) 4)) = j_:=⟨_,rfl⟩
  (first|rw [hji5] at H|simp only [hji5] at H)
  have hji5w : (IntKind.i64.wrap (Int.tdiv (wrap64 ((l0.length : Int) + 3)) 4)) = ji5:=(i64_w _).trans hji5
  by_cases c6 : 0 ≤ (ji5)
  ·rw [if_pos c6] at H
   have c6b0:=eq_true c6
   have c6b1 : decide (0 ≤ (ji5)) = true:=decide_eq_true c6
   clear c6
   by_cases c7 : (ji5 : Int).toNat ≤ 70368744177664
   ·rw [if_pos c7] at H
    have c7b0:=eq_true c7
    have c7b1 : decide ((ji5 : Int).toNat ≤ 70368744177664) = true:=decide_eq_true c7
    clear c7
    obtain ⟨y444,hy444⟩ : ∃ y_ : List Int,y_ = (List.replicate (ji5 : Int).toNat 0):=⟨_,rfl⟩
    replace H : (nat_FromBytes.l0 k l0 y444 (l0.length : Int) 0) = some (r1,r2):=by first|(rw [hy444];with_reducible exact H)|(have H2_:=(Option.bind_some _ _).symm.trans H;rw [hy444];with_reducible exact H2_)|(have H2_:=(Option.bind_some _ _).symm.trans H;with_reducible exact H2_)|with_reducible exact H|(rw [hy444];exact H)|exact H
    have Ny444:=Aside0.mk hy444
    clear hy444
    have H':=Aside0.mk H
    clear H
    go_enter Try.func35,Try.ntmps35
    go_wp2_with (first|((with_reducible refine gate_dst (N:=2) rfl ?_);refine qX #[.slice none 0 0] 38 ?_;intro gb443 hg w8 hbox hb;have BK443:=Aside0.mk hbox;have GE443:=qh hg HB;replace HB:=qs HB hb;clear hb hbox hg)|((with_reducible refine gate_dst (N:=15) rfl ?_);refine Kd.R_make (Kd.int .u32) _ 23 rfl (N:=15) rfl 36 _ _ rfl ji5 rfl rfl Try.underlying36 (.int .u32 0) 4 info23 rfl (by decide) (by omega) 0 (ok:=fun _ => True) (okp:=fun _ => True) rfl (fun _ hk => hk) trivial (od) (Nat.le_trans (Nat.mul_le_mul_right _ (od : ji5.toNat ≤ 70368744177664)) (by omega)) (Below.refl _ _) (Nat.le_refl _) ?_;intro v445 w9 ho10 hb hg_ hnew_;clear hg_ hnew_;(first|rw [← Ny444.out] at ho10|(simp only [Int.reduceToNat] at ho10;rw [← Ny444.out] at ho10));have HO446:=Aside0.mk (Kd.R_lower (Kd.R_newM (M:=fun k_ => (w.heap.size ≤ k_)) ho10 (below_size (qS HB)) (fun k_ h_ => h_)) (below_size (qS HB)));replace BK443:=qb BK443 hb;replace HB:=qs HB hb;clear hb ho10))
    go_loopg [18] k (fun kq v18 w' => ∃ (x4_1 : List Int) (x18_1 : Int),v18 = .int .i64 x18_1 ∧ Aside0 (nat_FromBytes.l0 kq l0 x4_1 (l0.length : Int) x18_1 = some (r1,r2)) ∧ Aside0 (kq ≤ k) ∧ Aside0 (Kd.R (Kd.int .u32) 23 w' w.heap.size (fun k_ => (w.heap.size ≤ k_)) v445 x4_1) ∧ Aside0 (w'.heap[gb443]? = some (.cells #[(.slice none 0 0)] 38 (0,0))) ∧ Aside0 (Below w.heap.size w w'))
    case atStart => exact ⟨(y444),(0),(by first|rfl|(simp;done)|(simp [*];done)),H',⟨Nat.le_refl _⟩,⟨qRm HO446⟩,⟨qB BK443.out⟩,⟨qS HB⟩⟩
    case round =>
     clear H'
     try clear c2
     try clear c2b0
     try clear c2b1
     try clear p2
     try clear c3
     try clear c6
     try clear c6b0
     try clear c6b1
     try clear p6
     try clear c7
     try clear c7b0
     try clear c7b1
     try clear hcz4_0
     try clear hfz4_0
     obtain ⟨x4_1,x18_1,rfl,HA,HK1,HO_4,BK443,HB⟩:=hrel
     cases gk with
     |zero => exact absurd HA.out (by simp [nat_FromBytes.l0])
     |succ k1 =>
      have H:=HA.out
      clear HA
      simp only [nat_FromBytes.l0] at H
      by_cases c11 : x18_1 < (l0.length : Int)
      ·rw [if_pos c11] at H
       have c11b0 : decide (x18_1 < (l0.length : Int)) = true:=decide_eq_true c11
       clear c11
       obtain ⟨ji12,hji12⟩ : ∃ j_ : Int,(wrap64 ((wrap64 ((l0.length : Int) - 1)) - x18_1)) = j_:=⟨_,rfl⟩
       (first|rw [hji12] at H|simp only [hji12] at H)
       have hji12w : (IntKind.i64.wrap ((wrap64 ((l0.length : Int) - 1)) - x18_1)) = ji12:=(i64_w _).trans hji12
       by_cases c13 : 0 ≤ (ji12)
       ·rw [if_pos c13] at H
        have c13b0 : decide (0 ≤ (ji12)) = true:=decide_eq_true c13
        clear c13
        by_cases c14 : (ji12) < (l0.length : Int)
        ·rw [if_pos c14] at H
         have c14b0 : decide ((ji12) < (l0.length : Int)) = true:=decide_eq_true c14
         clear c14
         obtain ⟨ji15,hji15⟩ : ∃ j_ : Int,(wrap64 (Int.tdiv x18_1 4)) = j_:=⟨_,rfl⟩
         (first|rw [hji15] at H|simp only [hji15] at H)
         have hji15w : (IntKind.i64.wrap (Int.tdiv x18_1 4)) = ji15:=(i64_w _).trans hji15
         by_cases c16 : 0 ≤ (ji15)
         ·rw [if_pos c16] at H
          have c16b0 : decide (0 ≤ (ji15)) = true:=decide_eq_true c16
          clear c16
          by_cases c17 : (ji15) < (x4_1.length : Int)
          ·rw [if_pos c17] at H
           have c17b0 : decide ((ji15) < (x4_1.length : Int)) = true:=decide_eq_true c17
           clear c17
           obtain ⟨ji18,hji18⟩ : ∃ j_ : Int,(wrap64 (8 * (Int.tmod x18_1 4))) = j_:=⟨_,rfl⟩
           (first|rw [hji18] at H|simp only [hji18] at H)
           have hji18w : (IntKind.i64.wrap (8 * (Int.tmod x18_1 4))) = ji18:=(i64_w _).trans hji18
           by_cases c19 : 0 ≤ (ji18)
           ·rw [if_pos c19] at H
            have c19b0:=eq_true c19
            have c19b1 : decide (0 ≤ (ji18)) = true:=decide_eq_true c19
            clear c19
            obtain ⟨ji20,hji20⟩ : ∃ j_ : Int,(shl .u32 ((rd l0 (ji12)) % 4294967296) (ji18)) = j_:=⟨_,rfl⟩
            (first|rw [hji20] at H|simp only [hji20] at H)
            have hji20_ : (IntKind.u32.wrap (((rd l0 (ji12)) % 4294967296) * 2 ^ min (ji18).toNat 32)) = ji20:=hji20
            have hji20m : ((rd l0 (ji12)) % 4294967296) * 2 ^ min (ji18).toNat 32 % 4294967296 = ji20:=hji20_
            have hji20z : (ji18) ≤ 32 → (IntKind.u32.wrap (((rd l0 (ji12)) % 4294967296) * 2 ^ (ji18).toNat)) = ji20:=shl_small hji20
            obtain ⟨y449,hy449⟩ : ∃ y_ : List Int,y_ = (x4_1.set ((ji15) : Int).toNat (Go.bits .or .u32 (rd x4_1 (ji15)) (ji20))):=⟨_,rfl⟩
            replace H : (nat_FromBytes.l0 k1 l0 y449 (l0.length : Int) (wrap64 (x18_1 + 1))) = some (r1,r2):=by first|(rw [hy449];with_reducible exact H)|(have H2_:=(Option.bind_some _ _).symm.trans H;rw [hy449];with_reducible exact H2_)|(have H2_:=(Option.bind_some _ _).symm.trans H;with_reducible exact H2_)|with_reducible exact H|(rw [hy449];exact H)|exact H
            have Ny449:=Aside0.mk hy449
            clear hy449
            have H':=Aside0.mk H
            clear H
            have p447 : 0 ≤ ((ji12) : Int):=od
            have q447 : (ji12) < (l0.length : Int):=od
            obtain ⟨ad447,e447,hx447_0⟩:=Kd.at_int HR0.out (ji12) p447 q447
            cases e447
            replace hx447_0:=(HB.out.cell (World.block_lt_of_cell? w _ hx447_0)).trans hx447_0
            replace p447:=eq_true p447
            replace q447:=eq_true q447
            try go_wp2
            replace HO_4:=qRw HO_4
            replace BK443:=qbd BK443
            replace HB:=qsd HB
            obtain ⟨Ao23,co23,eo23⟩:=Kd.R_slice HO_4.out
            (first|subst eo23|(injection eo23 with f1_ f2_ f3_;have f4_:=f1_.symm;have f5_:=f3_.symm;clear f1_ f2_ f3_;subst f4_;subst f5_))
            have p448 : 0 ≤ ((ji15) : Int):=od
            have q448 : (ji15) < (x4_1.length : Int):=od
            obtain ⟨ad448,e448,hx448_0⟩:=Kd.at_int (Kd.R_reads' HO_4.out).2.2 (ji15) p448 q448
            cases e448
            replace p448:=eq_true p448
            replace q448:=eq_true q448
            have p21 : 0 ≤ ((ji15) : Int):=od
            have q21 : ((ji15) : Int) < ((x4_1.length : Int) : Int):=od
            obtain ⟨go21,co21,eo21,gb21,gl21,cl21,HG21⟩:=Kd.R_form HO_4.out (by omega)
            (first|cases eo21|(injection eo21 with ea_ en_ ec_;(first|subst ea_|(injection ea_ with ea_;subst ea_));subst ec_;clear en_))
            have GB21:=Aside0.mk gb21
            have GG21:=Aside0.mk HG21
            clear gb21 gl21 HG21
            (first|simp only [add_plain] at hx448_0|skip)
            obtain ⟨hx21_0,hf21_0⟩:=Kd.R_celln 0 HO_4.out ((ji15) : Int) p21 q21
            replace p21:=eq_true p21
            replace q21:=eq_true q21
            have HP24:=Kd.R_putn HO_4.out ((ji15) : Int) (Go.bits .or .u32 (rd x4_1 (ji15)) (ji20))
            rw [← Ny449.out] at HP24
            have HQ24:=Aside0.mk HP24
            clear HP24
            refine start_ (n:=14) (S:=fun w' => w'.cell? ⟨go21,((ji15)).toNat,none⟩ = some (.int .u32 (rd x4_1 (ji15)))) (ds:=[13]) #[false,false,false,false,false,false,false,false,false,false,false,false,false,false] (by kernel_rfl) rfl rfl (hx448_0) (fun hHeld => ?_);refine with_tabW nat_FromBytes.tab8 nat_FromBytes.bits8 (fun HT_ HW_ => ?_)
            generalize wr.drew = w22 at HO_4 BK443 HB GG21 HQ24 hf21_0 hx21_0 hx448_0 hHeld ⊢
            refine qP 0 29 HT_ ?_
            refine qP 1 30 HT_ ?_
            refine qP 2 31 HT_ ?_
            refine qP 3 32 HT_ ?_
            refine qP 5 34 HT_ ?_
            refine qP 6 35 HT_ ?_
            refine qP 7 36 HT_ ?_
            refine qP 8 37 HT_ ?_
            refine qP 9 38 HT_ ?_
            refine qP 10 39 HT_ ?_
            refine qT 4 33 HT_ HW_ hHeld ?_
            refine qP 11 40 HT_ ?_
            refine qP 12 41 HT_ ?_
            refine last_ (i:=13) (N:=none) #[true,true,true,true,true,true,true,true,true,true,true,true,true,true] rfl rfl (one_of HT_.out (by kernel_rfl)) (by decide) (fun K hK => ?_)
            refine skip_ (w1:=?_) (by rfl) rfl ?_ ?_
            rotate_left
            ·go_simp
             rfl
            refine hK.out _ _ ?_
            clear hK K
            refine qD HT_ ?_
            try go_wp2
            go_roundg k1
            case measure => have:=HK1.out;omega
            case rel => exact ⟨(y449),(wrap64 (x18_1 + 1)),(by first|rfl|(simp;done)|(simp [*];done)),H',⟨by have:=HK1.out;omega⟩,⟨by (with_reducible repeat (first|apply Kd.R_alloc|apply Kd.R_drewN|apply Kd.R_drew));(first|exact HQ24.out|(rw [hji20m];exact HQ24.out))⟩,⟨by (with_reducible repeat (first|refine blk_drewN ?_ _|refine blk_drew ?_|refine blk_alloc ?_ _));refine blk_far ?_ (by have h_:=Kd.R_ne HO_4.out BK443.out (by decide);intro e_;exact h_ (by rw [e_];rfl)) _;(with_reducible repeat (first|refine blk_drewN ?_ _|refine blk_drew ?_|refine blk_alloc ?_ _));exact BK443.out⟩,⟨qS HB⟩⟩
           ·rw [if_neg c19] at H
            exact absurd H (by simp)
          ·rw [if_neg c17] at H
           exact absurd H (by simp)
         ·rw [if_neg c16] at H
          exact absurd H (by simp)
        ·rw [if_neg c14] at H
         exact absurd H (by simp)
       ·rw [if_neg c13] at H
        exact absurd H (by simp)
      ·rw [if_neg c11] at H
       have c11b0 : decide (x18_1 < (l0.length : Int)) = false:=decide_eq_false c11
       clear c11
       obtain ⟨t450,A25,H⟩:=qH H
       simp only [Option.some.injEq,Prod.mk.injEq] at H
       obtain ⟨rfl,rfl⟩:=H
       obtain ⟨Ao26,co26,eo26⟩:=Kd.R_slice HO_4.out
       subst eo26
       go_wp2_with (first|((with_reducible refine gate_callee (f:=100) rfl ?_);refine gL (some 44) Try.func100 #[.slice Ao26 x4_1.length co26] ?_;(with_reducible refine (nat_trim.calls k1 (fun k_ => some k_ = (.slice Ao26 x4_1.length co26 : Value).ownBlock) _ _ x4_1 t450 _ ?side1 A25.out).mono ?_);(case side1 => exact Kd.R_V (Kd.R_tight rfl (Kd.R_types (HO_4.out) BK443.out (by decide))));rintro e w27 ⟨v451,rfl,ho0,hb⟩;refine ⟨_,rfl,?_⟩;have HO452:=Aside0.mk (Kd.V_lower (Kd.V_mono (ok':=fun k_ => (w.heap.size ≤ k_) ∧ k_ ≠ gb443) ho0 (fun k_ hk_ => ⟨Or.elim hk_ (fun hs_ => ((Kd.R_types (HO_4.out) BK443.out (by decide)).1 k_ hs_.symm).1) (fun hn_ => (Nat.le_trans (below_size (qS HB)) hn_)),Or.elim hk_ (fun hs_ => ((Kd.R_types (HO_4.out) BK443.out (by decide)).1 k_ hs_.symm).2) (fun hn_ => (Kd.freshB (qB BK443.out) k_ hn_))⟩)) (below_size (qS HB)));replace HO_4:=qRb HO_4 hb;replace BK443:=qb BK443 hb;replace HB:=qs HB hb;clear hb ho0;obtain ⟨Ao28,co28,eo28⟩:=Kd.V_slice HO452.out;subst eo28;have hcz29_0:=bc BK443;have hfz29_0:=bz BK443))
       refine bodyPost_ret (results_ct rfl _ _ gb443 38 #[.slice Ao28 t450.length co28] (0,0) _ rfl (by (with_reducible repeat (first|refine blk_drewN ?_ _|refine blk_drew ?_|refine blk_alloc ?_ _));refine blk_put (cs:=#[.slice none 0 0]) ?_ 0 _ rfl;(with_reducible repeat (first|refine blk_drewN ?_ _|refine blk_drew ?_|refine blk_alloc ?_ _));exact BK443.out) Try.underlying38 rfl (by kernel_rfl)) rfl ?_
       exact ⟨_,by first|rfl|(simp [errW_none,errW_some] <;> rfl)|(simp only [← hji5];first|rfl|(simp [errW_none,errW_some] <;> rfl))|(simp [*,errW_none,errW_some] <;> rfl),qVm HO452,qS HB⟩
   ·rw [if_neg c7] at H
    exact absurd H (by simp)
  ·rw [if_neg c6] at H
   exact absurd H (by simp)
end Go.Proofs.Yteejcpbngnojkaa.P
end
section
namespace Go.Proofs.Yteejcpbngnojkaa.P
open Go.RowKit Go.Proofs.YteejcpbngnojkaaW.PrintWords Go.Proofs.YteejcpbngnojkaaW.PrintLast Go.Proofs.YteejcpbngnojkaaW.PrintMore
attribute [local go_sem] max2_int min2_int max_two min_two max_three min_three max_four min_four
set_option linter.unusedVariables false
set_option linter.unusedSimpArgs false
def sacristyref01_Trim.l0 : Nat → List Bool → Option (List Bool)
 |0,_ => none
 |k + 1,x0 => if (x0.length : Int) > 0 then (if 0 ≤ (wrap64 ((x0.length : Int) - 1)) then (if (wrap64 ((x0.length : Int) - 1)) < (x0.length : Int) then (if (rdOf false x0 (wrap64 ((x0.length : Int) - 1)) = true) then (some x0) else (if (wrap64 ((x0.length : Int) - 1)) ≤ (x0.length : Int) then (sacristyref01_Trim.l0 k (x0.take ((wrap64 ((x0.length : Int) - 1)) : Int).toNat)) else (none))) else (none)) else (none)) else (some x0)
def sacristyref01_Trim.f (k : Nat) (l0 : List Bool) : Option (List Bool):=sacristyref01_Trim.l0 k l0
theorem sacristyref01_Trim.mono_l : ∀ k,(∀ y0,LeO (sacristyref01_Trim.l0 k y0) (sacristyref01_Trim.l0 (k + 1) y0))
 |0 => fun _ r h => by simp [sacristyref01_Trim.l0] at h
 |k + 1 => by
  have ih0:=sacristyref01_Trim.mono_l k
  ·intro y0
   unfold sacristyref01_Trim.l0
   repeat' first
   |(with_reducible exact ih0 _)
   |(with_reducible exact LeO.refl _)
   |(with_reducible exact LeO.none _)
   |(with_reducible refine LeO.ite ?_ ?_)
   |(with_reducible refine LeO.bind ?_ (fun _ => ?_))
   |exact ih0 _
   |exact LeO.none _
   |refine LeO.ite ?_ ?_
   |refine LeO.bind ?_ (fun _ => ?_)
theorem sacristyref01_Trim.mono : ∀ a0 k,LeO (sacristyref01_Trim.f k a0) (sacristyref01_Trim.f (k + 1) a0):=by
 intro a0 k
 have ih0:=sacristyref01_Trim.mono_l k
 unfold sacristyref01_Trim.f
 repeat' first
   |(with_reducible exact ih0 _)
   |(with_reducible exact LeO.refl _)
   |(with_reducible exact LeO.none _)
   |(with_reducible refine LeO.ite ?_ ?_)
   |(with_reducible refine LeO.bind ?_ (fun _ => ?_))
   |exact ih0 _
   |exact LeO.none _
   |refine LeO.ite ?_ ?_
   |refine LeO.bind ?_ (fun _ => ?_)
set_option maxHeartbeats 8000000 in
set_option maxRecDepth 100000 in
theorem sacristyref01_Trim.calls (k : Nat) (P0_ : Nat → Prop) (A0 : Option Addr) (c0 : Nat) (l0 : List Bool) (r : List Bool) (w : World) (hs0 : Kd.V Kd.bool 4 w w.heap.size (fun k_ => P0_ k_) (.slice A0 l0.length c0) l0) (h : sacristyref01_Trim.f k l0 = some r) :
  Calls Try.prog 111 #[.slice A0 l0.length c0] w fun e w' => ∃ v0_ : Value,e = .returned (v0_) ∧ Kd.V Kd.bool 4 w' w.heap.size (fun k_ => (P0_ k_ ∨ w.heap.size ≤ k_)) v0_ r ∧ Below w.heap.size w w':=by
 have HO0:=Aside0.mk (show Kd.V Kd.bool 4 w w.heap.size (fun k_ => (P0_ k_ ∨ w.heap.size ≤ k_)) (.slice A0 l0.length c0) l0 from Kd.V_mono hs0 (fun k_ hk => .inl hk))
 have HB:=Aside0.mk (Below.refl w.heap.size w)
 have H : (sacristyref01_Trim.l0 k l0) = some r:=h
 clear h
 have H':=Aside0.mk H
 clear H
 go_enter Try.func111,Try.ntmps111
 go_wp2
 go_loopg [0] k (fun kq v0 w' => ∃ (x0_1 : List Bool),Aside0 (sacristyref01_Trim.l0 kq x0_1 = some r) ∧ Aside0 (kq ≤ k) ∧ Aside0 (Kd.V Kd.bool 4 w' w.heap.size (fun k_ => (P0_ k_ ∨ w.heap.size ≤ k_)) v0 x0_1) ∧ Aside0 (Below w.heap.size w w'))
 case atStart => exact ⟨(l0),H',⟨Nat.le_refl _⟩,⟨qVm HO0⟩,⟨qS HB⟩⟩
 case round =>
  clear H'
  try clear c1
  obtain ⟨x0_1,HA,HK1,HO_0,HB⟩:=hrel
  cases gk with
  |zero => exact absurd HA.out (by simp [sacristyref01_Trim.l0])
  |succ k1 =>
   have H:=HA.out
   clear HA
   simp only [sacristyref01_Trim.l0] at H
   by_cases c2 : (x0_1.length : Int) > 0
   ·rw [if_pos c2] at H
    have c2b0 : decide (0 < (x0_1.length : Int)) = true:=decide_eq_true c2
    have c2b1 : decide (0 < x0_1.length) = true:=decide_eq_true (by omega)
    clear c2
    obtain ⟨ji3,hji3⟩ : ∃ j_ : Int,(wrap64 ((x0_1.length : Int) - 1)) = j_:=⟨_,rfl⟩
    (first|rw [hji3] at H|simp only [hji3] at H)
    have hji3w : (IntKind.i64.wrap ((x0_1.length : Int) - 1)) = ji3:=(i64_w _).trans hji3
    by_cases c4 : 0 ≤ (ji3)
    ·rw [if_pos c4] at H
     have c4b0 : decide (0 ≤ (ji3)) = true:=decide_eq_true c4
     clear c4
     by_cases c5 : (ji3) < (x0_1.length : Int)
     ·rw [if_pos c5] at H
      have c5b0 : decide ((ji3) < (x0_1.length : Int)) = true:=decide_eq_true c5
      clear c5
      obtain ⟨bq6,hbq6⟩ : ∃ b_ : Bool,b_ = (rdOf false x0_1 (ji3)):=⟨_,rfl⟩
      replace H : (if (bq6 = true) then (some x0_1) else (if (ji3) ≤ (x0_1.length : Int) then (sacristyref01_Trim.l0 k1 (x0_1.take ((ji3) : Int).toNat)) else (none))) = some r:=by rw [← hbq6] at H;exact H
      have Nbq6:=Aside0.mk hbq6
      clear hbq6
      by_cases c7 : (bq6 = true)
      ·subst c7
       rw [if_pos rfl] at H
       obtain rfl:=Option.some.inj H
       obtain ⟨Ao8,co8,eo8⟩:=Kd.V_slice HO_0.out
       subst eo8
       have p453 : 0 ≤ ((ji3) : Int):=od
       have q453 : (ji3) < (x0_1.length : Int):=od
       obtain ⟨ad453,e453,hx453_0⟩:=Kd.at_bool (Kd.V_reads' HO_0.out).2.2 (ji3) p453 q453
       (try rw [← Nbq6.out] at hx453_0)
       cases e453
       replace p453:=eq_true p453
       replace q453:=eq_true q453
       go_wp2
       (first|go_ret|(refine ⟨_,results_tmp rfl _ _ _,?_⟩))
       exact ⟨_,by first|rfl|(simp [errW_none,errW_some] <;> rfl)|(simp only [← hji3];first|rfl|(simp [errW_none,errW_some] <;> rfl))|(simp [*,errW_none,errW_some] <;> rfl),qVm HO_0,qS HB⟩
      ·replace c7:=Bool.eq_false_iff.mpr c7
       subst c7
       rw [qFT] at H
       have c9b0:=eq_true (od : 0 ≤ (ji3))
       by_cases c10 : (ji3) ≤ (x0_1.length : Int)
       ·rw [if_pos c10] at H
        have c10b0:=eq_true c10
        have c10b1 : decide ((ji3) ≤ (x0_1.length : Int)) = true:=decide_eq_true c10
        clear c10
        obtain ⟨y454,hy454⟩ : ∃ y_ : List Bool,y_ = (x0_1.take ((ji3) : Int).toNat):=⟨_,rfl⟩
        replace H : (sacristyref01_Trim.l0 k1 y454) = some r:=by first|(rw [hy454];with_reducible exact H)|(have H2_:=(Option.bind_some _ _).symm.trans H;rw [hy454];with_reducible exact H2_)|(have H2_:=(Option.bind_some _ _).symm.trans H;with_reducible exact H2_)|with_reducible exact H|(rw [hy454];exact H)|exact H
        have Ny454:=Aside0.mk hy454
        clear hy454
        have H':=Aside0.mk H
        clear H
        obtain ⟨Ao11,co11,eo11⟩:=Kd.V_slice HO_0.out
        subst eo11
        have p453 : 0 ≤ ((ji3) : Int):=od
        have q453 : (ji3) < (x0_1.length : Int):=od
        obtain ⟨ad453,e453,hx453_0⟩:=Kd.at_bool (Kd.V_reads' HO_0.out).2.2 (ji3) p453 q453
        (try rw [← Nbq6.out] at hx453_0)
        cases e453
        replace p453:=eq_true p453
        replace q453:=eq_true q453
        have q12 : ((ji3) : Int) ≤ ((x0_1.length : Int) : Int):=od
        obtain ⟨i012,hi012,_,hsz12,_⟩:=info_parts info4
        have hroom12 : x0_1.length ≤ co11:=(Kd.V_reads' HO_0.out).2.1
        have hC12 : Kd.F Kd.bool _ _ (some ad453) x0_1.length x0_1:=(Kd.V_at (base:=w.heap.size) HO_0.out).2.2
        have hcut12:=cut_to (P:=Try.prog) 42 4 .i64 Try.underlying42 hi012 (some ad453) x0_1.length co11 (ji3) (od) q12 hroom12
        have hr12:=Kd.F_take (m:=((ji3) : Int).toNat) hC12 (by omega)
        have hy12 : y454.length = ((ji3) : Int).toNat:=(by rw [Ny454.out,List.length_take];omega)
        rw [← Ny454.out] at hr12
        rw [← hy12] at hcut12
        have HO458:=Aside0.mk (show Kd.V Kd.bool 4 _ w.heap.size _ (.slice (some ad453) y454.length co11) y454 from Kd.V_mk (by omega) hr12)
        have HC458:=Aside0.mk (show y454.length ≤ co11 from by omega)
        clear hr12 hC12 hroom12 hi012 hsz12
        have KY12:=Aside0.mk hy12
        clear hy12
        replace q12:=eq_true q12
        go_wp2
        go_roundg k1
        case measure => have:=HK1.out;omega
        case rel => exact ⟨(y454),H',⟨by have:=HK1.out;omega⟩,⟨qVm HO458⟩,⟨qS HB⟩⟩
       ·rw [if_neg c10] at H
        exact absurd H (by simp)
     ·rw [if_neg c5] at H
      exact absurd H (by simp)
    ·rw [if_neg c4] at H
     exact absurd H (by simp)
   ·rw [if_neg c2] at H
    have c2b0 : decide (0 < (x0_1.length : Int)) = false:=decide_eq_false c2
    have c2b1 : decide (0 < x0_1.length) = false:=decide_eq_false (by omega)
    clear c2
    obtain rfl:=Option.some.inj H
    obtain ⟨Ao13,co13,eo13⟩:=Kd.V_slice HO_0.out
    subst eo13
    go_wp2
    (first|go_ret|(refine ⟨_,results_tmp rfl _ _ _,?_⟩))
    exact ⟨_,by first|rfl|(simp [errW_none,errW_some] <;> rfl)|(simp [*,errW_none,errW_some] <;> rfl),qVm HO_0,qS HB⟩
end Go.Proofs.Yteejcpbngnojkaa.P
end
section
namespace Go.Proofs.Yteejcpbngnojkaa.P
open Go.RowKit Go.Proofs.YteejcpbngnojkaaW.PrintWords Go.Proofs.YteejcpbngnojkaaW.PrintLast Go.Proofs.YteejcpbngnojkaaW.PrintMore
attribute [local go_sem] max2_int min2_int max_two min_two max_three min_three max_four min_four
set_option linter.unusedVariables false
set_option linter.unusedSimpArgs false
mutual
def sacristyref01_Of.l0 : Nat → List Int → List Bool → Int → Option (List Bool)
 |0,_,_,_ => none
 |k + 1,x0,x3,x4 => if x4 ≥ 0 then (sacristyref01_Of.l1 k x0 x3 x4 0) else ((sacristyref01_Trim.f k x3).bind fun t462 => (some t462))
def sacristyref01_Of.l1 : Nat → List Int → List Bool → Int → Int → Option (List Bool)
 |0,_,_,_,_ => none
 |k + 1,x0,x3,x4,x5 => if x5 < 8 then (if 0 ≤ x4 then (if x4 < (x0.length : Int) then (if 0 ≤ x5 then (if x3.length < 140737488355328 then (sacristyref01_Of.l1 k x0 (x3 ++ [((Int.tmod (shr .u8 (rd x0 x4) x5) 2) == 1)]) x4 (wrap64 (x5 + 1))) else (none)) else (none)) else (none)) else (none)) else (sacristyref01_Of.l0 k x0 x3 (wrap64 (x4 - 1)))
end
def sacristyref01_Of.f (k : Nat) (l0 : List Int) : Option (List Bool):=sacristyref01_Of.l0 k l0 (([] : List Bool)) (wrap64 ((l0.length : Int) - 1))
theorem sacristyref01_Of.mono_l : ∀ k,(∀ y0 y1 y2,LeO (sacristyref01_Of.l0 k y0 y1 y2) (sacristyref01_Of.l0 (k + 1) y0 y1 y2)) ∧ (∀ y0 y1 y2 y3,LeO (sacristyref01_Of.l1 k y0 y1 y2 y3) (sacristyref01_Of.l1 (k + 1) y0 y1 y2 y3))
 |0 => ⟨fun _ _ _ r h => by simp [sacristyref01_Of.l0] at h,fun _ _ _ _ r h => by simp [sacristyref01_Of.l1] at h⟩
 |k + 1 => by
  obtain ⟨ih0,ih1⟩:=sacristyref01_Of.mono_l k
  refine ⟨?_,?_⟩
  ·intro y0 y1 y2
   unfold sacristyref01_Of.l0
   repeat' first
   |(with_reducible exact ih0 _ _ _)
   |(with_reducible exact ih1 _ _ _ _)
   |(with_reducible exact sacristyref01_Trim.mono _ _)
   |(with_reducible exact LeO.refl _)
   |(with_reducible exact LeO.none _)
   |(with_reducible refine LeO.ite ?_ ?_)
   |(with_reducible refine LeO.bind ?_ (fun _ => ?_))
   |exact ih0 _ _ _
   |exact ih1 _ _ _ _
   |exact sacristyref01_Trim.mono _ _
   |exact LeO.none _
   |refine LeO.ite ?_ ?_
   |refine LeO.bind ?_ (fun _ => ?_)
  ·intro y0 y1 y2 y3
   unfold sacristyref01_Of.l1
   repeat' first
   |(with_reducible exact ih0 _ _ _)
   |(with_reducible exact ih1 _ _ _ _)
   |(with_reducible exact sacristyref01_Trim.mono _ _)
   |(with_reducible exact LeO.refl _)
   |(with_reducible exact LeO.none _)
   |(with_reducible refine LeO.ite ?_ ?_)
   |(with_reducible refine LeO.bind ?_ (fun _ => ?_))
   |exact ih0 _ _ _
   |exact ih1 _ _ _ _
   |exact sacristyref01_Trim.mono _ _
   |exact LeO.none _
   |refine LeO.ite ?_ ?_
   |refine LeO.bind ?_ (fun _ => ?_)
theorem sacristyref01_Of.mono : ∀ a0 k,LeO (sacristyref01_Of.f k a0) (sacristyref01_Of.f (k + 1) a0):=by
 intro a0 k
 obtain ⟨ih0,ih1⟩:=sacristyref01_Of.mono_l k
 unfold sacristyref01_Of.f
 repeat' first
   |(with_reducible exact ih0 _ _ _)
   |(with_reducible exact ih1 _ _ _ _)
   |(with_reducible exact sacristyref01_Trim.mono _ _)
   |(with_reducible exact LeO.refl _)
   |(with_reducible exact LeO.none _)
   |(with_reducible refine LeO.ite ?_ ?_)
   |(with_reducible refine LeO.bind ?_ (fun _ => ?_))
   |exact ih0 _ _ _
   |exact ih1 _ _ _ _
   |exact sacristyref01_Trim.mono _ _
   |exact LeO.none _
   |refine LeO.ite ?_ ?_
   |refine LeO.bind ?_ (fun _ => ?_)
set_option maxHeartbeats 8000000 in
set_option maxRecDepth 100000 in
theorem sacristyref01_Of.calls (k : Nat) (A0 : Option Addr) (c0 : Nat) (l0 : List Int) (r : List Bool) (w : World) (hr0 : Kd.C (Kd.int .u8) w A0 l0.length l0) (hc0 : l0.length ≤ c0) (h : sacristyref01_Of.f k l0 = some r) :
  Calls Try.prog 101 #[.slice A0 l0.length c0] w fun e w' => ∃ v0_ : Value,e = .returned (v0_) ∧ Kd.V Kd.bool 4 w' w.heap.size (fun k_ => (w.heap.size ≤ k_)) v0_ r ∧ Below w.heap.size w w':=by
 have HR0:=Aside0.mk hr0
 have HC0:=Aside0.mk hc0
 clear hr0 hc0
 have HB:=Aside0.mk (Below.refl w.heap.size w)
 have H : (sacristyref01_Of.l0 k l0 (([] : List Bool)) (wrap64 ((l0.length : Int) - 1))) = some r:=h
 clear h
 obtain ⟨y459,hy459⟩ : ∃ y_ : List Bool,y_ = (([] : List Bool)):=⟨_,rfl⟩
 replace H : (sacristyref01_Of.l0 k l0 y459 (wrap64 ((l0.length : Int) - 1))) = some r:=by first|(rw [hy459];with_reducible exact H)|(have H2_:=(Option.bind_some _ _).symm.trans H;rw [hy459];with_reducible exact H2_)|(have H2_:=(Option.bind_some _ _).symm.trans H;with_reducible exact H2_)|with_reducible exact H|(rw [hy459];exact H)|exact H
 have Ny459:=Aside0.mk hy459
 clear hy459
 have H':=Aside0.mk H
 clear H
 go_enter Try.func101,Try.ntmps101
 go_wp2_with (first|((with_reducible refine gate_dst (N:=6) rfl ?_);refine Kd.R_lit Kd.bool _ 4 ?hg (N:=6) ?hd (xs:=([] : List Bool)) (inner:=[]) (ok:=fun _ => True) (okp:=fun _ => True) ?hr ?hp (fun _ hk => hk) trivial (Below.refl _ _) (Nat.le_refl _) (by simp) ?_;(case hd => rfl);(case hg => rfl);(case hr => first|(go_simp;done)|(go_simp;rfl));(case hp => exact (Reps.none _ _));intro v460 w2 ho3 hb hg_ hnew_;clear hg_ hnew_;(first|rw [← Ny459.out] at ho3|(simp only [Int.reduceToNat] at ho3;rw [← Ny459.out] at ho3));have HO461:=Aside0.mk (Kd.R_lower (Kd.R_newM (M:=fun k_ => (w.heap.size ≤ k_)) ho3 (below_size (qS HB)) (fun k_ h_ => h_)) (below_size (qS HB)));replace HB:=qs HB hb;clear hb ho3))
 go_loopg [3,4] k (fun kq v3 v4 w' => ∃ (x3_1 : List Bool) (x4_1 : Int),v4 = .int .i64 x4_1 ∧ Aside0 (sacristyref01_Of.l0 kq l0 x3_1 x4_1 = some r) ∧ Aside0 (kq ≤ k) ∧ Aside0 (Kd.R Kd.bool 4 w' w.heap.size (fun k_ => (w.heap.size ≤ k_)) v3 x3_1) ∧ Aside0 (Below w.heap.size w w'))
 case atStart => exact ⟨(y459),(wrap64 ((l0.length : Int) - 1)),(by first|rfl|(simp;done)|(simp [*];done)),H',⟨Nat.le_refl _⟩,⟨qRm HO461⟩,⟨qS HB⟩⟩
 case round =>
  clear H'
  try clear c1
  try clear p2
  obtain ⟨x3_1,x4_1,rfl,HA,HK1,HO_3,HB⟩:=hrel
  cases gk with
  |zero => exact absurd HA.out (by simp [sacristyref01_Of.l0])
  |succ k1 =>
   have H:=HA.out
   clear HA
   simp only [sacristyref01_Of.l0] at H
   by_cases c4 : x4_1 ≥ 0
   ·rw [if_pos c4] at H
    have c4b0 : decide (0 ≤ x4_1) = true:=decide_eq_true c4
    clear c4
    have H':=Aside0.mk H
    clear H
    go_wp2
    go_loopg [3,5] k1 (fun kq v3 v5 w' => ∃ (x3_2 : List Bool) (x5_2 : Int),v5 = .int .i64 x5_2 ∧ Aside0 (sacristyref01_Of.l1 kq l0 x3_2 x4_1 x5_2 = some r) ∧ Aside0 (kq ≤ k1) ∧ Aside0 (Kd.R Kd.bool 4 w' w.heap.size (fun k_ => (w.heap.size ≤ k_)) v3 x3_2) ∧ Aside0 (Below w.heap.size w w'))
    case atStart => exact ⟨(x3_1),(0),(by first|rfl|(simp;done)|(simp [*];done)),H',⟨Nat.le_refl _⟩,⟨qRm HO_3⟩,⟨qS HB⟩⟩
    case round =>
     clear H'
     try clear c1
     try clear p2
     try clear c4
     try clear c4b0
     try clear p2
     obtain ⟨x3_2,x5_2,rfl,HA,HK2,HO_3,HB⟩:=hrel
     cases gk with
     |zero => exact absurd HA.out (by simp [sacristyref01_Of.l1])
     |succ k2 =>
      have H:=HA.out
      clear HA
      simp only [sacristyref01_Of.l1] at H
      by_cases c5 : x5_2 < 8
      ·rw [if_pos c5] at H
       have c5b0 : decide (x5_2 < 8) = true:=decide_eq_true c5
       clear c5
       by_cases c6 : 0 ≤ x4_1
       ·rw [if_pos c6] at H
        have c6b0 : decide (0 ≤ x4_1) = true:=decide_eq_true c6
        clear c6
        by_cases c7 : x4_1 < (l0.length : Int)
        ·rw [if_pos c7] at H
         have c7b0 : decide (x4_1 < (l0.length : Int)) = true:=decide_eq_true c7
         clear c7
         by_cases c8 : 0 ≤ x5_2
         ·rw [if_pos c8] at H
          have c8b0:=eq_true c8
          have c8b1 : decide (0 ≤ x5_2) = true:=decide_eq_true c8
          clear c8
          obtain ⟨ji9,hji9⟩ : ∃ j_ : Int,(shr .u8 (rd l0 x4_1) x5_2) = j_:=⟨_,rfl⟩
          (first|rw [hji9] at H|simp only [hji9] at H)
          have hji9_ : ((rd l0 x4_1) / 2 ^ min x5_2.toNat 8) = ji9:=hji9
          have hji9z : x5_2 ≤ 8 → ((rd l0 x4_1) / 2 ^ x5_2.toNat) = ji9:=shr_small hji9
          by_cases c10 : x3_2.length < 140737488355328
          ·rw [if_pos c10] at H
           have LMc10:=Aside0.mk c10
           clear c10
           obtain ⟨y466,hy466⟩ : ∃ y_ : List Bool,y_ = (x3_2 ++ [((Int.tmod (ji9) 2) == 1)]):=⟨_,rfl⟩
           replace H : (sacristyref01_Of.l1 k2 l0 y466 x4_1 (wrap64 (x5_2 + 1))) = some r:=by first|(rw [hy466];with_reducible exact H)|(have H2_:=(Option.bind_some _ _).symm.trans H;rw [hy466];with_reducible exact H2_)|(have H2_:=(Option.bind_some _ _).symm.trans H;with_reducible exact H2_)|with_reducible exact H|(rw [hy466];exact H)|exact H
           have Ny466:=Aside0.mk hy466
           clear hy466
           have H':=Aside0.mk H
           clear H
           have p465 : 0 ≤ (x4_1 : Int):=od
           have q465 : x4_1 < (l0.length : Int):=od
           obtain ⟨ad465,e465,hx465_0⟩:=Kd.at_int HR0.out x4_1 p465 q465
           cases e465
           replace hx465_0:=(HB.out.cell (World.block_lt_of_cell? w _ hx465_0)).trans hx465_0
           replace p465:=eq_true p465
           replace q465:=eq_true q465
           go_wp2_with (first|((with_reducible refine gate_builtin (b:=.append) (xs:=#[.tmp 18,.tmp 27]) rfl ?_);at_builtin;refine Kd.R_append Kd.bool (w0:=w) w.heap.size rfl (.tmp 18) (.tmp 27) 42 4 (.bool false) 1 rfl Try.underlying42 info4 rfl (by decide) (by omega) u3 x3_2 ((Int.tmod (ji9) 2) == 1) [.bool ((Int.tmod (ji9) 2) == 1)] (fun k_ => (w.heap.size ≤ k_)) (fun _ => False) rfl rfl ?aP (fun _ hk => hk.elim) ?aF ?aO ?aB ?aS ?aL ?_;(case aP => exact rfl);(case aB => exact (qS HB));(case aF => exact (fun k_ hk => (Nat.le_trans (below_size (qS HB)) hk)));(case aO => exact (qRm HO_3));(case aS => exact (below_size (qS HB)));(case aL => have:=LMc10.out;omega);intro v467 w11 ho hb hg hat;rw [← Ny466.out] at ho;replace HB:=Aside0.mk (hb);have HO468:=Aside0.mk (ho);(try clear HO_3);clear ho hb hg hat))
           go_roundg k2
           case measure => have:=HK1.out;have:=HK2.out;omega
           case rel => exact ⟨(y466),(wrap64 (x5_2 + 1)),(by first|rfl|(simp;done)|(simp [*];done)),H',⟨by have:=HK1.out;have:=HK2.out;omega⟩,⟨qRm HO468⟩,⟨qS HB⟩⟩
          ·rw [if_neg c10] at H
           exact absurd H (by simp)
         ·rw [if_neg c8] at H
          exact absurd H (by simp)
        ·rw [if_neg c7] at H
         exact absurd H (by simp)
       ·rw [if_neg c6] at H
        exact absurd H (by simp)
      ·rw [if_neg c5] at H
       have c5b0 : decide (x5_2 < 8) = false:=decide_eq_false c5
       clear c5
       have H':=Aside0.mk H
       clear H
       go_wp2
       go_roundg k2
       case measure => have:=HK1.out;have:=HK2.out;omega
       case rel => exact ⟨(x3_2),(wrap64 (x4_1 - 1)),(by first|rfl|(simp;done)|(simp [*];done)),H',⟨by have:=HK1.out;have:=HK2.out;omega⟩,⟨qRm HO_3⟩,⟨qS HB⟩⟩
   ·rw [if_neg c4] at H
    have c4b0 : decide (0 ≤ x4_1) = false:=decide_eq_false c4
    clear c4
    obtain ⟨t462,A12,H⟩:=qH H
    obtain rfl:=Option.some.inj H
    obtain ⟨Ao13,co13,eo13⟩:=Kd.R_slice HO_3.out
    subst eo13
    go_wp2_with (first|((with_reducible refine gate_callee (f:=111) rfl ?_);refine gL (some 30) Try.func111 #[.slice Ao13 x3_1.length co13] ?_;(with_reducible refine (sacristyref01_Trim.calls k1 (fun k_ => some k_ = (.slice Ao13 x3_1.length co13 : Value).ownBlock) _ _ x3_1 t462 _ ?side1 A12.out).mono ?_);(case side1 => exact Kd.R_V (Kd.R_tight rfl (HO_3.out)));rintro e w14 ⟨v463,rfl,ho0,hb⟩;refine ⟨_,rfl,?_⟩;have HO464:=Aside0.mk (Kd.V_lower (Kd.V_mono (ok':=fun k_ => (w.heap.size ≤ k_)) ho0 (fun k_ hk_ => Or.elim hk_ (fun hs_ => ((HO_3.out).1 k_ hs_.symm)) (fun hn_ => (Nat.le_trans (below_size (qS HB)) hn_)))) (below_size (qS HB)));replace HO_3:=qRb HO_3 hb;replace HB:=qs HB hb;clear hb ho0))
    (first|go_ret|(refine ⟨_,results_tmp rfl _ _ _,?_⟩))
    exact ⟨_,by first|rfl|(simp [errW_none,errW_some] <;> rfl)|(simp [*,errW_none,errW_some] <;> rfl),qVm HO464,qS HB⟩
end Go.Proofs.Yteejcpbngnojkaa.P
end
section
namespace Go.Proofs.Yteejcpbngnojkaa.P
open Go.RowKit Go.Proofs.YteejcpbngnojkaaW.PrintWords Go.Proofs.YteejcpbngnojkaaW.PrintLast Go.Proofs.YteejcpbngnojkaaW.PrintMore
attribute [local go_sem] max2_int min2_int max_two min_two max_three min_three max_four min_four
set_option linter.unusedVariables false
set_option linter.unusedSimpArgs false
def sacristyref01_Get.f (k : Nat) (l0 : List Int) : Option (List Bool × Int):=if (l0.length : Int) > 128 then (some ((([] : List Bool)),4)) else ((sacristyref01_Of.f k l0).bind fun t472 => (some (t472,0)))
theorem sacristyref01_Get.mono : ∀ a0 k,LeO (sacristyref01_Get.f k a0) (sacristyref01_Get.f (k + 1) a0):=by
 intro a0 k
 unfold sacristyref01_Get.f
 repeat' first
   |(with_reducible exact sacristyref01_Of.mono _ _)
   |(with_reducible exact LeO.refl _)
   |(with_reducible exact LeO.none _)
   |(with_reducible refine LeO.ite ?_ ?_)
   |(with_reducible refine LeO.bind ?_ (fun _ => ?_))
   |exact sacristyref01_Of.mono _ _
   |exact LeO.none _
   |refine LeO.ite ?_ ?_
   |refine LeO.bind ?_ (fun _ => ?_)
set_option maxHeartbeats 8000000 in
set_option maxRecDepth 100000 in
theorem sacristyref01_Get.calls (k : Nat) (A0 : Option Addr) (c0 : Nat) (l0 : List Int) (r1 : List Bool) (r2 : Int) (w : World) (hr0 : Kd.C (Kd.int .u8) w A0 l0.length l0) (hc0 : l0.length ≤ c0) (h : sacristyref01_Get.f k l0 = some (r1,r2)) :
  Calls Try.prog 36 #[.slice A0 l0.length c0] w fun e w' => ∃ v0_ : Value,e = .returned (.tuple #[v0_,.int .i64 r2]) ∧ Kd.V Kd.bool 4 w' w.heap.size (fun k_ => (w.heap.size ≤ k_)) v0_ r1 ∧ Below w.heap.size w w':=by
 have HR0:=Aside0.mk hr0
 have HC0:=Aside0.mk hc0
 clear hr0 hc0
 have HB:=Aside0.mk (Below.refl w.heap.size w)
 have H : (if (l0.length : Int) > 128 then (some ((([] : List Bool)),4)) else ((sacristyref01_Of.f k l0).bind fun t472 => (some (t472,0)))) = some (r1,r2):=h
 clear h
 by_cases c2 : (l0.length : Int) > 128
 ·rw [if_pos c2] at H
  have c2b0 : decide (128 < (l0.length : Int)) = true:=decide_eq_true c2
  have c2b1 : decide (128 < l0.length) = true:=decide_eq_true (by omega)
  clear c2
  obtain ⟨y469,hy469⟩ : ∃ y_ : List Bool,y_ = (([] : List Bool)):=⟨_,rfl⟩
  replace H : (some (y469,4)) = some (r1,r2):=by first|(rw [hy469];with_reducible exact H)|(have H2_:=(Option.bind_some _ _).symm.trans H;rw [hy469];with_reducible exact H2_)|(have H2_:=(Option.bind_some _ _).symm.trans H;with_reducible exact H2_)|with_reducible exact H|(rw [hy469];exact H)|exact H
  have Ny469:=Aside0.mk hy469
  clear hy469
  simp only [Option.some.injEq,Prod.mk.injEq] at H
  obtain ⟨rfl,rfl⟩:=H
  go_enter Try.func36,Try.ntmps36
  go_wp2_with (first|((with_reducible refine gate_dst (N:=7) rfl ?_);refine Kd.R_lit Kd.bool _ 4 ?hg (N:=7) ?hd (xs:=([] : List Bool)) (inner:=[]) (ok:=fun _ => True) (okp:=fun _ => True) ?hr ?hp (fun _ hk => hk) trivial (Below.refl _ _) (Nat.le_refl _) (by simp) ?_;(case hd => rfl);(case hg => rfl);(case hr => first|(go_simp;done)|(go_simp;rfl));(case hp => exact (Reps.none _ _));intro v470 w3 ho4 hb hg_ hnew_;clear hg_ hnew_;(first|rw [← Ny469.out] at ho4|(simp only [Int.reduceToNat] at ho4;rw [← Ny469.out] at ho4));have HO471:=Aside0.mk (Kd.R_lower (Kd.R_newM (M:=fun k_ => (w.heap.size ≤ k_)) ho4 (below_size (qS HB)) (fun k_ h_ => h_)) (below_size (qS HB)));replace HB:=qs HB hb;clear hb ho4))
  (first|go_ret2|(refine ⟨_,results_tmp2 rfl _ _ _,?_⟩))
  exact ⟨_,by first|rfl|(simp [errW_none,errW_some] <;> rfl)|(simp [*,errW_none,errW_some] <;> rfl),Kd.R_V (qRm HO471),qS HB⟩
 ·rw [if_neg c2] at H
  have c2b0 : decide (128 < (l0.length : Int)) = false:=decide_eq_false c2
  have c2b1 : decide (128 < l0.length) = false:=decide_eq_false (by omega)
  clear c2
  obtain ⟨t472,A5,H⟩:=qH H
  simp only [Option.some.injEq,Prod.mk.injEq] at H
  obtain ⟨rfl,rfl⟩:=H
  go_enter Try.func36,Try.ntmps36
  go_wp2_with (first|((with_reducible refine gate_callee (f:=101) rfl ?_);refine gL (some 9) Try.func101 #[.slice A0 l0.length c0] ?_;(with_reducible refine (sacristyref01_Of.calls k _ _ l0 t472 _ ?side1 ?side2 A5.out).mono ?_);(case side1 => exact qC HR0);(case side2 => exact HC0.out);rintro e w6 ⟨v473,rfl,ho0,hb⟩;refine ⟨_,rfl,?_⟩;have HO474:=Aside0.mk (Kd.V_lower (Kd.V_mono (ok':=fun k_ => (w.heap.size ≤ k_)) ho0 (fun k_ hk_ => (Nat.le_trans (below_size (qS HB)) hk_))) (below_size (qS HB)));replace HB:=qs HB hb;clear hb ho0))
  (first|go_ret2|(refine ⟨_,results_tmp2 rfl _ _ _,?_⟩))
  exact ⟨_,by first|rfl|(simp [errW_none,errW_some] <;> rfl)|(simp [*,errW_none,errW_some] <;> rfl),qVm HO474,qS HB⟩
end Go.Proofs.Yteejcpbngnojkaa.P
end
section
namespace Go.Proofs.Yteejcpbngnojkaa.P
open Go.RowKit Go.Proofs.YteejcpbngnojkaaW.PrintWords Go.Proofs.YteejcpbngnojkaaW.PrintLast Go.Proofs.YteejcpbngnojkaaW.PrintMore
attribute [local go_sem] max2_int min2_int max_two min_two max_three min_three max_four min_four
set_option linter.unusedVariables false
set_option linter.unusedSimpArgs false
mutual
def sacristylaw01_NatBytes.j0 : Nat → List Int → Int → Bool → Option (Bool)
 |0,_,_,_ => none
 |k + 1,x0,x1,x25 => if x25 = true then ((sacristylaw01_lives.f k).bind fun t476 => (some t476)) else ((some (([] : List Int) : List Int)).bind fun y477 => (if y477.length + x0.length < 140737488355328 then ((some (y477 ++ x0 : List Int)).bind fun y480 => ((nat_FromBytes.f k y480).bind fun bt483 => ((sacristyref01_Get.f k x0).bind fun bt488 => (if bt483.2 = bt488.2 then (if (strOfNums y480).toList = (strOfNums x0).toList then ((sacristylaw01_Same.f k bt483.1 bt488.1).bind fun t492 => (sacristylaw01_NatBytes.j1 k x1 y480 bt488.1 (!t492) bt483.1)) else (sacristylaw01_NatBytes.j1 k x1 y480 bt488.1 true bt483.1)) else (sacristylaw01_NatBytes.j1 k x1 y480 bt488.1 true bt483.1))))) else (none)))
def sacristylaw01_NatBytes.j1 : Nat → Int → List Int → List Bool → Bool → List Int → Option (Bool)
 |0,_,_,_,_,_ => none
 |k + 1,x1,x5,x8,x55,x488000 => if x55 = true then (none) else (sacristylaw01_NatBytes.l0 k x1 x5 x8 (x5.length : Int) 0 x488000)
def sacristylaw01_NatBytes.l0 : Nat → Int → List Int → List Bool → Int → Int → List Int → Option (Bool)
 |0,_,_,_,_,_,_ => none
 |k + 1,x1,x5,x8,x57,x58,x488000 => if x58 < x57 then (if 0 ≤ x58 then (if x58 < (x5.length : Int) then (sacristylaw01_NatBytes.l0 k x1 (x5.set (x58 : Int).toNat (Go.bits .xor .u8 (rd x5 x58) 255)) x8 x57 (wrap64 (x58 + 1)) x488000) else (none)) else (none)) else ((nat_Nat_Bytes.f k x488000 x1).bind fun bt495 => (if x1 < 0 then (if bt495.2 = 1 then (some ((bt495.1.length : Int) == 0)) else (none)) else ((sacristyref01_Bytes.f k x8 x1).bind fun bt499 => ((sacristylaw01_Same.f k x488000 x8).bind fun t503 => (if t503 = true then (if (strOfNums bt495.1).toList = (strOfNums bt499.1).toList then (if bt499.2 = true then (if bt495.2 = 0 then (some true) else (none)) else (some (bt495.2 == 2))) else (none)) else (none))))))
end
def sacristylaw01_NatBytes.f (k : Nat) (l0 : List Int) (a1 : Int) : Option (Bool):=(sacristylaw01_lives.f k).bind fun t475 => (if t475 = true then (if a1 > 1000 then (sacristylaw01_NatBytes.j0 k l0 a1 true) else (sacristylaw01_NatBytes.j0 k l0 a1 (decide ((l0.length : Int) > 1000)))) else (sacristylaw01_NatBytes.j0 k l0 a1 true))
theorem sacristylaw01_NatBytes.mono_l : ∀ k,(∀ y0 y1 y2,LeO (sacristylaw01_NatBytes.j0 k y0 y1 y2) (sacristylaw01_NatBytes.j0 (k + 1) y0 y1 y2)) ∧ (∀ y0 y1 y2 y3 y4,LeO (sacristylaw01_NatBytes.j1 k y0 y1 y2 y3 y4) (sacristylaw01_NatBytes.j1 (k + 1) y0 y1 y2 y3 y4)) ∧ (∀ y0 y1 y2 y3 y4 y5,LeO (sacristylaw01_NatBytes.l0 k y0 y1 y2 y3 y4 y5) (sacristylaw01_NatBytes.l0 (k + 1) y0 y1 y2 y3 y4 y5))
 |0 => ⟨fun _ _ _ r h => by simp [sacristylaw01_NatBytes.j0] at h,fun _ _ _ _ _ r h => by simp [sacristylaw01_NatBytes.j1] at h,fun _ _ _ _ _ _ r h => by simp [sacristylaw01_NatBytes.l0] at h⟩
 |k + 1 => by
  obtain ⟨ih0,ih1,ih2⟩:=sacristylaw01_NatBytes.mono_l k
  refine ⟨?_,?_,?_⟩
  ·intro y0 y1 y2
   unfold sacristylaw01_NatBytes.j0
   repeat' first
   |(with_reducible exact ih0 _ _ _)
   |(with_reducible exact ih1 _ _ _ _ _)
   |(with_reducible exact ih2 _ _ _ _ _ _)
   |(with_reducible exact nat_FromBytes.mono _ _)
   |(with_reducible exact nat_Nat_Bytes.mono _ _ _)
   |(with_reducible exact sacristylaw01_Same.mono _ _ _)
   |(with_reducible exact sacristylaw01_lives.mono _)
   |(with_reducible exact sacristyref01_Bytes.mono _ _ _)
   |(with_reducible exact sacristyref01_Get.mono _ _)
   |(with_reducible exact LeO.refl _)
   |(with_reducible exact LeO.none _)
   |(with_reducible refine LeO.ite ?_ ?_)
   |(with_reducible refine LeO.bind ?_ (fun _ => ?_))
   |exact ih0 _ _ _
   |exact ih1 _ _ _ _ _
   |exact ih2 _ _ _ _ _ _
   |exact nat_FromBytes.mono _ _
   |exact nat_Nat_Bytes.mono _ _ _
   |exact sacristylaw01_Same.mono _ _ _
   |exact sacristylaw01_lives.mono _
   |exact sacristyref01_Bytes.mono _ _ _
   |exact sacristyref01_Get.mono _ _
   |exact LeO.none _
   |refine LeO.ite ?_ ?_
   |refine LeO.bind ?_ (fun _ => ?_)
  ·intro y0 y1 y2 y3 y4
   unfold sacristylaw01_NatBytes.j1
   repeat' first
   |(with_reducible exact ih0 _ _ _)
   |(with_reducible exact ih1 _ _ _ _ _)
   |(with_reducible exact ih2 _ _ _ _ _ _)
   |(with_reducible exact nat_FromBytes.mono _ _)
   |(with_reducible exact nat_Nat_Bytes.mono _ _ _)
   |(with_reducible exact sacristylaw01_Same.mono _ _ _)
   |(with_reducible exact sacristylaw01_lives.mono _)
   |(with_reducible exact sacristyref01_Bytes.mono _ _ _)
   |(with_reducible exact sacristyref01_Get.mono _ _)
   |(with_reducible exact LeO.refl _)
   |(with_reducible exact LeO.none _)
   |(with_reducible refine LeO.ite ?_ ?_)
   |(with_reducible refine LeO.bind ?_ (fun _ => ?_))
   |exact ih0 _ _ _
   |exact ih1 _ _ _ _ _
   |exact ih2 _ _ _ _ _ _
   |exact nat_FromBytes.mono _ _
   |exact nat_Nat_Bytes.mono _ _ _
   |exact sacristylaw01_Same.mono _ _ _
   |exact sacristylaw01_lives.mono _
   |exact sacristyref01_Bytes.mono _ _ _
   |exact sacristyref01_Get.mono _ _
   |exact LeO.none _
   |refine LeO.ite ?_ ?_
   |refine LeO.bind ?_ (fun _ => ?_)
  ·intro y0 y1 y2 y3 y4 y5
   unfold sacristylaw01_NatBytes.l0
   repeat' first
   |(with_reducible exact ih0 _ _ _)
   |(with_reducible exact ih1 _ _ _ _ _)
   |(with_reducible exact ih2 _ _ _ _ _ _)
   |(with_reducible exact nat_FromBytes.mono _ _)
   |(with_reducible exact nat_Nat_Bytes.mono _ _ _)
   |(with_reducible exact sacristylaw01_Same.mono _ _ _)
   |(with_reducible exact sacristylaw01_lives.mono _)
   |(with_reducible exact sacristyref01_Bytes.mono _ _ _)
   |(with_reducible exact sacristyref01_Get.mono _ _)
   |(with_reducible exact LeO.refl _)
   |(with_reducible exact LeO.none _)
   |(with_reducible refine LeO.ite ?_ ?_)
   |(with_reducible refine LeO.bind ?_ (fun _ => ?_))
   |exact ih0 _ _ _
   |exact ih1 _ _ _ _ _
   |exact ih2 _ _ _ _ _ _
   |exact nat_FromBytes.mono _ _
   |exact nat_Nat_Bytes.mono _ _ _
   |exact sacristylaw01_Same.mono _ _ _
   |exact sacristylaw01_lives.mono _
   |exact sacristyref01_Bytes.mono _ _ _
   |exact sacristyref01_Get.mono _ _
   |exact LeO.none _
   |refine LeO.ite ?_ ?_
   |refine LeO.bind ?_ (fun _ => ?_)
theorem sacristylaw01_NatBytes.mono : ∀ a0 a1 k,LeO (sacristylaw01_NatBytes.f k a0 a1) (sacristylaw01_NatBytes.f (k + 1) a0 a1):=by
 intro a0 a1 k
 obtain ⟨ih0,ih1,ih2⟩:=sacristylaw01_NatBytes.mono_l k
 unfold sacristylaw01_NatBytes.f
 repeat' first
   |(with_reducible exact ih0 _ _ _)
   |(with_reducible exact ih1 _ _ _ _ _)
   |(with_reducible exact ih2 _ _ _ _ _ _)
   |(with_reducible exact nat_FromBytes.mono _ _)
   |(with_reducible exact nat_Nat_Bytes.mono _ _ _)
   |(with_reducible exact sacristylaw01_Same.mono _ _ _)
   |(with_reducible exact sacristylaw01_lives.mono _)
   |(with_reducible exact sacristyref01_Bytes.mono _ _ _)
   |(with_reducible exact sacristyref01_Get.mono _ _)
   |(with_reducible exact LeO.refl _)
   |(with_reducible exact LeO.none _)
   |(with_reducible refine LeO.ite ?_ ?_)
   |(with_reducible refine LeO.bind ?_ (fun _ => ?_))
   |exact ih0 _ _ _
   |exact ih1 _ _ _ _ _
   |exact ih2 _ _ _ _ _ _
   |exact nat_FromBytes.mono _ _
   |exact nat_Nat_Bytes.mono _ _ _
   |exact sacristylaw01_Same.mono _ _ _
   |exact sacristylaw01_lives.mono _
   |exact sacristyref01_Bytes.mono _ _ _
   |exact sacristyref01_Get.mono _ _
   |exact LeO.none _
   |refine LeO.ite ?_ ?_
   |refine LeO.bind ?_ (fun _ => ?_)
set_option maxHeartbeats 8000000 in
set_option maxRecDepth 100000 in
theorem sacristylaw01_NatBytes.calls (k : Nat) (A0 : Option Addr) (c0 : Nat) (l0 : List Int) (a1 : Int) (r : Bool) (w : World) (hr0 : Kd.C (Kd.int .u8) w A0 l0.length l0) (hc0 : l0.length ≤ c0) (h : sacristylaw01_NatBytes.f k l0 a1 = some r) :
  Calls Try.prog 7 #[.slice A0 l0.length c0,.int .i64 a1] w fun e w' => e = .returned (.bool r) ∧ Below w.heap.size w w':=by
 have hu38:=Try.underlying38
 have HR0:=Aside0.mk hr0
 have HC0:=Aside0.mk hc0
 clear hr0 hc0
 have HB:=Aside0.mk (Below.refl w.heap.size w)
 have H : ((sacristylaw01_lives.f k).bind fun t475 => (if t475 = true then (if a1 > 1000 then (sacristylaw01_NatBytes.j0 k l0 a1 true) else (sacristylaw01_NatBytes.j0 k l0 a1 (decide ((l0.length : Int) > 1000)))) else (sacristylaw01_NatBytes.j0 k l0 a1 true))) = some r:=h
 clear h
 have HC3:=Aside0.mk H
 clear H
 go_enter Try.func7,Try.ntmps7
 go_upto_region 1 with (fail)
 go_cut [25] (fun v25 wc => ∃ (kq : Nat) (x25_2 : Bool),v25 = .bool x25_2 ∧ Aside0 (sacristylaw01_NatBytes.j0 kq l0 a1 x25_2 = some r) ∧ Aside0 (kq ≤ k) ∧ Aside0 (Below w.heap.size w wc))
 case first =>
  have H:=HC3.out
  clear HC3
  obtain ⟨t475,A4,H⟩:=qH H
  by_cases c5 : t475 = true
  ·subst c5
   rw [if_pos rfl] at H
   by_cases c6 : a1 > 1000
   ·rw [if_pos c6] at H
    have c6b0 : decide (1000 < a1) = true:=decide_eq_true c6
    clear c6
    (first|rw [c6b0]|(simp only [i64_w,i32_w];rw [c6b0])|skip)
    have H':=Aside0.mk H
    clear H
    go_wp2_with (first|((with_reducible refine gate_callee (f:=34) rfl ?_);refine gL (some 15) Try.func34 #[] ?_;(with_reducible refine (sacristylaw01_lives.calls k  true _ A4.out).mono ?_);rintro e w7 ⟨rfl,hb⟩;refine ⟨_,rfl,?_⟩;replace HB:=qs HB hb;clear hb))
    go_meet
    case rel => exact ⟨_,(true),(by first|rfl|(simp;done)|(simp [*];done)),H',⟨by first|omega|exact Nat.le_refl _⟩,⟨qS HB⟩⟩
   ·rw [if_neg c6] at H
    have c6b0 : decide (1000 < a1) = false:=decide_eq_false c6
    clear c6
    (first|rw [c6b0]|(simp only [i64_w,i32_w];rw [c6b0])|skip)
    have H':=Aside0.mk H
    clear H
    go_wp2_with (first|((with_reducible refine gate_callee (f:=34) rfl ?_);refine gL (some 15) Try.func34 #[] ?_;(with_reducible refine (sacristylaw01_lives.calls k  true _ A4.out).mono ?_);rintro e w8 ⟨rfl,hb⟩;refine ⟨_,rfl,?_⟩;replace HB:=qs HB hb;clear hb))
    go_meet
    case rel => exact ⟨_,(decide ((l0.length : Int) > 1000)),(by first|rfl|(simp;done)|(simp [*];done)),H',⟨by first|omega|exact Nat.le_refl _⟩,⟨qS HB⟩⟩
  ·replace c5:=Bool.eq_false_iff.mpr c5
   subst c5
   rw [qFT] at H
   have H':=Aside0.mk H
   clear H
   go_wp2_with (first|((with_reducible refine gate_callee (f:=34) rfl ?_);refine gL (some 15) Try.func34 #[] ?_;(with_reducible refine (sacristylaw01_lives.calls k  false _ A4.out).mono ?_);rintro e w9 ⟨rfl,hb⟩;refine ⟨_,rfl,?_⟩;replace HB:=qs HB hb;clear hb))
   go_meet
   case rel => exact ⟨_,(true),(by first|rfl|(simp;done)|(simp [*];done)),H',⟨by first|omega|exact Nat.le_refl _⟩,⟨qS HB⟩⟩
 case rest =>
  clear HC3
  try clear p2
  try clear c3
  try clear c5
  try clear c6
  try clear c6b0
  try clear c7
  obtain ⟨kq,x25_2,rfl,HA,HJ2,HB⟩:=hcut
  cases kq with
  |zero => exact absurd HA.out (by simp [sacristylaw01_NatBytes.j0])
  |succ kj2 =>
   have H:=HA.out
   clear HA
   simp only [sacristylaw01_NatBytes.j0] at H
   by_cases c10 : x25_2 = true
   ·subst c10
    rw [if_pos rfl] at H
    obtain ⟨t476,A11,H⟩:=qH H
    obtain rfl:=Option.some.inj H
    go_wp2_with (first|((with_reducible refine gate_callee (f:=34) rfl ?_);refine gL (some 26) Try.func34 #[] ?_;(with_reducible refine (sacristylaw01_lives.calls kj2  t476 _ A11.out).mono ?_);rintro e w12 ⟨rfl,hb⟩;refine ⟨_,rfl,?_⟩;replace HB:=qs HB hb;clear hb))
    (first|go_ret|(refine ⟨_,results_tmp rfl _ _ _,?_⟩))
    exact ⟨by first|rfl|(simp [errW_none,errW_some] <;> rfl)|(simp [*,errW_none,errW_some] <;> rfl),qS HB⟩
   ·replace c10:=Bool.eq_false_iff.mpr c10
    subst c10
    rw [qFT] at H
    obtain ⟨y477,hy477⟩ : ∃ y_ : List Int,y_ = (([] : List Int)):=⟨_,rfl⟩
    replace H : (if y477.length + l0.length < 140737488355328 then ((some (y477 ++ l0 : List Int)).bind fun y480 => ((nat_FromBytes.f kj2 y480).bind fun bt483 => ((sacristyref01_Get.f kj2 l0).bind fun bt488 => (if bt483.2 = bt488.2 then (if (strOfNums y480).toList = (strOfNums l0).toList then ((sacristylaw01_Same.f kj2 bt483.1 bt488.1).bind fun t492 => (sacristylaw01_NatBytes.j1 kj2 a1 y480 bt488.1 (!t492) bt483.1)) else (sacristylaw01_NatBytes.j1 kj2 a1 y480 bt488.1 true bt483.1)) else (sacristylaw01_NatBytes.j1 kj2 a1 y480 bt488.1 true bt483.1))))) else (none)) = some r:=by first|(rw [hy477];with_reducible exact H)|(have H2_:=(Option.bind_some _ _).symm.trans H;rw [hy477];with_reducible exact H2_)|(have H2_:=(Option.bind_some _ _).symm.trans H;with_reducible exact H2_)|with_reducible exact H|(rw [hy477];exact H)|exact H
    have Ny477:=Aside0.mk hy477
    clear hy477
    by_cases c13 : y477.length + l0.length < 140737488355328
    ·rw [if_pos c13] at H
     have LMc13:=Aside0.mk c13
     clear c13
     obtain ⟨y480,hy480⟩ : ∃ y_ : List Int,y_ = (y477 ++ l0):=⟨_,rfl⟩
     replace H : ((nat_FromBytes.f kj2 y480).bind fun bt483 => ((sacristyref01_Get.f kj2 l0).bind fun bt488 => (if bt483.2 = bt488.2 then (if (strOfNums y480).toList = (strOfNums l0).toList then ((sacristylaw01_Same.f kj2 bt483.1 bt488.1).bind fun t492 => (sacristylaw01_NatBytes.j1 kj2 a1 y480 bt488.1 (!t492) bt483.1)) else (sacristylaw01_NatBytes.j1 kj2 a1 y480 bt488.1 true bt483.1)) else (sacristylaw01_NatBytes.j1 kj2 a1 y480 bt488.1 true bt483.1)))) = some r:=by first|(rw [hy480];with_reducible exact H)|(have H2_:=(Option.bind_some _ _).symm.trans H;rw [hy480];with_reducible exact H2_)|(have H2_:=(Option.bind_some _ _).symm.trans H;with_reducible exact H2_)|with_reducible exact H|(rw [hy480];exact H)|exact H
     have Ny480:=Aside0.mk hy480
     clear hy480
     obtain ⟨⟨t483,t486⟩,A14,H⟩:=qH H
     dsimp only at H
     obtain ⟨⟨t488,t491⟩,A15,H⟩:=qH H
     dsimp only at H
     have HC16:=Aside0.mk H
     clear H
     go_upto_region 6 with (first|((with_reducible refine gate_dst (N:=27) rfl ?_);(try (refine gate_guard (by rfl) ?_;dsimp only));refine Kd.R_lit (Kd.int .u8) _ 5 ?hg (N:=27) ?hd (xs:=([] : List Int)) (inner:=[]) (ok:=fun _ => True) (okp:=fun _ => True) ?hr ?hp (fun _ hk => hk) trivial (Below.refl _ _) (Nat.le_refl _) (by simp) ?_;(case hd => rfl);(case hg => rfl);(case hr => first|(go_simp;done)|(go_simp;rfl));(case hp => exact (Reps.none _ _));intro v478 w17 ho18 hb hg_ hnew_;clear hg_ hnew_;(first|rw [← Ny477.out] at ho18|(simp only [Int.reduceToNat] at ho18;rw [← Ny477.out] at ho18));have HO479:=Aside0.mk (Kd.R_lower ho18 (below_size (qS HB)));replace HB:=qs HB hb;clear hb ho18)|((with_reducible refine gate_builtin (b:=.append) (xs:=#[.tmp 27,.tmp 28]) rfl ?_);(try (refine gate_guard (by rfl) ?_;dsimp only));at_builtin;refine Kd.R_append_rows (Kd.int .u8) (w0:=w) w.heap.size rfl (.tmp 27) (.tmp 28) 22 5 (.int .u8 0) 1 rfl Try.underlying22 info5 rfl (by decide) (by omega) v478 y477 l0 _ _ _ (fun _ => True) (fun _ => False) rfl rfl ?aO ?aR (fun _ _ h => h) (fun _ h => h.elim) ?aF ?aB ?aS ?aL ?_;(case aR => exact qCB HR0 HB);(case aB => exact (qS HB));(case aF => exact (fun _ _ => trivial));(case aO => exact (qRm HO479));(case aS => exact (below_size (qS HB)));(case aL => have:=LMc13.out;omega);intro v481 w19 ho hb hg hat;rw [← Ny480.out] at ho;replace HB:=Aside0.mk (hb);have HO482:=Aside0.mk (ho);(try clear HO479);clear ho hb hg hat;obtain ⟨Ao20,co20,eo20⟩:=Kd.R_slice HO482.out;subst eo20)|((with_reducible refine gate_callee (f:=35) rfl ?_);refine gL (some 32) Try.func35 #[.slice Ao20 y480.length co20] ?_;(with_reducible refine (nat_FromBytes.calls kj2 _ _ y480 t483 t486 _ ?side1 ?side2 A14.out).mono ?_);(case side1 => exact qCR HO482);(case side2 => exact qLR HO482);rintro e w21 ⟨v484,rfl,ho0,hb⟩;refine ⟨_,rfl,?_⟩;have HO485:=Aside0.mk (Kd.V_lower (Kd.V_mono (ok':=fun k_ => some k_ ≠ (.slice Ao20 y480.length co20 : Value).ownBlock) ho0 (fun k_ hk_ => (Kd.fresh' (Kd.R_lt (qRm HO482)) k_ hk_))) (below_size (qS HB)));replace HO482:=qRb HO482 hb;replace HB:=qs HB hb;clear hb ho0)|((with_reducible refine gate_dst (N:=6) rfl ?_);(try (refine gate_guard (by rfl) ?_;dsimp only));refine qX #[.slice none 0 0] 38 ?_;intro gb487 hg w22 hbox hb;replace HO482:=qRb HO482 hb;replace HO485:=qVe HO485 hb hg;have BK487:=Aside0.mk hbox;have GE487:=qh hg HB;replace HB:=qs HB hb;clear hb hbox hg;obtain ⟨Ao23,co23,eo23⟩:=Kd.V_slice HO485.out;subst eo23;have hcz24_0:=bc BK487;have hfz24_0:=bz BK487)|((with_reducible refine gate_callee (f:=36) rfl ?_);refine gL (some 37) Try.func36 #[.slice A0 l0.length c0] ?_;(with_reducible refine (sacristyref01_Get.calls kj2 _ _ l0 t488 t491 _ ?side1 ?side2 A15.out).mono ?_);(case side1 => exact Kd.C_below HR0.out (qS HB));(case side2 => exact HC0.out);rintro e w25 ⟨v489,rfl,ho0,hb⟩;refine ⟨_,rfl,?_⟩;replace HO485:=qVb HO485 hb;have HO490:=Aside0.mk (Kd.V_lower (Kd.V_mono (ok':=fun k_ => some k_ ≠ (.slice Ao20 y480.length co20 : Value).ownBlock ∧ k_ ≠ gb487) ho0 (fun k_ hk_ => ⟨(Kd.fresh' (Kd.R_lt (qR (Kd.R_mono (Kd.R_far (p:=⟨gb487,0,none⟩) (Kd.R_types HO482.out BK487.out (by decide)) (fun _ hk => hk.2) (.slice Ao23 t483.length co23)) (fun _ h_ => h_.1)))) k_ hk_),(Kd.freshB (g:=gb487) (o:=.cells #[.slice Ao23 t483.length co23] 38 (0,0)) (by (with_reducible repeat (first|refine blk_drewN ?_ _|refine blk_drew ?_|refine blk_alloc ?_ _));refine blk_put (cs:=#[.slice none 0 0]) ?_ 0 _ rfl;(with_reducible repeat (first|refine blk_drewN ?_ _|refine blk_drew ?_|refine blk_alloc ?_ _));exact BK487.out) k_ hk_)⟩)) (below_size (qS HB)));replace HO482:=Aside0.mk (Kd.R_below (qR (Kd.R_mono (Kd.R_far (p:=⟨gb487,0,none⟩) (Kd.R_types HO482.out BK487.out (by decide)) (fun _ hk => hk.2) (.slice Ao23 t483.length co23)) (fun _ h_ => h_.1))) hb);replace BK487:=Aside0.mk (blk_below (g:=gb487) (o:=.cells #[.slice Ao23 t483.length co23] 38 (0,0)) (by (with_reducible repeat (first|refine blk_drewN ?_ _|refine blk_drew ?_|refine blk_alloc ?_ _));refine blk_put (cs:=#[.slice none 0 0]) ?_ 0 _ rfl;(with_reducible repeat (first|refine blk_drewN ?_ _|refine blk_drew ?_|refine blk_alloc ?_ _));exact BK487.out) hb);replace HB:=qs HB hb;clear hb ho0))
     (try simp only [Act.put,List.setIfInBounds_toArray,List.set_cons_zero,List.set_cons_succ])
     go_cut [55] (fun v55 wc => ∃ (kq : Nat) (x55_15 : Bool),v55 = .bool x55_15 ∧ Aside0 (sacristylaw01_NatBytes.j1 kq a1 y480 t488 x55_15 t483 = some r) ∧ Aside0 (kq ≤ kj2) ∧ Aside0 (Kd.R (Kd.int .u8) 5 wc w.heap.size (fun _ => True) (.slice Ao20 y480.length co20) y480) ∧ Aside0 (Kd.V Kd.bool 4 wc w.heap.size (fun k_ => some k_ ≠ ((.slice Ao20 y480.length co20) : Value).ownBlock ∧ k_ ≠ gb487) v489 t488) ∧ Aside0 (Kd.V (Kd.int .u32) 23 wc w.heap.size (fun k_ => some k_ ≠ ((.slice Ao20 y480.length co20) : Value).ownBlock ∧ k_ ≠ gb487) (.slice Ao23 t483.length co23) t483) ∧ Aside0 (wc.heap[gb487]? = some (.cells #[(.slice Ao23 t483.length co23)] 38 (0,0))) ∧ Aside0 (Below w.heap.size w wc))
     case first =>
      have H:=HC16.out
      clear HC16
      by_cases c26 : t486 = t491
      ·rw [if_pos c26] at H
       have c26b0 : (t486 == t491) = true:=beq_iff_eq.mpr c26
       have c26b1 : (t486 != t491) = false:=bne_eq_false_iff_eq.mpr c26
       clear c26
       (first|rw [c26b0]|(simp only [i64_w,i32_w];rw [c26b0])|skip)
       by_cases c27 : (strOfNums y480).toList = (strOfNums l0).toList
       ·rw [if_pos c27] at H
        have c27b0 : ((strOfNums y480).toList == (strOfNums l0).toList) = true:=beq_iff_eq.mpr c27
        have c27b1 : ((strOfNums y480).toList != (strOfNums l0).toList) = false:=bne_eq_false_iff_eq.mpr c27
        clear c27
        obtain ⟨t492,A28,H⟩:=qH H
        have H':=Aside0.mk H
        clear H
        have hcv29:=own_string (P:=Try.prog) Try.underlying22 Try.underlying5 Try.underlying9 (Kd.own_of_R HO482.out)
        have hcv30:=Kd.C_string (P:=Try.prog) (A:=A0) (c:=c0) Try.underlying22 Try.underlying5 Try.underlying9 (Kd.C_below HR0.out HB.out)
        have hcz31_0:=bc BK487
        have hfz31_0:=bz BK487
        obtain ⟨Ao32,co32,eo32⟩:=Kd.V_slice HO490.out
        subst eo32
        go_wp2_with (first|(go_at_call 37;(with_reducible refine (sacristylaw01_Same.calls kj2 _ _ t483 _ _ t488 t492 _ ?side1 ?side2 ?side3 ?side4 A28.out).mono ?_);(case side1 => exact qCV HO485);(case side2 => exact qL HO485);(case side3 => exact qCV HO490);(case side4 => exact qL HO490);rintro e w33 ⟨rfl,hb⟩;replace HO482:=qRb HO482 hb;replace HO485:=qVb HO485 hb;replace HO490:=qVb HO490 hb;replace BK487:=qb BK487 hb;replace HB:=qs HB hb;clear hb))
        go_meet
        case rel => exact ⟨_,(!t492),(by first|rfl|(simp;done)|(simp [*];done)),H',⟨by have:=HJ2.out;first|omega|exact Nat.le_refl _⟩,⟨qRm HO482⟩,⟨qVm HO490⟩,⟨qVm HO485⟩,⟨qB BK487.out⟩,⟨qS HB⟩⟩
       ·rw [if_neg c27] at H
        have c27b0 : ((strOfNums y480).toList == (strOfNums l0).toList) = false:=beq_eq_false_iff_ne.mpr c27
        have c27b1 : ((strOfNums y480).toList != (strOfNums l0).toList) = true:=bne_iff_ne.mpr c27
        have H':=Aside0.mk H
        clear H
        have hcv34:=own_string (P:=Try.prog) Try.underlying22 Try.underlying5 Try.underlying9 (Kd.own_of_R HO482.out)
        have hcv35:=Kd.C_string (P:=Try.prog) (A:=A0) (c:=c0) Try.underlying22 Try.underlying5 Try.underlying9 (Kd.C_below HR0.out HB.out)
        go_wp2
        go_meet
        case rel => exact ⟨_,(true),(by first|rfl|(simp;done)|(simp [*];done)),H',⟨by have:=HJ2.out;first|omega|exact Nat.le_refl _⟩,⟨qRm HO482⟩,⟨qVm HO490⟩,⟨qVm HO485⟩,⟨qB BK487.out⟩,⟨qS HB⟩⟩
      ·rw [if_neg c26] at H
       have c26b0 : (t486 == t491) = false:=beq_eq_false_iff_ne.mpr c26
       have c26b1 : (t486 != t491) = true:=bne_iff_ne.mpr c26
       (first|rw [c26b0]|(simp only [i64_w,i32_w];rw [c26b0])|skip)
       have H':=Aside0.mk H
       clear H
       go_wp2
       go_meet
       case rel => exact ⟨_,(true),(by first|rfl|(simp;done)|(simp [*];done)),H',⟨by have:=HJ2.out;first|omega|exact Nat.le_refl _⟩,⟨qRm HO482⟩,⟨qVm HO490⟩,⟨qVm HO485⟩,⟨qB BK487.out⟩,⟨qS HB⟩⟩
     case rest =>
      clear HC16
      try clear c1
      try clear c2
      try clear p2
      try clear hcv2
      try clear c3
      try clear hcv3
      try clear c5
      try clear c6
      try clear c6b0
      try clear c7
      try clear c10
      try clear c13
      try clear c26
      try clear c26b0
      try clear c26b1
      try clear c27
      try clear c27b0
      try clear c27b1
      try clear hcv29
      try clear hcv30
      try clear c34
      try clear hcv34
      try clear c35
      try clear hcv35
      try clear hcz24_0
      try clear hcz31_0
      try clear hfz24_0
      try clear hfz31_0
      try clear p2
      obtain ⟨kq,x55_15,rfl,HA,HJ15,HO_5,HO_8,HO_488000,BK487,HB⟩:=hcut
      cases kq with
      |zero => exact absurd HA.out (by simp [sacristylaw01_NatBytes.j1])
      |succ kj15 =>
       have H:=HA.out
       clear HA
       simp only [sacristylaw01_NatBytes.j1] at H
       by_cases c36 : x55_15 = true
       ·subst c36
        rw [if_pos rfl] at H
        exact absurd H (by simp)
       ·replace c36:=Bool.eq_false_iff.mpr c36
        subst c36
        rw [qFT] at H
        have H':=Aside0.mk H
        clear H
        go_wp2
        go_loopg [58] kj15 (fun kq v58 w' => ∃ (x5_3 : List Int) (x58_3 : Int),v58 = .int .i64 x58_3 ∧ Aside0 (sacristylaw01_NatBytes.l0 kq a1 x5_3 t488 (y480.length : Int) x58_3 t483 = some r) ∧ Aside0 (kq ≤ kj15) ∧ Aside0 (Kd.R (Kd.int .u8) 5 w' w.heap.size (fun _ => True) (.slice Ao20 y480.length co20) x5_3) ∧ Aside0 (Kd.V Kd.bool 4 w' w.heap.size (fun k_ => some k_ ≠ ((.slice Ao20 y480.length co20) : Value).ownBlock ∧ k_ ≠ gb487) v489 t488) ∧ Aside0 (Kd.V (Kd.int .u32) 23 w' w.heap.size (fun k_ => some k_ ≠ ((.slice Ao20 y480.length co20) : Value).ownBlock ∧ k_ ≠ gb487) (.slice Ao23 t483.length co23) t483) ∧ Aside0 (w'.heap[gb487]? = some (.cells #[(.slice Ao23 t483.length co23)] 38 (0,0))) ∧ Aside0 (Below w.heap.size w w'))
        case atStart => exact ⟨(y480),(0),(by first|rfl|(simp;done)|(simp [*];done)),H',⟨Nat.le_refl _⟩,⟨qRm HO_5⟩,⟨qVm HO_8⟩,⟨qVm HO_488000⟩,⟨qB BK487.out⟩,⟨qS HB⟩⟩
        case round =>
         clear H'
         try clear c1
         try clear c2
         try clear p2
         try clear hcv2
         try clear c3
         try clear hcv3
         try clear c5
         try clear c6
         try clear c6b0
         try clear c7
         try clear c10
         try clear c13
         try clear c26
         try clear c26b0
         try clear c26b1
         try clear c27
         try clear c27b0
         try clear c27b1
         try clear hcv29
         try clear hcv30
         try clear c34
         try clear hcv34
         try clear c35
         try clear hcv35
         try clear c36
         try clear hcz24_0
         try clear hcz31_0
         try clear hfz24_0
         try clear hfz31_0
         try clear p2
         obtain ⟨x5_3,x58_3,rfl,HA,HK3,HO_5,HO_8,HO_488000,BK487,HB⟩:=hrel
         have hl5_3:=(Kd.R_reads' HO_5.out).1
         rw [hl5_3] at HO_5
         (try simp only [hl5_3])
         (try simp only [hl5_3] at BK487)
         (try simp only [hl5_3] at HO_8)
         (try simp only [hl5_3] at HO_488000)
         cases gk with
         |zero => exact absurd HA.out (by simp [sacristylaw01_NatBytes.l0])
         |succ k3 =>
          have H:=HA.out
          clear HA
          simp only [sacristylaw01_NatBytes.l0] at H
          by_cases c37 : x58_3 < (y480.length : Int)
          ·rw [if_pos c37] at H
           have c37b0 : decide (x58_3 < (y480.length : Int)) = true:=decide_eq_true c37
           (try rw [hl5_3] at c37b0)
           clear c37
           by_cases c38 : 0 ≤ x58_3
           ·rw [if_pos c38] at H
            have c38b0 : decide (0 ≤ x58_3) = true:=decide_eq_true c38
            clear c38
            by_cases c39 : x58_3 < (x5_3.length : Int)
            ·rw [if_pos c39] at H
             have c39b0 : decide (x58_3 < (x5_3.length : Int)) = true:=decide_eq_true c39
             clear c39
             obtain ⟨y494,hy494⟩ : ∃ y_ : List Int,y_ = (x5_3.set (x58_3 : Int).toNat (Go.bits .xor .u8 (rd x5_3 x58_3) 255)):=⟨_,rfl⟩
             replace H : (sacristylaw01_NatBytes.l0 k3 a1 y494 t488 (y480.length : Int) (wrap64 (x58_3 + 1)) t483) = some r:=by first|(rw [hy494];with_reducible exact H)|(have H2_:=(Option.bind_some _ _).symm.trans H;rw [hy494];with_reducible exact H2_)|(have H2_:=(Option.bind_some _ _).symm.trans H;with_reducible exact H2_)|with_reducible exact H|(rw [hy494];exact H)|exact H
             have Ny494:=Aside0.mk hy494
             clear hy494
             have H':=Aside0.mk H
             clear H
             have p493 : 0 ≤ (x58_3 : Int):=od
             have q493 : x58_3 < (x5_3.length : Int):=od
             obtain ⟨ad493,e493,hx493_0⟩:=Kd.at_int (Kd.R_reads' HO_5.out).2.2 x58_3 p493 q493
             cases e493
             replace p493:=eq_true p493
             replace q493:=eq_true q493
             have p40 : 0 ≤ (x58_3 : Int):=od
             have q40 : (x58_3 : Int) < ((x5_3.length : Int) : Int):=od
             obtain ⟨go40,co40,eo40,gb40,gl40,cl40,HG40⟩:=Kd.R_form HO_5.out (by omega)
             (first|cases eo40|(injection eo40 with ea_ en_ ec_;(first|subst ea_|(injection ea_ with ea_;subst ea_));subst ec_;clear en_))
             have GB40:=Aside0.mk gb40
             have GG40:=Aside0.mk HG40
             clear gb40 gl40 HG40
             (first|simp only [add_plain] at hx493_0|skip)
             obtain ⟨hx40_0,hf40_0⟩:=Kd.R_celln 0 HO_5.out (x58_3 : Int) p40 q40
             replace p40:=eq_true p40
             replace q40:=eq_true q40
             have HP41:=Kd.R_putg HO_5.out (x58_3 : Int) (Go.bits .xor .u8 (rd x5_3 x58_3) 255)
             go_wp2_with (first|((with_reducible refine gate_store (t:=5) (p:=66) rfl ?_);refine qSt (wr.setCell ⟨go40,(x58_3 : Int).toNat,none⟩ (.int .u8 (Go.bits .xor .u8 (rd x5_3 x58_3) 255))) ?_;intro w42 hw;have hg : wr.grownBy w42 (some go40):=(by rw [hw];exact HP41.2);have hp_ : Kd.R (Kd.int .u8) 5 w42 w.heap.size (fun _ => True) (.slice (some ⟨go40,0,none⟩) x5_3.length co20) y494:=(by rw [hw,Ny494.out];exact HP41.1);clear HP41;replace HO_8:=Aside0.mk (Kd.V_afterv (v:=(.slice (some ⟨go40,0,none⟩) x5_3.length co20)) (v1:=(.slice (some ⟨go40,0,none⟩) x5_3.length co20)) (ok:=(fun k_ => k_ ≠ gb487)) (qVm HO_8) hg (.inl rfl));replace HO_488000:=Aside0.mk (Kd.V_afterv (v:=(.slice (some ⟨go40,0,none⟩) x5_3.length co20)) (v1:=(.slice (some ⟨go40,0,none⟩) x5_3.length co20)) (ok:=(fun k_ => k_ ≠ gb487)) (qVm HO_488000) hg (.inl rfl));replace BK487:=Aside0.mk (blk_grown (g:=gb487) (o:=.cells #[.slice Ao23 t483.length co23] 38 (0,0)) (qB BK487.out) hg (Kd.R_ne HO_5.out BK487.out (by decide)));replace HO_5:=Aside0.mk (hp_);replace HB:=Aside0.mk ((by rw [hw];exact below_set (HB.out) GB40.out : Below w.heap.size w w42));clear hg hw hp_))
             (try simp only [← hl5_3])
             go_roundg k3
             case measure => have:=HJ2.out;have:=HJ15.out;have:=HK3.out;omega
             case rel => exact ⟨(y494),(wrap64 (x58_3 + 1)),(by first|rfl|(simp;done)|(simp [*];done)),H',⟨by have:=HJ2.out;have:=HJ15.out;have:=HK3.out;omega⟩,⟨by (try simp only [hl5_3]);(with_reducible repeat (first|apply Kd.R_alloc|apply Kd.R_drewN|apply Kd.R_drew));exact HO_5.out⟩,⟨by (try simp only [hl5_3]);(with_reducible repeat (first|apply Kd.V_alloc|apply Kd.V_drewN|apply Kd.V_drew));exact Kd.V_mono HO_8.out (fun _ hk => ⟨hk.2,hk.1⟩)⟩,⟨by (try simp only [hl5_3]);(with_reducible repeat (first|apply Kd.V_alloc|apply Kd.V_drewN|apply Kd.V_drew));exact Kd.V_mono HO_488000.out (fun _ hk => ⟨hk.2,hk.1⟩)⟩,⟨by (try simp only [hl5_3]);(with_reducible repeat (first|refine blk_drewN ?_ _|refine blk_drew ?_|refine blk_alloc ?_ _));exact BK487.out⟩,⟨qS HB⟩⟩
            ·rw [if_neg c39] at H
             exact absurd H (by simp)
           ·rw [if_neg c38] at H
            exact absurd H (by simp)
          ·rw [if_neg c37] at H
           have c37b0 : decide (x58_3 < (y480.length : Int)) = false:=decide_eq_false c37
           (try rw [hl5_3] at c37b0)
           clear c37
           obtain ⟨⟨t495,t498⟩,A43,H⟩:=qH H
           dsimp only at H
           by_cases c44 : a1 < 0
           ·rw [if_pos c44] at H
            have c44b0 : decide (a1 < 0) = true:=decide_eq_true c44
            clear c44
            by_cases c45 : t498 = 1
            ·rw [if_pos c45] at H
             have c45b0 : (t498 == 1) = true:=beq_iff_eq.mpr c45
             have c45b1 : (t498 != 1) = false:=bne_eq_false_iff_eq.mpr c45
             clear c45
             obtain rfl:=Option.some.inj H
             have hcz46_0 : wr.cell? ⟨gb487,0,none⟩ = some (.slice Ao23 t483.length co23):=bc BK487
             have hfz46_0:=bz BK487
             go_wp2_with (first|((with_reducible refine gate_callee (f:=38) rfl ?_);refine gL (some 71) Try.func38 #[.agg #[.slice Ao23 t483.length co23],.int .i64 a1] ?_;(with_reducible refine (nat_Nat_Bytes.calls k3 _ _ t483 a1 t495 t498 _ ?side1 ?side2 A43.out).mono ?_);(case side1 => exact qCV HO_488000);(case side2 => exact qL HO_488000);rintro e w47 ⟨v496,rfl,ho0,hb⟩;refine ⟨_,rfl,?_⟩;replace HO_8:=qVd HO_8 ho0 hb;replace HO_488000:=qVd HO_488000 ho0 hb;have HO497:=Aside0.mk (Kd.R_lower (Kd.R_new' ho0 (Kd.R_lt (qRm HO_5))) (below_size (qS HB)));replace HO_5:=qRd HO_5 ho0 hb;replace BK487:=qb BK487 hb;replace HB:=qs HB hb;clear hb ho0;obtain ⟨Ao48,co48,eo48⟩:=Kd.R_slice HO497.out;subst eo48))
             (first|go_ret|(refine ⟨_,results_tmp rfl _ _ _,?_⟩))
             exact ⟨by first|rfl|(simp [errW_none,errW_some] <;> rfl)|(simp [*,errW_none,errW_some] <;> rfl),qS HB⟩
            ·rw [if_neg c45] at H
             exact absurd H (by simp)
           ·rw [if_neg c44] at H
            have c44b0 : decide (a1 < 0) = false:=decide_eq_false c44
            clear c44
            obtain ⟨⟨t499,t500⟩,A49,H⟩:=qH H
            dsimp only at H
            obtain ⟨t503,A50,H⟩:=qH H
            by_cases c51 : t503 = true
            ·subst c51
             rw [if_pos rfl] at H
             by_cases c52 : (strOfNums t495).toList = (strOfNums t499).toList
             ·rw [if_pos c52] at H
              have c52b0 : ((strOfNums t495).toList == (strOfNums t499).toList) = true:=beq_iff_eq.mpr c52
              have c52b1 : ((strOfNums t495).toList != (strOfNums t499).toList) = false:=bne_eq_false_iff_eq.mpr c52
              clear c52
              by_cases c53 : t500 = true
              ·subst c53
               rw [if_pos rfl] at H
               by_cases c54 : t498 = 0
               ·rw [if_pos c54] at H
                have c54b0 : (t498 == 0) = true:=beq_iff_eq.mpr c54
                have c54b1 : (t498 != 0) = false:=bne_eq_false_iff_eq.mpr c54
                clear c54
                obtain rfl:=Option.some.inj H
                have hcz55_0 : wr.cell? ⟨gb487,0,none⟩ = some (.slice Ao23 t483.length co23):=bc BK487
                have hfz55_0:=bz BK487
                go_wp2_with (first|((with_reducible refine gate_callee (f:=38) rfl ?_);refine gL (some 71) Try.func38 #[.agg #[.slice Ao23 t483.length co23],.int .i64 a1] ?_;(with_reducible refine (nat_Nat_Bytes.calls k3 _ _ t483 a1 t495 t498 _ ?side1 ?side2 A43.out).mono ?_);(case side1 => exact qCV HO_488000);(case side2 => exact qL HO_488000);rintro e w56 ⟨v496,rfl,ho0,hb⟩;refine ⟨_,rfl,?_⟩;replace HO_8:=qVd HO_8 ho0 hb;replace HO_488000:=qVd HO_488000 ho0 hb;have HO497:=Aside0.mk (Kd.R_lower (Kd.R_new' ho0 (Kd.R_lt (qRm HO_5))) (below_size (qS HB)));replace HO_5:=qRd HO_5 ho0 hb;replace BK487:=qb BK487 hb;replace HB:=qs HB hb;clear hb ho0;obtain ⟨Ao57,co57,eo57⟩:=Kd.V_slice HO_8.out;subst eo57)|((with_reducible refine gate_callee (f:=39) rfl ?_);refine gL (some 86) Try.func39 #[.slice Ao57 t488.length co57,.int .i64 a1] ?_;(with_reducible refine (sacristyref01_Bytes.calls k3 _ _ t488 a1 t499 true _ ?side1 ?side2 A49.out).mono ?_);(case side1 => exact qCV HO_8);(case side2 => exact qL HO_8);rintro e w58 ⟨v501,rfl,ho0,hb⟩;refine ⟨_,rfl,?_⟩;replace HO_8:=qVd HO_8 ho0 hb;replace HO_488000:=qVd HO_488000 ho0 hb;have HO502:=Aside0.mk (Kd.R_lower (Kd.R_new' (Kd.R_new' ho0 (Kd.R_lt (qRm HO_5))) (Kd.R_lt (qRm HO497))) (below_size (qS HB)));replace HO_5:=qRd HO_5 ho0 hb;replace HO497:=qRd HO497 ho0 hb;replace BK487:=qb BK487 hb;replace HB:=qs HB hb;clear hb ho0;have hcz59_0:=bc BK487;have hfz59_0:=bz BK487)|((with_reducible refine gate_callee (f:=37) rfl ?_);refine gL (some 91) Try.func37 #[.agg #[.slice Ao23 t483.length co23],.slice Ao57 t488.length co57] ?_;(with_reducible refine (sacristylaw01_Same.calls k3 _ _ t483 _ _ t488 true _ ?side1 ?side2 ?side3 ?side4 A50.out).mono ?_);(case side1 => exact qCV HO_488000);(case side2 => exact qL HO_488000);(case side3 => exact qCV HO_8);(case side4 => exact qL HO_8);rintro e w60 ⟨rfl,hb⟩;refine ⟨_,rfl,?_⟩;replace HO_5:=qRb HO_5 hb;replace HO_8:=qVb HO_8 hb;replace HO_488000:=qVb HO_488000 hb;replace HO497:=qRb HO497 hb;replace HO502:=qRb HO502 hb;replace BK487:=qb BK487 hb;replace HB:=qs HB hb;clear hb;have hcv61:=own_string (P:=Try.prog) Try.underlying22 Try.underlying5 Try.underlying9 (Kd.own_of_R HO497.out);have hcv62:=own_string (P:=Try.prog) Try.underlying22 Try.underlying5 Try.underlying9 (Kd.own_of_R HO502.out)))
                (first|go_ret|(refine ⟨_,results_tmp rfl _ _ _,?_⟩))
                exact ⟨by first|rfl|(simp [errW_none,errW_some] <;> rfl)|(simp [*,errW_none,errW_some] <;> rfl),qS HB⟩
               ·rw [if_neg c54] at H
                exact absurd H (by simp)
              ·replace c53:=Bool.eq_false_iff.mpr c53
               subst c53
               rw [qFT] at H
               obtain rfl:=Option.some.inj H
               have hcz63_0 : wr.cell? ⟨gb487,0,none⟩ = some (.slice Ao23 t483.length co23):=bc BK487
               have hfz63_0:=bz BK487
               go_wp2_with (first|((with_reducible refine gate_callee (f:=38) rfl ?_);refine gL (some 71) Try.func38 #[.agg #[.slice Ao23 t483.length co23],.int .i64 a1] ?_;(with_reducible refine (nat_Nat_Bytes.calls k3 _ _ t483 a1 t495 t498 _ ?side1 ?side2 A43.out).mono ?_);(case side1 => exact qCV HO_488000);(case side2 => exact qL HO_488000);rintro e w64 ⟨v496,rfl,ho0,hb⟩;refine ⟨_,rfl,?_⟩;replace HO_8:=qVd HO_8 ho0 hb;replace HO_488000:=qVd HO_488000 ho0 hb;have HO497:=Aside0.mk (Kd.R_lower (Kd.R_new' ho0 (Kd.R_lt (qRm HO_5))) (below_size (qS HB)));replace HO_5:=qRd HO_5 ho0 hb;replace BK487:=qb BK487 hb;replace HB:=qs HB hb;clear hb ho0;obtain ⟨Ao65,co65,eo65⟩:=Kd.V_slice HO_8.out;subst eo65)|((with_reducible refine gate_callee (f:=39) rfl ?_);refine gL (some 86) Try.func39 #[.slice Ao65 t488.length co65,.int .i64 a1] ?_;(with_reducible refine (sacristyref01_Bytes.calls k3 _ _ t488 a1 t499 false _ ?side1 ?side2 A49.out).mono ?_);(case side1 => exact qCV HO_8);(case side2 => exact qL HO_8);rintro e w66 ⟨v501,rfl,ho0,hb⟩;refine ⟨_,rfl,?_⟩;replace HO_8:=qVd HO_8 ho0 hb;replace HO_488000:=qVd HO_488000 ho0 hb;have HO502:=Aside0.mk (Kd.R_lower (Kd.R_new' (Kd.R_new' ho0 (Kd.R_lt (qRm HO_5))) (Kd.R_lt (qRm HO497))) (below_size (qS HB)));replace HO_5:=qRd HO_5 ho0 hb;replace HO497:=qRd HO497 ho0 hb;replace BK487:=qb BK487 hb;replace HB:=qs HB hb;clear hb ho0;have hcz67_0:=bc BK487;have hfz67_0:=bz BK487)|((with_reducible refine gate_callee (f:=37) rfl ?_);refine gL (some 91) Try.func37 #[.agg #[.slice Ao23 t483.length co23],.slice Ao65 t488.length co65] ?_;(with_reducible refine (sacristylaw01_Same.calls k3 _ _ t483 _ _ t488 true _ ?side1 ?side2 ?side3 ?side4 A50.out).mono ?_);(case side1 => exact qCV HO_488000);(case side2 => exact qL HO_488000);(case side3 => exact qCV HO_8);(case side4 => exact qL HO_8);rintro e w68 ⟨rfl,hb⟩;refine ⟨_,rfl,?_⟩;replace HO_5:=qRb HO_5 hb;replace HO_8:=qVb HO_8 hb;replace HO_488000:=qVb HO_488000 hb;replace HO497:=qRb HO497 hb;replace HO502:=qRb HO502 hb;replace BK487:=qb BK487 hb;replace HB:=qs HB hb;clear hb;have hcv69:=own_string (P:=Try.prog) Try.underlying22 Try.underlying5 Try.underlying9 (Kd.own_of_R HO497.out);have hcv70:=own_string (P:=Try.prog) Try.underlying22 Try.underlying5 Try.underlying9 (Kd.own_of_R HO502.out)))
               (first|go_ret|(refine ⟨_,results_tmp rfl _ _ _,?_⟩))
               exact ⟨by first|rfl|(simp [errW_none,errW_some] <;> rfl)|(simp [*,errW_none,errW_some] <;> rfl),qS HB⟩
             ·rw [if_neg c52] at H
              exact absurd H (by simp)
            ·replace c51:=Bool.eq_false_iff.mpr c51
             subst c51
             rw [qFT] at H
             exact absurd H (by simp)
    ·rw [if_neg c13] at H
     exact absurd H (by simp)
def sacristylaw01_NatBytes.Pure : Prop:=∀ (l0 : List Int) (a1 : Int),l0.length ≤ maxLen → l0.length * 1 ≤ 140737488351232 → (∀ x ∈ l0,(Lit.int .u8 x).wf = true) → (Lit.int .i64 a1).wf = true → ∃ k,sacristylaw01_NatBytes.f k l0 a1 = some true
theorem sacristylaw01_NatBytes.walk (P : sacristylaw01_NatBytes.Pure) (a0 : Option Addr) (len0 cap0 : Nat) (z0 : List Int) (a1 : Int) (w : World) (w0 : (a0 = none ∧ len0 = 0 ∧ cap0 = 0 ∧ z0 = []) ∨ ∃ x,a0 = some x ∧ len0 ≤ cap0 ∧ cap0 ≤ maxLen ∧ z0.length = cap0 ∧ (∀ i,i < z0.length → w.cell? (x.add i) = some (.int .u8 (z0.getD i 0))) ∧ ∀ n ∈ z0,(Lit.int .u8 n).wf = true) (y0 : len0 * 1 ≤ 140737488351232) (w1 : (Lit.int .i64 a1).wf = true) :
  Calls Try.prog 7 #[.slice a0 len0 cap0,.int .i64 a1] w fun e w' => e = .returned (.bool true) ∧ Below w.heap.size w w':=by
 obtain ⟨l0,rfl,hr0,hm0,hw0,hc0⟩:=ReadsInt.ofRowC w0
 obtain ⟨k,h⟩:=P l0 a1 hm0 y0 hw0 w1
 refine (sacristylaw01_NatBytes.calls k _ _ l0 a1 true w (Kd.C_of_reads (d:=(0 : Int)) (h1:=fun _ => rfl) hr0) hc0 h).mono ?_
 rintro e w' ⟨rfl,hd⟩
 exact ⟨rfl,hd⟩
end Go.Proofs.Yteejcpbngnojkaa.P
end
section
namespace Go.Proofs.Yteejcpbngnojkaa.P
open Go.RowKit Go.Proofs.YteejcpbngnojkaaW.PrintWords Go.Proofs.YteejcpbngnojkaaW.PrintLast Go.Proofs.YteejcpbngnojkaaW.PrintMore
attribute [local go_sem] max2_int min2_int max_two min_two max_three min_three max_four min_four
set_option linter.unusedVariables false
set_option linter.unusedSimpArgs false
def sacristyref01_Cmp.l0 : Nat → List Bool → List Bool → Int → Option (Int)
 |0,_,_,_ => none
 |k + 1,x0,x1,x5 => if x5 ≥ 0 then (if 0 ≤ x5 then (if x5 < (x0.length : Int) then (if x5 < (x1.length : Int) then (if ((rdOf false x0 x5) != (rdOf false x1 x5)) = true then (if rdOf false x1 x5 = true then (some (-1)) else (some 1)) else (sacristyref01_Cmp.l0 k x0 x1 (wrap64 (x5 - 1)))) else (none)) else (none)) else (none)) else (some 0)
def sacristyref01_Cmp.f (k : Nat) (l0 : List Bool) (l1 : List Bool) : Option (Int):=if (l0.length : Int) < (l1.length : Int) then (some (-1)) else (if (l0.length : Int) > (l1.length : Int) then (some 1) else (sacristyref01_Cmp.l0 k l0 l1 (wrap64 ((l0.length : Int) - 1))))
theorem sacristyref01_Cmp.mono_l : ∀ k,(∀ y0 y1 y2,LeO (sacristyref01_Cmp.l0 k y0 y1 y2) (sacristyref01_Cmp.l0 (k + 1) y0 y1 y2))
 |0 => fun _ _ _ r h => by simp [sacristyref01_Cmp.l0] at h
 |k + 1 => by
  have ih0:=sacristyref01_Cmp.mono_l k
  ·intro y0 y1 y2
   unfold sacristyref01_Cmp.l0
   repeat' first
   |(with_reducible exact ih0 _ _ _)
   |(with_reducible exact LeO.refl _)
   |(with_reducible exact LeO.none _)
   |(with_reducible refine LeO.ite ?_ ?_)
   |(with_reducible refine LeO.bind ?_ (fun _ => ?_))
   |exact ih0 _ _ _
   |exact LeO.none _
   |refine LeO.ite ?_ ?_
   |refine LeO.bind ?_ (fun _ => ?_)
theorem sacristyref01_Cmp.mono : ∀ a0 a1 k,LeO (sacristyref01_Cmp.f k a0 a1) (sacristyref01_Cmp.f (k + 1) a0 a1):=by
 intro a0 a1 k
 have ih0:=sacristyref01_Cmp.mono_l k
 unfold sacristyref01_Cmp.f
 repeat' first
   |(with_reducible exact ih0 _ _ _)
   |(with_reducible exact LeO.refl _)
   |(with_reducible exact LeO.none _)
   |(with_reducible refine LeO.ite ?_ ?_)
   |(with_reducible refine LeO.bind ?_ (fun _ => ?_))
   |exact ih0 _ _ _
   |exact LeO.none _
   |refine LeO.ite ?_ ?_
   |refine LeO.bind ?_ (fun _ => ?_)
end Go.Proofs.Yteejcpbngnojkaa.P
end
section
namespace Go.Proofs.Yteejcpbngnojkaa.P
open Go.RowKit Go.Proofs.YteejcpbngnojkaaW.PrintWords Go.Proofs.YteejcpbngnojkaaW.PrintLast Go.Proofs.YteejcpbngnojkaaW.PrintMore
attribute [local go_sem] max2_int min2_int max_two min_two max_three min_three max_four min_four
set_option linter.unusedVariables false
set_option linter.unusedSimpArgs false
def sacristyref01_at.f (l0 : List Bool) (a1 : Int) : Option (Int):=if a1 ≥ 0 then (if a1 < (l0.length : Int) then (if 0 ≤ a1 then (if rdOf false l0 a1 = true then (some 1) else (some 0)) else (none)) else (some 0)) else (some 0)
end Go.Proofs.Yteejcpbngnojkaa.P
end
section
namespace Go.Proofs.Yteejcpbngnojkaa.P
open Go.RowKit Go.Proofs.YteejcpbngnojkaaW.PrintWords Go.Proofs.YteejcpbngnojkaaW.PrintLast Go.Proofs.YteejcpbngnojkaaW.PrintMore
attribute [local go_sem] max2_int min2_int max_two min_two max_three min_three max_four min_four
set_option linter.unusedVariables false
set_option linter.unusedSimpArgs false
def sacristyref01_Sub.l0 : Nat → List Bool → List Bool → List Bool → Int → Int → Option (List Bool)
 |0,_,_,_,_,_ => none
 |k + 1,x0,x1,x5,x6,x7 => if x7 < (x0.length : Int) then ((sacristyref01_at.f x0 x7).bind fun t738 => ((sacristyref01_at.f x1 x7).bind fun t739 => (if (wrap64 ((wrap64 (t738 - t739)) - x6)) < 0 then (if x5.length < 140737488355328 then (sacristyref01_Sub.l0 k x0 x1 (x5 ++ [((wrap64 ((wrap64 ((wrap64 (t738 - t739)) - x6)) + 2)) == 1)]) 1 (wrap64 (x7 + 1))) else (none)) else (if x5.length < 140737488355328 then (sacristyref01_Sub.l0 k x0 x1 (x5 ++ [((wrap64 ((wrap64 (t738 - t739)) - x6)) == 1)]) 0 (wrap64 (x7 + 1))) else (none))))) else ((sacristyref01_Trim.f k x5).bind fun t735 => (some t735))
def sacristyref01_Sub.f (k : Nat) (l0 : List Bool) (l1 : List Bool) : Option (List Bool):=sacristyref01_Sub.l0 k l0 l1 (([] : List Bool)) 0 0
theorem sacristyref01_Sub.mono_l : ∀ k,(∀ y0 y1 y2 y3 y4,LeO (sacristyref01_Sub.l0 k y0 y1 y2 y3 y4) (sacristyref01_Sub.l0 (k + 1) y0 y1 y2 y3 y4))
 |0 => fun _ _ _ _ _ r h => by simp [sacristyref01_Sub.l0] at h
 |k + 1 => by
  have ih0:=sacristyref01_Sub.mono_l k
  ·intro y0 y1 y2 y3 y4
   unfold sacristyref01_Sub.l0
   repeat' first
   |(with_reducible exact ih0 _ _ _ _ _)
   |(with_reducible exact sacristyref01_Trim.mono _ _)
   |(with_reducible exact LeO.refl _)
   |(with_reducible exact LeO.none _)
   |(with_reducible refine LeO.ite ?_ ?_)
   |(with_reducible refine LeO.bind ?_ (fun _ => ?_))
   |exact ih0 _ _ _ _ _
   |exact sacristyref01_Trim.mono _ _
   |exact LeO.none _
   |refine LeO.ite ?_ ?_
   |refine LeO.bind ?_ (fun _ => ?_)
theorem sacristyref01_Sub.mono : ∀ a0 a1 k,LeO (sacristyref01_Sub.f k a0 a1) (sacristyref01_Sub.f (k + 1) a0 a1):=by
 intro a0 a1 k
 have ih0:=sacristyref01_Sub.mono_l k
 unfold sacristyref01_Sub.f
 repeat' first
   |(with_reducible exact ih0 _ _ _ _ _)
   |(with_reducible exact sacristyref01_Trim.mono _ _)
   |(with_reducible exact LeO.refl _)
   |(with_reducible exact LeO.none _)
   |(with_reducible refine LeO.ite ?_ ?_)
   |(with_reducible refine LeO.bind ?_ (fun _ => ?_))
   |exact ih0 _ _ _ _ _
   |exact sacristyref01_Trim.mono _ _
   |exact LeO.none _
   |refine LeO.ite ?_ ?_
   |refine LeO.bind ?_ (fun _ => ?_)
end Go.Proofs.Yteejcpbngnojkaa.P
end
section
namespace Go.Proofs.Yteejcpbngnojkaa.P
open Go.RowKit Go.Proofs.YteejcpbngnojkaaW.PrintWords Go.Proofs.YteejcpbngnojkaaW.PrintLast Go.Proofs.YteejcpbngnojkaaW.PrintMore
attribute [local go_sem] max2_int min2_int max_two min_two max_three min_three max_four min_four
set_option linter.unusedVariables false
set_option linter.unusedSimpArgs false
def sacristyref01_Div.l0 : Nat → List Bool → List Bool → List Bool → List Bool → Int → Option (List Bool × List Bool)
 |0,_,_,_,_,_ => none
 |k + 1,x0,x1,x6,x7,x8 => if x8 ≥ 0 then (if 0 ≤ x8 then (if x8 < (x0.length : Int) then ((some (([rdOf false x0 x8] : List Bool) : List Bool)).bind fun y756 => (if y756.length + x7.length < 140737488355328 then ((sacristyref01_Trim.f k (y756 ++ x7)).bind fun t762 => ((sacristyref01_Cmp.f k t762 x1).bind fun t765 => (if t765 ≥ 0 then ((sacristyref01_Sub.f k t762 x1).bind fun t766 => (if x8 < (x6.length : Int) then (sacristyref01_Div.l0 k x0 x1 (x6.set (x8 : Int).toNat true) t766 (wrap64 (x8 - 1))) else (none))) else (sacristyref01_Div.l0 k x0 x1 x6 t762 (wrap64 (x8 - 1)))))) else (none))) else (none)) else (none)) else ((sacristyref01_Trim.f k x6).bind fun t752 => (some (t752,x7)))
def sacristyref01_Div.f (k : Nat) (l0 : List Bool) (l1 : List Bool) : Option (List Bool × List Bool):=if 0 ≤ (l0.length : Int) then (if ((l0.length : Int) : Int).toNat ≤ 281474976710656 then (sacristyref01_Div.l0 k l0 l1 (List.replicate ((l0.length : Int) : Int).toNat false) (([] : List Bool)) (wrap64 ((l0.length : Int) - 1))) else (none)) else (none)
theorem sacristyref01_Div.mono_l : ∀ k,(∀ y0 y1 y2 y3 y4,LeO (sacristyref01_Div.l0 k y0 y1 y2 y3 y4) (sacristyref01_Div.l0 (k + 1) y0 y1 y2 y3 y4))
 |0 => fun _ _ _ _ _ r h => by simp [sacristyref01_Div.l0] at h
 |k + 1 => by
  have ih0:=sacristyref01_Div.mono_l k
  ·intro y0 y1 y2 y3 y4
   unfold sacristyref01_Div.l0
   repeat' first
   |(with_reducible exact ih0 _ _ _ _ _)
   |(with_reducible exact sacristyref01_Cmp.mono _ _ _)
   |(with_reducible exact sacristyref01_Sub.mono _ _ _)
   |(with_reducible exact sacristyref01_Trim.mono _ _)
   |(with_reducible exact LeO.refl _)
   |(with_reducible exact LeO.none _)
   |(with_reducible refine LeO.ite ?_ ?_)
   |(with_reducible refine LeO.bind ?_ (fun _ => ?_))
   |exact ih0 _ _ _ _ _
   |exact sacristyref01_Cmp.mono _ _ _
   |exact sacristyref01_Sub.mono _ _ _
   |exact sacristyref01_Trim.mono _ _
   |exact LeO.none _
   |refine LeO.ite ?_ ?_
   |refine LeO.bind ?_ (fun _ => ?_)
theorem sacristyref01_Div.mono : ∀ a0 a1 k,LeO (sacristyref01_Div.f k a0 a1) (sacristyref01_Div.f (k + 1) a0 a1):=by
 intro a0 a1 k
 have ih0:=sacristyref01_Div.mono_l k
 unfold sacristyref01_Div.f
 repeat' first
   |(with_reducible exact ih0 _ _ _ _ _)
   |(with_reducible exact sacristyref01_Cmp.mono _ _ _)
   |(with_reducible exact sacristyref01_Sub.mono _ _ _)
   |(with_reducible exact sacristyref01_Trim.mono _ _)
   |(with_reducible exact LeO.refl _)
   |(with_reducible exact LeO.none _)
   |(with_reducible refine LeO.ite ?_ ?_)
   |(with_reducible refine LeO.bind ?_ (fun _ => ?_))
   |exact ih0 _ _ _ _ _
   |exact sacristyref01_Cmp.mono _ _ _
   |exact sacristyref01_Sub.mono _ _ _
   |exact sacristyref01_Trim.mono _ _
   |exact LeO.none _
   |refine LeO.ite ?_ ?_
   |refine LeO.bind ?_ (fun _ => ?_)
end Go.Proofs.Yteejcpbngnojkaa.P
end
section
namespace Go.Proofs.Yteejcpbngnojkaa.P
open Go.RowKit Go.Proofs.YteejcpbngnojkaaW.PrintWords Go.Proofs.YteejcpbngnojkaaW.PrintLast Go.Proofs.YteejcpbngnojkaaW.PrintMore
attribute [local go_sem] max2_int min2_int max_two min_two max_three min_three max_four min_four
set_option linter.unusedVariables false
set_option linter.unusedSimpArgs false
def sacristyref01_Gcd.l0 : Nat → List Bool → List Bool → Option (List Bool)
 |0,_,_ => none
 |k + 1,x0,x1 => if (x1.length : Int) > 0 then ((sacristyref01_Div.f k x0 x1).bind fun bt770 => (sacristyref01_Gcd.l0 k x1 bt770.2)) else (some x0)
def sacristyref01_Gcd.f (k : Nat) (l0 : List Bool) (l1 : List Bool) : Option (List Bool):=sacristyref01_Gcd.l0 k l0 l1
theorem sacristyref01_Gcd.mono_l : ∀ k,(∀ y0 y1,LeO (sacristyref01_Gcd.l0 k y0 y1) (sacristyref01_Gcd.l0 (k + 1) y0 y1))
 |0 => fun _ _ r h => by simp [sacristyref01_Gcd.l0] at h
 |k + 1 => by
  have ih0:=sacristyref01_Gcd.mono_l k
  ·intro y0 y1
   unfold sacristyref01_Gcd.l0
   repeat' first
   |(with_reducible exact ih0 _ _)
   |(with_reducible exact sacristyref01_Div.mono _ _ _)
   |(with_reducible exact LeO.refl _)
   |(with_reducible exact LeO.none _)
   |(with_reducible refine LeO.ite ?_ ?_)
   |(with_reducible refine LeO.bind ?_ (fun _ => ?_))
   |exact ih0 _ _
   |exact sacristyref01_Div.mono _ _ _
   |exact LeO.none _
   |refine LeO.ite ?_ ?_
   |refine LeO.bind ?_ (fun _ => ?_)
theorem sacristyref01_Gcd.mono : ∀ a0 a1 k,LeO (sacristyref01_Gcd.f k a0 a1) (sacristyref01_Gcd.f (k + 1) a0 a1):=by
 intro a0 a1 k
 have ih0:=sacristyref01_Gcd.mono_l k
 unfold sacristyref01_Gcd.f
 repeat' first
   |(with_reducible exact ih0 _ _)
   |(with_reducible exact sacristyref01_Div.mono _ _ _)
   |(with_reducible exact LeO.refl _)
   |(with_reducible exact LeO.none _)
   |(with_reducible refine LeO.ite ?_ ?_)
   |(with_reducible refine LeO.bind ?_ (fun _ => ?_))
   |exact ih0 _ _
   |exact sacristyref01_Div.mono _ _ _
   |exact LeO.none _
   |refine LeO.ite ?_ ?_
   |refine LeO.bind ?_ (fun _ => ?_)
end Go.Proofs.Yteejcpbngnojkaa.P
end
section
namespace Go.Proofs.Yteejcpbngnojkaa.P
open Go.RowKit Go.Proofs.YteejcpbngnojkaaW.PrintWords Go.Proofs.YteejcpbngnojkaaW.PrintLast Go.Proofs.YteejcpbngnojkaaW.PrintMore
attribute [local go_sem] max2_int min2_int max_two min_two max_three min_three max_four min_four
set_option linter.unusedVariables false
set_option linter.unusedSimpArgs false
mutual
def sacristyref01_Add.l0 : Nat → List Bool → List Bool → List Bool → Int → Int → Option (List Bool)
 |0,_,_,_,_,_ => none
 |k + 1,x0,x1,x5,x6,x7 => if x7 < (x0.length : Int) then (sacristyref01_Add.j1 k x0 x1 x5 x6 x7 true) else (if x7 < (x1.length : Int) then (sacristyref01_Add.j1 k x0 x1 x5 x6 x7 true) else (sacristyref01_Add.j1 k x0 x1 x5 x6 x7 (decide (x6 > 0))))
def sacristyref01_Add.j1 : Nat → List Bool → List Bool → List Bool → Int → Int → Bool → Option (List Bool)
 |0,_,_,_,_,_,_ => none
 |k + 1,x0,x1,x5,x6,x7,x23 => if x23 = true then ((sacristyref01_at.f x0 x7).bind fun t853 => ((sacristyref01_at.f x1 x7).bind fun t854 => (if x5.length < 140737488355328 then (sacristyref01_Add.l0 k x0 x1 (x5 ++ [((Int.tmod (wrap64 ((wrap64 (t853 + t854)) + x6)) 2) == 1)]) (wrap64 (Int.tdiv (wrap64 ((wrap64 (t853 + t854)) + x6)) 2)) (wrap64 (x7 + 1))) else (none)))) else ((sacristyref01_Trim.f k x5).bind fun t858 => (some t858))
end
def sacristyref01_Add.f (k : Nat) (l0 : List Bool) (l1 : List Bool) : Option (List Bool):=sacristyref01_Add.l0 k l0 l1 (([] : List Bool)) 0 0
theorem sacristyref01_Add.mono_l : ∀ k,(∀ y0 y1 y2 y3 y4,LeO (sacristyref01_Add.l0 k y0 y1 y2 y3 y4) (sacristyref01_Add.l0 (k + 1) y0 y1 y2 y3 y4)) ∧ (∀ y0 y1 y2 y3 y4 y5,LeO (sacristyref01_Add.j1 k y0 y1 y2 y3 y4 y5) (sacristyref01_Add.j1 (k + 1) y0 y1 y2 y3 y4 y5))
 |0 => ⟨fun _ _ _ _ _ r h => by simp [sacristyref01_Add.l0] at h,fun _ _ _ _ _ _ r h => by simp [sacristyref01_Add.j1] at h⟩
 |k + 1 => by
  obtain ⟨ih0,ih1⟩:=sacristyref01_Add.mono_l k
  refine ⟨?_,?_⟩
  ·intro y0 y1 y2 y3 y4
   unfold sacristyref01_Add.l0
   repeat' first
   |(with_reducible exact ih0 _ _ _ _ _)
   |(with_reducible exact ih1 _ _ _ _ _ _)
   |(with_reducible exact sacristyref01_Trim.mono _ _)
   |(with_reducible exact LeO.refl _)
   |(with_reducible exact LeO.none _)
   |(with_reducible refine LeO.ite ?_ ?_)
   |(with_reducible refine LeO.bind ?_ (fun _ => ?_))
   |exact ih0 _ _ _ _ _
   |exact ih1 _ _ _ _ _ _
   |exact sacristyref01_Trim.mono _ _
   |exact LeO.none _
   |refine LeO.ite ?_ ?_
   |refine LeO.bind ?_ (fun _ => ?_)
  ·intro y0 y1 y2 y3 y4 y5
   unfold sacristyref01_Add.j1
   repeat' first
   |(with_reducible exact ih0 _ _ _ _ _)
   |(with_reducible exact ih1 _ _ _ _ _ _)
   |(with_reducible exact sacristyref01_Trim.mono _ _)
   |(with_reducible exact LeO.refl _)
   |(with_reducible exact LeO.none _)
   |(with_reducible refine LeO.ite ?_ ?_)
   |(with_reducible refine LeO.bind ?_ (fun _ => ?_))
   |exact ih0 _ _ _ _ _
   |exact ih1 _ _ _ _ _ _
   |exact sacristyref01_Trim.mono _ _
   |exact LeO.none _
   |refine LeO.ite ?_ ?_
   |refine LeO.bind ?_ (fun _ => ?_)
theorem sacristyref01_Add.mono : ∀ a0 a1 k,LeO (sacristyref01_Add.f k a0 a1) (sacristyref01_Add.f (k + 1) a0 a1):=by
 intro a0 a1 k
 obtain ⟨ih0,ih1⟩:=sacristyref01_Add.mono_l k
 unfold sacristyref01_Add.f
 repeat' first
   |(with_reducible exact ih0 _ _ _ _ _)
   |(with_reducible exact ih1 _ _ _ _ _ _)
   |(with_reducible exact sacristyref01_Trim.mono _ _)
   |(with_reducible exact LeO.refl _)
   |(with_reducible exact LeO.none _)
   |(with_reducible refine LeO.ite ?_ ?_)
   |(with_reducible refine LeO.bind ?_ (fun _ => ?_))
   |exact ih0 _ _ _ _ _
   |exact ih1 _ _ _ _ _ _
   |exact sacristyref01_Trim.mono _ _
   |exact LeO.none _
   |refine LeO.ite ?_ ?_
   |refine LeO.bind ?_ (fun _ => ?_)
end Go.Proofs.Yteejcpbngnojkaa.P
end
section
namespace Go.Proofs.Yteejcpbngnojkaa.P
open Go.RowKit Go.Proofs.YteejcpbngnojkaaW.PrintWords Go.Proofs.YteejcpbngnojkaaW.PrintLast Go.Proofs.YteejcpbngnojkaaW.PrintMore
attribute [local go_sem] max2_int min2_int max_two min_two max_three min_three max_four min_four
set_option linter.unusedVariables false
set_option linter.unusedSimpArgs false
def sacristyref01_Shift.f (l0 : List Bool) (a1 : Int) : Option (List Bool):=if (l0.length : Int) = 0 then (some (([] : List Bool))) else (if 0 ≤ a1 then (if (a1 : Int).toNat ≤ 281474976710656 then ((some (List.replicate (a1 : Int).toNat false : List Bool)).bind fun y864 => (if y864.length + l0.length < 140737488355328 then (some (y864 ++ l0)) else (none))) else (none)) else (none))
end Go.Proofs.Yteejcpbngnojkaa.P
end
section
namespace Go.Proofs.Yteejcpbngnojkaa.P
open Go.RowKit Go.Proofs.YteejcpbngnojkaaW.PrintWords Go.Proofs.YteejcpbngnojkaaW.PrintLast Go.Proofs.YteejcpbngnojkaaW.PrintMore
attribute [local go_sem] max2_int min2_int max_two min_two max_three min_three max_four min_four
set_option linter.unusedVariables false
set_option linter.unusedSimpArgs false
def sacristyref01_Mul.l0 : Nat → List Bool → List Bool → List Bool → Int → Int → Option (List Bool)
 |0,_,_,_,_,_ => none
 |k + 1,x0,x5,x9,x10,x11 => if x11 < x10 then (if 0 ≤ x11 then (if x11 < (x9.length : Int) then (if rdOf false x9 x11 = true then ((sacristyref01_Shift.f x0 x11).bind fun t874 => ((sacristyref01_Add.f k x5 t874).bind fun t877 => (sacristyref01_Mul.l0 k x0 t877 x9 x10 (wrap64 (x11 + 1))))) else (sacristyref01_Mul.l0 k x0 x5 x9 x10 (wrap64 (x11 + 1)))) else (none)) else (none)) else (some x5)
def sacristyref01_Mul.f (k : Nat) (l0 : List Bool) (l1 : List Bool) : Option (List Bool):=sacristyref01_Mul.l0 k l0 (([] : List Bool)) l1 (l1.length : Int) 0
theorem sacristyref01_Mul.mono_l : ∀ k,(∀ y0 y1 y2 y3 y4,LeO (sacristyref01_Mul.l0 k y0 y1 y2 y3 y4) (sacristyref01_Mul.l0 (k + 1) y0 y1 y2 y3 y4))
 |0 => fun _ _ _ _ _ r h => by simp [sacristyref01_Mul.l0] at h
 |k + 1 => by
  have ih0:=sacristyref01_Mul.mono_l k
  ·intro y0 y1 y2 y3 y4
   unfold sacristyref01_Mul.l0
   repeat' first
   |(with_reducible exact ih0 _ _ _ _ _)
   |(with_reducible exact sacristyref01_Add.mono _ _ _)
   |(with_reducible exact LeO.refl _)
   |(with_reducible exact LeO.none _)
   |(with_reducible refine LeO.ite ?_ ?_)
   |(with_reducible refine LeO.bind ?_ (fun _ => ?_))
   |exact ih0 _ _ _ _ _
   |exact sacristyref01_Add.mono _ _ _
   |exact LeO.none _
   |refine LeO.ite ?_ ?_
   |refine LeO.bind ?_ (fun _ => ?_)
theorem sacristyref01_Mul.mono : ∀ a0 a1 k,LeO (sacristyref01_Mul.f k a0 a1) (sacristyref01_Mul.f (k + 1) a0 a1):=by
 intro a0 a1 k
 have ih0:=sacristyref01_Mul.mono_l k
 unfold sacristyref01_Mul.f
 repeat' first
   |(with_reducible exact ih0 _ _ _ _ _)
   |(with_reducible exact sacristyref01_Add.mono _ _ _)
   |(with_reducible exact LeO.refl _)
   |(with_reducible exact LeO.none _)
   |(with_reducible refine LeO.ite ?_ ?_)
   |(with_reducible refine LeO.bind ?_ (fun _ => ?_))
   |exact ih0 _ _ _ _ _
   |exact sacristyref01_Add.mono _ _ _
   |exact LeO.none _
   |refine LeO.ite ?_ ?_
   |refine LeO.bind ?_ (fun _ => ?_)
end Go.Proofs.Yteejcpbngnojkaa.P
end
section
namespace Go.Proofs.Yteejcpbngnojkaa.P
open Go.RowKit Go.Proofs.YteejcpbngnojkaaW.PrintWords Go.Proofs.YteejcpbngnojkaaW.PrintLast Go.Proofs.YteejcpbngnojkaaW.PrintMore
open Go.Proofs.Yteejcpbngnojkaa.Num
set_option linter.unusedVariables false
def gb (l : List Bool) (j : Nat) : Bool := l.getD j false
theorem rdB (l : List Bool) (i : Nat) : rdOf false l (i : Int) = gb l i := by simp [rdOf, gb]
theorem gb_eq {l : List Bool} {j : Nat} (h : j < l.length) : gb l j = l[j] := by simp [gb, List.getD_eq_getElem?_getD, List.getElem?_eq_getElem h]
theorem gb_out {l : List Bool} {j : Nat} (h : l.length ≤ j) : gb l j = false := by simp [gb, List.getD_eq_getElem?_getD, List.getElem?_eq_none h]
theorem wdec {n : Nat} (h : n ≤ 4611686018427387904) : wrap64 (((n + 1 : Nat) : Int) - 1) = (n : Int) := by rw [w64 (by omega) (by omega)]; omega
theorem winc {n : Nat} (h : n ≤ 4611686018427387904) : wrap64 ((n : Int) + 1) = ((n + 1 : Nat) : Int) := by rw [w64 (by omega) (by omega)]; omega
theorem rTrim_ev (l : List Bool) (hn : l.length ≤ 4611686018427387904) : Ev (fun k => sacristyref01_Trim.f k l) (toB (valB l)) := by
  unfold sacristyref01_Trim.f
  generalize hm : l.length = m
  induction m generalizing l with
  | zero =>
    obtain rfl := List.eq_nil_of_length_eq_zero hm
    refine Ev.step (f := fun _ => some []) (fun k => by simp [sacristyref01_Trim.l0]) ?_
    rw [valB_nil, toB_zero]
    exact Ev.now _
  | succ m ih =>
    have hne : l ≠ [] := fun e => by subst e; simp at hm
    obtain ⟨l', x, rfl⟩ : ∃ l' x, l = l' ++ [x] := ⟨l.dropLast, l.getLast hne, (List.dropLast_concat_getLast hne).symm⟩
    have hm' : l'.length = m := by simpa using hm
    have hm4 : m ≤ 4611686018427387904 := by simp at hn; omega
    have hlen : ((l' ++ [x]).length : Int) = ((m + 1 : Nat) : Int) := by rw [hm]
    have c1 : ((m + 1 : Nat) : Int) > 0 := by omega
    have c2 : (0 : Int) ≤ (m : Int) := by omega
    have c3 : (m : Int) < ((m + 1 : Nat) : Int) := by omega
    have c4 : (m : Int) ≤ ((m + 1 : Nat) : Int) := by omega
    have hw := wdec hm4
    have hrd : rdOf false (l' ++ [x]) (m : Int) = x := by rw [rdB]; simp [gb, List.getD_eq_getElem?_getD, ← hm']
    cases x with
    | false =>
      refine Ev.step (f := fun k => sacristyref01_Trim.l0 k l') (fun k => ?_) ?_
      · simp only [sacristyref01_Trim.l0]
        rw [hlen, hw, if_pos c1, if_pos c2, if_pos c3, hrd, if_neg (by decide), if_pos c4, Int.toNat_natCast, ← hm', List.take_left' rfl]
      · rw [toB_valB_snoc_false]
        exact ih l' (by omega) hm'
    | true =>
      refine Ev.step (f := fun _ => some (l' ++ [true])) (fun k => ?_) ?_
      · simp only [sacristyref01_Trim.l0]
        rw [hlen, hw, if_pos c1, if_pos c2, if_pos c3, hrd, if_pos rfl]
      · rw [toB_valB_true]
        exact Ev.now _
def bitsFrom (x : Nat) : Nat → Nat → List Bool
  | _, 0 => []
  | j, d + 1 => (x / 2 ^ j % 2 == 1) :: bitsFrom x (j + 1) d
theorem bitsFrom_len (x j d : Nat) : (bitsFrom x j d).length = d := by
  induction d generalizing j with
  | zero => rfl
  | succ d ih => simp [bitsFrom, ih]
theorem bit_toNat (n : Nat) : (n % 2 == 1).toNat = n % 2 := by
  have := Nat.mod_lt n (show 0 < 2 by omega)
  rcases Nat.mod_two_eq_zero_or_one n with h | h <;> rw [h] <;> rfl
theorem bitsFrom_val (x j d : Nat) : valB (bitsFrom x j d) = x / 2 ^ j % 2 ^ d := by
  induction d generalizing j with
  | zero => simp [bitsFrom, valB_nil, Nat.mod_one]
  | succ d ih =>
    rw [bitsFrom, valB_cons, ih, bit_toNat, Nat.pow_succ 2 j, ← Nat.div_div_eq_div_mul, Nat.pow_succ, Nat.mul_comm (2 ^ d) 2, Nat.mod_mul]
theorem of_bit (x : Int) (j : Nat) (h0 : 0 ≤ x) (h : x < 256) (hj : j < 8) : (Int.tmod (shr .u8 x (j : Int)) 2 == 1) = (x.toNat / 2 ^ j % 2 == 1) := by
  obtain ⟨n, rfl⟩ := Int.eq_ofNat_of_zero_le h0
  have hmin : min j IntKind.u8.bits = j := Nat.min_eq_left (by show j ≤ 8; omega)
  unfold shr
  rw [Int.toNat_natCast, hmin, Int.toNat_natCast]
  have h2 : (2 : Int) ^ j = ((2 ^ j : Nat) : Int) := by simp
  rw [h2, ← Int.natCast_ediv]
  generalize n / 2 ^ j = N
  rw [show (2 : Int) = ((2 : Nat) : Int) from rfl, ← Int.ofNat_tmod]
  rw [Bool.eq_iff_iff, beq_iff_eq, beq_iff_eq]
  omega
theorem rOf_inner (l : List Int) (hb : Bytes l) (i : Nat) (hi : i < l.length) (r : List Bool) (d : Nat) : ∀ (j : Nat) (acc : List Bool), j + d = 8 → acc.length + d ≤ 1000000 → Ev (fun k => sacristyref01_Of.l0 k l (acc ++ bitsFrom (gw l i).toNat j d) (wrap64 ((i : Int) - 1))) r → Ev (fun k => sacristyref01_Of.l1 k l acc (i : Int) (j : Int)) r := by
  induction d with
  | zero =>
    intro j acc hj hacc hev
    obtain rfl : j = 8 := by omega
    simp only [bitsFrom, List.append_nil] at hev
    exact Ev.step (fun k => by simp only [sacristyref01_Of.l1]; rw [if_neg (by omega)]) hev
  | succ d ih =>
    intro j acc hj hacc hev
    have c1 : (j : Int) < 8 := by omega
    have c2 : (0 : Int) ≤ (i : Int) := by omega
    have c3 : (i : Int) < (l.length : Int) := by omega
    have c4 : (0 : Int) ≤ (j : Int) := by omega
    have c5 : acc.length < 140737488355328 := by omega
    have hj8 : j < 8 := by omega
    have hjd : j + 1 + d = 8 := by omega
    have hw := winc (n := j) (by omega)
    have g := hb.gw i
    refine Ev.step (f := fun k => sacristyref01_Of.l1 k l (acc ++ [((gw l i).toNat / 2 ^ j % 2 == 1)]) (i : Int) ((j + 1 : Nat) : Int)) (fun k => ?_) ?_
    · simp only [sacristyref01_Of.l1]
      rw [if_pos c1, if_pos c2, if_pos c3, if_pos c4, if_pos c5, hw, rd_gw, of_bit _ j g.1 g.2 hj8]
    · refine ih (j + 1) _ hjd (by simp; omega) ?_
      rw [List.append_assoc]
      exact hev
theorem rOf_outer (l : List Int) (hb : Bytes l) (n : Nat) : ∀ (acc : List Bool), n ≤ l.length → acc.length + 8 * n ≤ 900000 → Ev (fun k => sacristyref01_Of.l0 k l acc ((n : Int) - 1)) (toB (valB acc + 2 ^ acc.length * valL (l.take n).reverse)) := by
  induction n with
  | zero =>
    intro acc hn hacc
    have ht := rTrim_ev acc (by omega)
    refine Ev.step (fun k => by simp only [sacristyref01_Of.l0]; rw [if_neg (by omega)]) (Ev.bind (f := fun _ t => some t) ht ?_)
    simp only [List.take_zero, List.reverse_nil, show valL [] = 0 from rfl, Nat.mul_zero, Nat.add_zero]
    exact Ev.now _
  | succ n ih =>
    intro acc hn hacc
    have c1 : ((n : Nat) : Int) ≥ 0 := by omega
    have e1 : ((n + 1 : Nat) : Int) - 1 = (n : Int) := by omega
    have hw : wrap64 ((n : Int) - 1) = (n : Int) - 1 := w64 (by omega) (by omega)
    have g := hb.gw n
    have hlt : (gw l n).toNat < 256 := by omega
    have hn1 : n < l.length := by omega
    rw [e1]
    refine Ev.step (f := fun k => sacristyref01_Of.l1 k l acc (n : Int) 0) (fun k => by simp only [sacristyref01_Of.l0]; rw [if_pos c1]) ?_
    refine rOf_inner l hb n hn1 _ 8 0 acc rfl (by omega) ?_
    rw [hw]
    have h := ih (acc ++ bitsFrom (gw l n).toNat 0 8) (by omega) (by rw [List.length_append, bitsFrom_len]; omega)
    have e2 : valB (acc ++ bitsFrom (gw l n).toNat 0 8) + 2 ^ (acc ++ bitsFrom (gw l n).toNat 0 8).length * valL (l.take n).reverse = valB acc + 2 ^ acc.length * valL (l.take (n + 1)).reverse := by
      have e3 : (l.take (n + 1)).reverse = gw l n :: (l.take n).reverse := by rw [take_snoc hn1, List.reverse_append]; rfl
      rw [e3, valL_cons, valB_append, bitsFrom_val, List.length_append, bitsFrom_len, Nat.pow_add]
      simp only [Nat.pow_zero, Nat.div_one]
      rw [Nat.mod_eq_of_lt hlt]
      generalize (gw l n).toNat = x
      generalize valL (l.take n).reverse = V
      generalize 2 ^ acc.length = P
      grind
    rw [e2] at h
    exact h
theorem rOf_ev (l : List Int) (hb : Bytes l) (hn : l.length ≤ 100000) : Ev (fun k => sacristyref01_Of.f k l) (toB (valH l)) := by
  unfold sacristyref01_Of.f
  have hw : wrap64 ((l.length : Int) - 1) = (l.length : Int) - 1 := w64 (by omega) (by omega)
  rw [hw]
  have h := rOf_outer l hb l.length [] (Nat.le_refl _) (by simp; omega)
  rw [List.take_length] at h
  simpa [valB_nil, valH] using h
theorem rSmall_ev (x : Nat) : ∀ (acc : List Bool), x < 18446744073709551616 → acc.length + (toB x).length ≤ 1000 → Ev (fun k => sacristyref01_Small.l0 k (x : Int) acc) (acc ++ toB x) := by
  induction x using Nat.strongRecOn with
  | ind x ih =>
    intro acc hx hacc
    by_cases h0 : x = 0
    · subst h0
      rw [toB_zero, List.append_nil]
      exact Ev.step (fun k => by simp only [sacristyref01_Small.l0]; rw [if_neg (by omega)]) (Ev.now _)
    · rw [toB_pos (by omega)] at hacc ⊢
      have c1 : (x : Int) > 0 := by omega
      have c2 : acc.length < 140737488355328 := by omega
      have e1 : IntKind.u64.wrap (Int.tdiv (x : Int) 2) = ((x / 2 : Nat) : Int) := by
        rw [show (2 : Int) = ((2 : Nat) : Int) from rfl, ← Int.ofNat_tdiv, wu64 (by omega) (by omega)]
      have e2 : (Int.tmod (x : Int) 2 == 1) = (x % 2 == 1) := by
        rw [show (2 : Int) = ((2 : Nat) : Int) from rfl, ← Int.ofNat_tmod, Bool.eq_iff_iff, beq_iff_eq, beq_iff_eq]; omega
      have h := ih (x / 2) (by omega) (acc ++ [(x % 2 == 1)]) (by omega) (by simp at hacc ⊢; omega)
      rw [List.append_assoc] at h
      refine Ev.step (fun k => ?_) h
      simp only [sacristyref01_Small.l0]
      rw [if_pos c1, if_pos c2, e1, e2]
theorem rSmall (x : Nat) (hx : x < 18446744073709551616) : Ev (fun k => sacristyref01_Small.f k (x : Int)) (toB x) := by
  have h64 : (toB x).length ≤ 64 := toB_len_le 64 x hx
  have := rSmall_ev x [] hx (by simp; omega)
  simpa [sacristyref01_Small.f] using this
theorem gb_toB (a i : Nat) : (gb (toB a) i).toNat = a / 2 ^ i % 2 := by
  by_cases h : i < (toB a).length
  · rw [gb_eq h, toB_get, bit_toNat]
  · rw [gb_out (by omega)]
    have h1 := toB_lt a
    have h2 : 2 ^ (toB a).length ≤ 2 ^ i := Nat.pow_le_pow_right (by omega) (by omega)
    rw [Nat.div_eq_of_lt (by omega)]
    rfl
theorem mod_snoc (a i : Nat) : a % 2 ^ (i + 1) = a % 2 ^ i + 2 ^ i * (a / 2 ^ i % 2) := Nat.mod_pow_succ ..
end Go.Proofs.Yteejcpbngnojkaa.P
end
section
namespace Go.Proofs.Yteejcpbngnojkaa.P
open Go.RowKit Go.Proofs.YteejcpbngnojkaaW.PrintWords Go.Proofs.YteejcpbngnojkaaW.PrintLast Go.Proofs.YteejcpbngnojkaaW.PrintMore
attribute [local go_sem] max2_int min2_int max_two min_two max_three min_three max_four min_four
set_option linter.unusedVariables false
set_option linter.unusedSimpArgs false
def sacristylaw01_Num.f (k : Nat) (l0 : List Int) : Option (List Int):=if 0 ≤ (mn (l0.length : Int) 48) then (if (mn (l0.length : Int) 48) ≤ (l0.length : Int) then ((nat_FromBytes.f k (l0.take ((mn (l0.length : Int) 48) : Int).toNat)).bind fun bt506 => (some bt506.1)) else (none)) else (none)
theorem sacristylaw01_Num.mono : ∀ a0 k,LeO (sacristylaw01_Num.f k a0) (sacristylaw01_Num.f (k + 1) a0):=by
 intro a0 k
 unfold sacristylaw01_Num.f
 repeat' first
   |(with_reducible exact nat_FromBytes.mono _ _)
   |(with_reducible exact LeO.refl _)
   |(with_reducible exact LeO.none _)
   |(with_reducible refine LeO.ite ?_ ?_)
   |(with_reducible refine LeO.bind ?_ (fun _ => ?_))
   |exact nat_FromBytes.mono _ _
   |exact LeO.none _
   |refine LeO.ite ?_ ?_
   |refine LeO.bind ?_ (fun _ => ?_)
end Go.Proofs.Yteejcpbngnojkaa.P
end
section
namespace Go.Proofs.Yteejcpbngnojkaa.P
open Go.RowKit Go.Proofs.YteejcpbngnojkaaW.PrintWords Go.Proofs.YteejcpbngnojkaaW.PrintLast Go.Proofs.YteejcpbngnojkaaW.PrintMore
attribute [local go_sem] max2_int min2_int max_two min_two max_three min_three max_four min_four
set_option linter.unusedVariables false
set_option linter.unusedSimpArgs false
def sacristylaw01_ref.f (k : Nat) (l0 : List Int) : Option (List Bool):=if 0 ≤ (mn (l0.length : Int) 48) then (if (mn (l0.length : Int) 48) ≤ (l0.length : Int) then ((sacristyref01_Of.f k (l0.take ((mn (l0.length : Int) 48) : Int).toNat)).bind fun t512 => (some t512)) else (none)) else (none)
theorem sacristylaw01_ref.mono : ∀ a0 k,LeO (sacristylaw01_ref.f k a0) (sacristylaw01_ref.f (k + 1) a0):=by
 intro a0 k
 unfold sacristylaw01_ref.f
 repeat' first
   |(with_reducible exact sacristyref01_Of.mono _ _)
   |(with_reducible exact LeO.refl _)
   |(with_reducible exact LeO.none _)
   |(with_reducible refine LeO.ite ?_ ?_)
   |(with_reducible refine LeO.bind ?_ (fun _ => ?_))
   |exact sacristyref01_Of.mono _ _
   |exact LeO.none _
   |refine LeO.ite ?_ ?_
   |refine LeO.bind ?_ (fun _ => ?_)
end Go.Proofs.Yteejcpbngnojkaa.P
end
section
namespace Go.Proofs.Yteejcpbngnojkaa.P
open Go.RowKit Go.Proofs.YteejcpbngnojkaaW.PrintWords Go.Proofs.YteejcpbngnojkaaW.PrintLast Go.Proofs.YteejcpbngnojkaaW.PrintMore
open Go.Proofs.Yteejcpbngnojkaa.Num
set_option linter.unusedVariables false
theorem pw_two (q : Nat) : pw q = 2 ^ (32 * q) := by
  unfold pw; rw [show (4294967296 : Nat) = 2 ^ 32 from by decide, ← Nat.pow_mul]
theorem pow256 (i : Nat) : 256 ^ i = pw (i / 4) * 2 ^ (8 * (i % 4)) := by
  rw [pw_two, ← Nat.pow_add, show (256 : Nat) = 2 ^ 8 from by decide, ← Nat.pow_mul]
  congr 1
  omega
theorem toB_len_eq {n L : Nat} (hL : 0 < L) (h1 : n < 2 ^ L) (h2 : 2 ^ (L - 1) ≤ n) : (toB n).length = L := by
  have h3 := toB_len_le L n h1
  have h4 := toB_len_gt (L - 1) n h2
  omega
theorem bits_len {n m r : Nat} (hm : 1 ≤ m) (hr : 0 < r) (h1 : n / pw (m - 1) < 2 ^ r) (h2 : 2 ^ (r - 1) ≤ n / pw (m - 1)) : (toB n).length = 32 * (m - 1) + r := by
  refine toB_len_eq (by omega) ?_ ?_
  · rw [Nat.div_lt_iff_lt_mul (pw_pos _), Nat.mul_comm, pw_two, ← Nat.pow_add] at h1
    exact h1
  · rw [Nat.le_div_iff_mul_le (pw_pos _), pw_two, ← Nat.pow_add] at h2
    rw [show 32 * (m - 1) + r - 1 = r - 1 + 32 * (m - 1) by omega]
    exact h2
theorem Bits_toW (n : Nat) (hn : (toW n).length ≤ 1048576) : nat_Nat_Bits.f (toW n) = some (((toB n).length : Nat) : Int) := by
  unfold nat_Nat_Bits.f
  by_cases h0 : n = 0
  · subst h0; simp [toW_zero, toB_zero]
  · have hne : (toW n).length ≠ 0 := by rw [Ne, List.length_eq_zero_iff, toW_eq_nil]; exact h0
    obtain ⟨m, hm⟩ : ∃ m, (toW n).length = m := ⟨_, rfl⟩
    have c1 : ¬ (((toW n).length : Nat) : Int) = 0 := by omega
    have c2 : (0 : Int) ≤ ((m - 1 : Nat) : Int) := by omega
    have c3 : ((m - 1 : Nat) : Int) < (m : Int) := by omega
    have hm1 : 1 ≤ m := by omega
    have hm2 : m ≤ 1048576 := by omega
    have hlo : pw (m - 1) ≤ n := toW_len_lt (by omega)
    have hhi : n < pw m := by have := toW_lt n; rwa [hm] at this
    have hd : n / pw (m - 1) < 4294967296 := by
      rw [Nat.div_lt_iff_lt_mul (pw_pos _), Nat.mul_comm, ← pw_succ, show m - 1 + 1 = m by omega]; exact hhi
    have hp : 0 < n / pw (m - 1) := Nat.div_pos hlo (pw_pos _)
    have hg : gw (toW n) (m - 1) = ((n / pw (m - 1) : Nat) : Int) := by rw [toW_gw, Nat.mod_eq_of_lt hd]
    obtain ⟨r, hr, hr32, hlt, hge⟩ := len32 (gw (toW n) (m - 1)) (by rw [hg]; exact Int.natCast_nonneg _) (by rw [hg]; exact Int.ofNat_lt.2 hd)
    rw [hg] at hlt hge
    rw [Int.toNat_natCast] at hlt hge
    obtain ⟨h3, h4⟩ := hge (Int.natCast_pos.2 hp)
    have hlen := bits_len hm1 h3 hlt h4
    have w1 : wrap64 ((m : Int) - 1) = ((m - 1 : Nat) : Int) := by clear hlen hr; rw [w64 (by omega) (by omega)]; omega
    have w2 : wrap64 (wrap64 (32 * ((m - 1 : Nat) : Int)) + (r : Int)) = ((32 * (m - 1) + r : Nat) : Int) := by
      clear hlen hr w1 hd hp hlt h4 hlo hhi hg
      rw [w64 (x := 32 * ((m - 1 : Nat) : Int)) (by omega) (by omega), w64 (by omega) (by omega)]; omega
    rw [if_neg c1, hm, w1, if_pos c2, if_pos c3, rd_gw, hr]
    simp only [Option.bind_some]
    rw [w2, hlen]
theorem fb_round (a b : Int) (y : Nat) (hy : y = 0 ∨ y = 8 ∨ y = 16 ∨ y = 24) (ha0 : 0 ≤ a) (ha : a.toNat < 2 ^ y) (hb0 : 0 ≤ b) (hb : b < 256) :
    Go.bits .or .u32 a (shl .u32 (b % 4294967296) (y : Int)) = ((a.toNat + b.toNat * 2 ^ y : Nat) : Int) ∧ a.toNat + b.toNat * 2 ^ y < 4294967296 := by
  obtain ⟨n, rfl⟩ := Int.eq_ofNat_of_zero_le ha0
  obtain ⟨m, rfl⟩ := Int.eq_ofNat_of_zero_le hb0
  simp only [Int.toNat_natCast] at ha ⊢
  have hmin : min y IntKind.u32.bits = y := Nat.min_eq_left (by show y ≤ 32; omega)
  have hs : shl .u32 ((m : Int) % 4294967296) (y : Int) = ((m * 2 ^ y : Nat) : Int) := by
    unfold shl
    rw [Int.toNat_natCast, hmin]
    have e1 : (m : Int) % 4294967296 = (m : Int) := by omega
    have e2 : (m : Int) * 2 ^ y = ((m * 2 ^ y : Nat) : Int) := by simp
    rw [e1, e2]
    rcases hy with rfl | rfl | rfl | rfl <;> exact wraps_u32 _ (by omega) (by omega)
  rw [hs]
  rcases hy with rfl | rfl | rfl | rfl
  all_goals
    refine ⟨?_, by omega⟩
    rw [bits_join_low .u32 32 (by decide) wraps_u32 _ (n : Int) ((m * 2 ^ _ : Nat) : Int) (by omega) (by first | exact_mod_cast ha) (by omega) (by omega) (by omega) (by omega)]
    omega
structure FBInv (l : List Int) (i : Nat) (row : List Int) : Prop where
  len : row.length = (l.length + 3) / 4
  sz : Sized row
  eq : valW row = valL (l.reverse.take i)
theorem digit_lt {row : List Int} (hs : Sized row) {q c : Nat} (hq : q < row.length) (h : valW row < pw q * c) : (gw row q).toNat < c := by
  have h1 : valW row = valW (row.take q) + pw q * valW (row.drop q) := valW_drop (by omega)
  have h2 : row.drop q = gw row q :: row.drop (q + 1) := by rw [List.drop_eq_getElem_cons hq, gw_eq hq]
  rw [h2, valW_cons] at h1
  have h3 : pw q * (gw row q).toNat < pw q * c := by
    rw [Nat.mul_add] at h1
    omega
  exact Nat.lt_of_mul_lt_mul_left h3
theorem valW_set' {row : List Int} {q : Nat} (hq : q < row.length) {x : Int} (hx : 0 ≤ x) : valW (row.set q x) + pw q * (gw row q).toNat = valW row + pw q * x.toNat := by
  have := val_set (β := 4294967296) (enc := Int.toNat) row q x hq
  rw [← gw_eq hq] at this
  exact this
theorem fb_loop (l : List Int) (hb : Bytes l) (hl : l.length ≤ 128) (d : Nat) : ∀ (i : Nat) (row : List Int), FBInv l i row → i + d = l.length →
    Ev (fun k => nat_FromBytes.l0 k l row (l.length : Int) (i : Int)) (toW (valH l), 0) := by
  induction d with
  | zero =>
    intro i row h hi
    obtain rfl : i = l.length := by omega
    have ht := trim_ev row h.sz (by rw [h.len]; omega)
    have hv : valW row = valH l := by rw [h.eq, List.take_of_length_le (by simp)]; rfl
    rw [hv] at ht
    exact Ev.step (fun k => by simp only [nat_FromBytes.l0]; rw [if_neg (by omega)]) (Ev.bind (f := fun _ t => some (t, (0 : Int))) ht (Ev.now _))
  | succ d ih =>
    intro i row h hi
    have hrl := h.len
    have hil : i < l.length := by omega
    have c1 : (i : Int) < (l.length : Int) := by omega
    have c2 : (0 : Int) ≤ ((l.length - 1 - i : Nat) : Int) := by omega
    have c3 : ((l.length - 1 - i : Nat) : Int) < (l.length : Int) := by omega
    have c4 : (0 : Int) ≤ ((i / 4 : Nat) : Int) := by omega
    have c5 : ((i / 4 : Nat) : Int) < (row.length : Int) := by omega
    have c6 : (0 : Int) ≤ ((8 * (i % 4) : Nat) : Int) := by omega
    have hq : i / 4 < row.length := by omega
    have hy : 8 * (i % 4) = 0 ∨ 8 * (i % 4) = 8 ∨ 8 * (i % 4) = 16 ∨ 8 * (i % 4) = 24 := by omega
    have i1 : i + 1 + d = l.length := by omega
    have hgl : gw l (l.length - 1 - i) = gw l.reverse i := by
      rw [gw_eq (by omega), gw_eq (by simp; omega), List.getElem_reverse]
    have g := hb.gw (l.length - 1 - i)
    have gr := h.sz.gw (i / 4)
    have hval : valW row < 256 ^ i := by
      have := valL_lt (hb.reverse.take i)
      rw [List.length_take, List.length_reverse, Nat.min_eq_left (by omega)] at this
      rw [h.eq]; exact this
    rw [pow256] at hval
    have hdig := digit_lt h.sz hq hval
    obtain ⟨e1, e2⟩ := fb_round (gw row (i / 4)) (gw l (l.length - 1 - i)) (8 * (i % 4)) hy gr.1 hdig g.1 g.2
    have hst : FBInv l (i + 1) (row.set (i / 4) (((gw row (i / 4)).toNat + (gw l (l.length - 1 - i)).toNat * 2 ^ (8 * (i % 4)) : Nat) : Int)) := by
      refine ⟨by rw [List.length_set]; exact h.len, h.sz.set _ ⟨Int.natCast_nonneg _, Int.ofNat_lt.2 e2⟩, ?_⟩
      have e3 := valW_set' hq (x := (((gw row (i / 4)).toNat + (gw l (l.length - 1 - i)).toNat * 2 ^ (8 * (i % 4)) : Nat) : Int)) (Int.natCast_nonneg _)
      rw [Int.toNat_natCast] at e3
      have e4 : valL (l.reverse.take (i + 1)) = valL (l.reverse.take i) + 256 ^ i * (gw l (l.length - 1 - i)).toNat := by
        rw [take_snoc (by simp; omega), valL_append, valL_one, hgl, List.length_take, List.length_reverse, Nat.min_eq_left (by omega)]
      rw [e4, ← h.eq, pow256]
      generalize 2 ^ (8 * (i % 4)) = P at *
      generalize pw (i / 4) = Q at *
      generalize (gw row (i / 4)).toNat = x at *
      generalize (gw l (l.length - 1 - i)).toNat = y at *
      clear e1 e2 e4 hdig hval hgl hy h ih
      grind
    have w1 : wrap64 (wrap64 ((l.length : Int) - 1) - (i : Int)) = ((l.length - 1 - i : Nat) : Int) := by
      clear e1 e2 hst hdig hval hgl
      rw [w64 (x := (l.length : Int) - 1) (by omega) (by omega), w64 (by omega) (by omega)]; omega
    have w2 : wrap64 (Int.tdiv (i : Int) 4) = ((i / 4 : Nat) : Int) := by
      clear e1 e2 hst hdig hval hgl w1
      rw [show (4 : Int) = ((4 : Nat) : Int) from rfl, ← Int.ofNat_tdiv]; exact w64 (by omega) (by omega)
    have w3 : wrap64 (8 * Int.tmod (i : Int) 4) = ((8 * (i % 4) : Nat) : Int) := by
      clear e1 e2 hst hdig hval hgl w1 w2
      rw [show (4 : Int) = ((4 : Nat) : Int) from rfl, ← Int.ofNat_tmod, w64 (by omega) (by omega)]; omega
    have w4 : wrap64 ((i : Int) + 1) = ((i + 1 : Nat) : Int) := by clear e1 e2 hst hdig hval hgl w1 w2 w3; exact winc (by omega)
    refine Ev.step (fun k => ?_) (ih (i + 1) _ hst i1)
    simp only [nat_FromBytes.l0]
    rw [if_pos c1, w1, if_pos c2, if_pos c3, w2, if_pos c4, if_pos c5, w3, if_pos c6, rd_gw, rd_gw, e1, w4, Int.toNat_natCast]
theorem FromBytes_ev (l : List Int) (hb : Bytes l) (hl : l.length ≤ 128) : Ev (fun k => nat_FromBytes.f k l) (toW (valH l), 0) := by
  unfold nat_FromBytes.f
  have h := fb_loop l hb hl l.length 0 (List.replicate ((l.length + 3) / 4) 0) ⟨by simp, Sized.zeros _, by rw [valW_zeros]; rfl⟩ (by omega)
  have w1 : wrap64 (Int.tdiv (wrap64 ((l.length : Int) + 3)) 4) = (((l.length + 3) / 4 : Nat) : Int) := by
    have : wrap64 ((l.length : Int) + 3) = ((l.length + 3 : Nat) : Int) := by rw [w64 (by omega) (by omega)]; omega
    rw [this, show (4 : Int) = ((4 : Nat) : Int) from rfl, ← Int.ofNat_tdiv]
    clear this
    exact w64 (by omega) (by omega)
  have c0 : ¬ (l.length : Int) > 128 := by omega
  have c1 : (0 : Int) ≤ (((l.length + 3) / 4 : Nat) : Int) := by clear w1; omega
  have c2 : (l.length + 3) / 4 ≤ 70368744177664 := by clear w1; omega
  refine Ev.congr (fun k => ?_) h
  rw [if_neg c0, w1, if_pos c1, Int.toNat_natCast, if_pos c2]
  rfl
end Go.Proofs.Yteejcpbngnojkaa.P
end
section
namespace Go.Proofs.Yteejcpbngnojkaa.P
open Go.RowKit Go.Proofs.YteejcpbngnojkaaW.PrintWords Go.Proofs.YteejcpbngnojkaaW.PrintLast Go.Proofs.YteejcpbngnojkaaW.PrintMore
open Go.Proofs.Yteejcpbngnojkaa.Num
set_option linter.unusedVariables false
def nb (v : Nat) : Nat := ((toB v).length + 7) / 8
def highBytes (v size : Nat) : List Int := (lowBytes v size).reverse
theorem highBytes_length (v size : Nat) : (highBytes v size).length = size := by simp [highBytes, lowBytes_length]
theorem highBytes_bytes (v size : Nat) : Bytes (highBytes v size) := (lowBytes_bytes v size).reverse
theorem nb_lt (v : Nat) : v < 256 ^ nb v := by
  have h := toB_lt v
  have h2 : 2 ^ (toB v).length ≤ 2 ^ (8 * nb v) := Nat.pow_le_pow_right (by decide) (by unfold nb; omega)
  rw [show (256 : Nat) = 2 ^ 8 from by decide, ← Nat.pow_mul]
  exact Nat.lt_of_lt_of_le h h2
theorem nb_le {v i : Nat} (h : i < nb v) : 256 ^ i ≤ v := by
  rw [show (256 : Nat) = 2 ^ 8 from by decide, ← Nat.pow_mul]
  exact toB_len_lt (by unfold nb at h; omega)
theorem gw_rev {l : List Int} {j : Nat} (h : j < l.length) : gw l.reverse j = gw l (l.length - 1 - j) := by
  rw [gw_eq (by simpa using h), gw_eq (by omega), List.getElem_reverse]
theorem word_byte (v i : Nat) : (gw (toW v) (i / 4) / 2 ^ (8 * (i % 4))) % 256 = ((v / 256 ^ i % 256 : Nat) : Int) := by
  rw [toW_gw, pow256, ← Nat.div_div_eq_div_mul]
  generalize v / pw (i / 4) = X
  have hy : i % 4 = 0 ∨ i % 4 = 1 ∨ i % 4 = 2 ∨ i % 4 = 3 := by omega
  rcases hy with h | h | h | h <;> rw [h] <;> simp only [Nat.reduceMul, Nat.reducePow, Int.reducePow] <;> omega
theorem nBytes_loop (v size n : Nat) (hn : n = nb v) (hs : n ≤ size) (hsz : size ≤ 1000000) (hv : (toW v).length ≤ 1048576) (d : Nat) : ∀ (i : Nat) (out : List Int), i + d = n → out.length = size → (∀ j, j < size → gw out (size - 1 - j) = if j < i then ((v / 256 ^ j % 256 : Nat) : Int) else 0) →
    Ev (fun k => nat_Nat_Bytes.l0 k (size : Int) out (n : Int) (i : Int) (toW v)) (highBytes v size, 0) := by
  induction d with
  | zero =>
    intro i out hi hl hg
    obtain rfl : i = n := by omega
    have he : out = highBytes v size := by
      refine list_ext_gw (by rw [hl, highBytes_length]) fun j hj => ?_
      unfold highBytes
      rw [gw_rev (by rw [lowBytes_length]; omega), lowBytes_length, lowBytes_get _ _ _ (by omega)]
      have h := hg (size - 1 - j) (by omega)
      rw [show size - 1 - (size - 1 - j) = j by omega] at h
      rw [h]
      by_cases hc : size - 1 - j < i
      · rw [if_pos hc]
      · rw [if_neg hc]
        have h1 := nb_lt v
        rw [← hn] at h1
        have h2 : 256 ^ i ≤ 256 ^ (size - 1 - j) := Nat.pow_le_pow_right (by decide) (by omega)
        rw [Nat.div_eq_of_lt (Nat.lt_of_lt_of_le h1 h2)]
        rfl
    rw [← he]
    exact Ev.step (f := fun _ => some (out, (0 : Int))) (fun k => by simp only [nat_Nat_Bytes.l0]; rw [if_neg (by omega)]) (Ev.now _)
  | succ d ih =>
    intro i out hi hl hg
    have hin : i < nb v := by omega
    have hle := nb_le hin
    have hqa : i / 4 < (toW v).length := by
      refine toW_len_gt _ _ (Nat.le_trans ?_ hle)
      rw [pow256]
      exact Nat.le_mul_of_pos_right _ (Nat.pow_pos (by decide))
    clear hle
    have c1 : (i : Int) < (n : Int) := by omega
    have c2 : (0 : Int) ≤ ((i / 4 : Nat) : Int) := by omega
    have c3 : ((i / 4 : Nat) : Int) < ((toW v).length : Int) := by omega
    have c4 : (0 : Int) ≤ ((8 * (i % 4) : Nat) : Int) := by omega
    have c5 : (0 : Int) ≤ ((size - 1 - i : Nat) : Int) := by omega
    have c6 : ((size - 1 - i : Nat) : Int) < (out.length : Int) := by omega
    have hso : size - 1 - i < out.length := by omega
    have i1 : i + 1 + d = n := by omega
    have hjj : ∀ j, j < size → (size - 1 - i = size - 1 - j ↔ i = j) := fun j hj => by omega
    have hj2 : ∀ j, i ≠ j → (j < i + 1 ↔ j < i) := fun j hj => by omega
    have h2i : i < i + 1 := by omega
    have hy : 8 * (i % 4) ≤ 32 := by omega
    have w1 : wrap64 (wrap64 ((size : Int) - 1) - (i : Int)) = ((size - 1 - i : Nat) : Int) := by
      rw [w64 (x := (size : Int) - 1) (by omega) (by omega), w64 (by omega) (by omega)]; omega
    have w2 : wrap64 (Int.tdiv (i : Int) 4) = ((i / 4 : Nat) : Int) := by
      clear w1
      rw [show (4 : Int) = ((4 : Nat) : Int) from rfl, ← Int.ofNat_tdiv]; exact w64 (by omega) (by omega)
    have w3 : wrap64 (8 * Int.tmod (i : Int) 4) = ((8 * (i % 4) : Nat) : Int) := by
      clear w1 w2
      rw [show (4 : Int) = ((4 : Nat) : Int) from rfl, ← Int.ofNat_tmod, w64 (by omega) (by omega)]; omega
    have w4 : wrap64 ((i : Int) + 1) = ((i + 1 : Nat) : Int) := by clear w1 w2 w3; exact winc (by omega)
    have hsh : shr .u32 (gw (toW v) (i / 4)) ((8 * (i % 4) : Nat) : Int) % 256 = ((v / 256 ^ i % 256 : Nat) : Int) := by
      have hmin : min (8 * (i % 4)) IntKind.u32.bits = 8 * (i % 4) := Nat.min_eq_left hy
      unfold shr
      rw [Int.toNat_natCast, hmin, word_byte]
    refine Ev.step (fun k => ?_) (ih (i + 1) (out.set (size - 1 - i) ((v / 256 ^ i % 256 : Nat) : Int)) i1 (by rw [List.length_set]; exact hl) (fun j hj => ?_))
    · simp only [nat_Nat_Bytes.l0]
      rw [if_pos c1, w2, if_pos c2, if_pos c3, w3, if_pos c4, w1, if_pos c5, if_pos c6, rd_gw, hsh, w4, Int.toNat_natCast]
    · rw [gw_set hso]
      by_cases hij : i = j
      · subst hij
        rw [if_pos rfl, if_pos h2i]
      · rw [if_neg (fun e => hij ((hjj j hj).1 e)), hg j hj]
        simp only [hj2 j hij]
theorem toB_len_words (v n : Nat) (h : 32 * (toW v).length ≤ n) : (toB v).length ≤ n := by
  refine toB_len_le _ _ (Nat.lt_of_lt_of_le (toW_lt v) ?_)
  rw [pw_two]
  exact Nat.pow_le_pow_right (by decide) h
theorem nb_word (v : Nat) (hv : (toW v).length ≤ 1048576) : wrap64 (Int.tdiv (wrap64 ((((toB v).length : Nat) : Int) + 7)) 8) = ((nb v : Nat) : Int) := by
  have h1 : (toB v).length ≤ 33554432 := toB_len_words v _ (by omega)
  unfold nb
  have e1 : wrap64 ((((toB v).length : Nat) : Int) + 7) = (((toB v).length + 7 : Nat) : Int) := by rw [w64 (by omega) (by omega)]; omega
  rw [e1, show (8 : Int) = ((8 : Nat) : Int) from rfl, ← Int.ofNat_tdiv]
  clear e1
  exact w64 (by omega) (by omega)
theorem nb_bound (v : Nat) (hv : (toW v).length ≤ 1000) : nb v ≤ 4000 := by
  have h1 : (toB v).length ≤ 32000 := toB_len_words v _ (by omega)
  unfold nb; omega
theorem nBytes_ev (v size : Nat) (hs : nb v ≤ size) (hsz : size ≤ 1000000) (hv : (toW v).length ≤ 1048576) : Ev (fun k => nat_Nat_Bytes.f k (toW v) (size : Int)) (highBytes v size, 0) := by
  have h : Ev (fun k => nat_Nat_Bytes.l0 k (size : Int) (List.replicate size 0) ((nb v : Nat) : Int) 0 (toW v)) (highBytes v size, 0) := nBytes_loop v size (nb v) rfl hs hsz hv (nb v) 0 (List.replicate size 0) (by omega) (by simp) (fun j hj => by rw [if_neg (by omega)]; exact valW_zero (Sized.zeros _) (valW_zeros _) _)
  have c1 : ¬ (size : Int) < 0 := by omega
  have c2 : ¬ ((nb v : Nat) : Int) > (size : Int) := by omega
  have c3 : (0 : Int) ≤ (size : Int) := by omega
  have c4 : size ≤ 281474976710656 := by omega
  refine Ev.congr (fun k => ?_) h
  unfold nat_Nat_Bytes.f
  rw [if_neg c1, Bits_toW v hv]
  refine (Option.bind_some _ _).trans ?_
  rw [nb_word v hv]
  refine (if_neg c2).trans ?_
  refine (if_pos c3).trans ?_
  rw [Int.toNat_natCast]
  refine (if_pos c4).trans ?_
  with_reducible rfl
theorem nBytes_no (k v : Nat) (size : Int) (hs : size < nb v) (h0 : 0 ≤ size) (hv : (toW v).length ≤ 1048576) : nat_Nat_Bytes.f k (toW v) size = some ([], 2) := by
  have c1 : ¬ size < 0 := by omega
  have c2 : ((nb v : Nat) : Int) > size := hs
  unfold nat_Nat_Bytes.f
  rw [if_neg c1, Bits_toW v hv]
  refine (Option.bind_some _ _).trans ?_
  rw [nb_word v hv]
  exact if_pos c2
theorem nBytes_neg (k v : Nat) (size : Int) (hs : size < 0) : nat_Nat_Bytes.f k (toW v) size = some ([], 1) := by
  unfold nat_Nat_Bytes.f
  rw [if_pos hs]
theorem Least_ev (v : Nat) (hv : (toW v).length ≤ 1000) : Ev (fun k => nat_Nat_Least.f k (toW v)) (highBytes v (nb v)) := by
  have hb := nb_bound v hv
  have h := nBytes_ev v (nb v) (Nat.le_refl _) (by omega) (by omega)
  refine Ev.congr (fun k => ?_) (Ev.bind (f := fun _ bt => some bt.1) h (Ev.now _))
  unfold nat_Nat_Least.f
  have hv2 : (toW v).length ≤ 1048576 := Nat.le_trans hv (by decide)
  rw [Bits_toW v hv2]
  refine (Option.bind_some _ _).trans ?_
  rw [nb_word v hv2]
structure RBInv (v size i : Nat) (out : List Int) : Prop where
  len : out.length = size
  by_ : Bytes out
  eq : valL out.reverse = v % 2 ^ i
theorem set_rev {l : List Int} {j : Nat} {x : Int} (h : j < l.length) : (l.set (l.length - 1 - j) x).reverse = l.reverse.set j x := by
  refine list_ext_gw (by simp) fun i hi => ?_
  rw [List.length_reverse, List.length_set] at hi
  rw [gw_rev (by rw [List.length_set]; exact hi), gw_set (by omega), gw_set (by rw [List.length_reverse]; exact h), List.length_set]
  by_cases e : j = i
  · subst e; rw [if_pos rfl, if_pos rfl]
  · rw [if_neg (by omega), if_neg e, gw_rev hi]
theorem digitL_lt {l : List Int} (hb : Bytes l) {q c : Nat} (hq : q < l.length) (h : valL l < 256 ^ q * c) : (gw l q).toNat < c := by
  have h1 := val_take_drop (β := 256) (enc := Int.toNat) q l (by omega)
  have h2 : l.drop q = gw l q :: l.drop (q + 1) := by rw [List.drop_eq_getElem_cons hq, gw_eq hq]
  rw [h2] at h1
  have h1 : valL l = valL (l.take q) + 256 ^ q * ((gw l q).toNat + 256 * valL (l.drop (q + 1))) := h1
  have h3 : 256 ^ q * (gw l q).toNat < 256 ^ q * c := by
    rw [Nat.mul_add] at h1
    omega
  exact Nat.lt_of_mul_lt_mul_left h3
theorem valL_set {l : List Int} {q : Nat} (hq : q < l.length) {x : Int} : valL (l.set q x) + 256 ^ q * (gw l q).toNat = valL l + 256 ^ q * x.toNat := by
  have := val_set (β := 256) (enc := Int.toNat) l q x hq
  rw [← gw_eq hq] at this
  exact this
theorem pow2_8 (i : Nat) : 2 ^ i = 256 ^ (i / 8) * 2 ^ (i % 8) := by
  rw [show (256 : Nat) = 2 ^ 8 from by decide, ← Nat.pow_mul, ← Nat.pow_add]
  congr 1
  omega
theorem rb_round (a : Int) (y : Nat) (hy : y < 8) (ha0 : 0 ≤ a) (ha : a.toNat < 2 ^ y) : (a + shl .u8 1 (y : Int)) % 256 = ((a.toNat + 2 ^ y : Nat) : Int) ∧ a.toNat + 2 ^ y < 256 := by
  obtain ⟨n, rfl⟩ := Int.eq_ofNat_of_zero_le ha0
  simp only [Int.toNat_natCast] at ha ⊢
  have hy8 : y = 0 ∨ y = 1 ∨ y = 2 ∨ y = 3 ∨ y = 4 ∨ y = 5 ∨ y = 6 ∨ y = 7 := by omega
  rcases hy8 with rfl | rfl | rfl | rfl | rfl | rfl | rfl | rfl
  all_goals
    simp only [shl, IntKind.bits, Int.toNat_natCast, IntKind.wrap, IntKind.signed] at ha ⊢
    simp at ha ⊢
    omega
theorem rBytes_loop (v size : Nat) (hs : nb v ≤ size) (hsz : size ≤ 1000000) (hv : (toB v).length ≤ 1000000) (d : Nat) : ∀ (i : Nat) (out : List Int), RBInv v size i out → i + d = (toB v).length →
    Ev (fun k => sacristyref01_Bytes.l0 k (size : Int) out (toB v) ((toB v).length : Int) (i : Int)) (highBytes v size, true) := by
  induction d with
  | zero =>
    intro i out h hi
    have hlt := toB_lt v
    rw [show (toB v).length = i by omega] at hlt
    have he : out = highBytes v size := by
      have e1 := h.eq
      rw [Nat.mod_eq_of_lt hlt] at e1
      have e2 := lowBytes_valL h.by_.reverse
      rw [e1, List.length_reverse, h.len] at e2
      unfold highBytes
      rw [e2, List.reverse_reverse]
    rw [← he]
    exact Ev.step (f := fun _ => some (out, true)) (fun k => by simp only [sacristyref01_Bytes.l0]; rw [if_neg (by omega)]) (Ev.now _)
  | succ d ih =>
    intro i out h hi
    have hl := h.len
    have c1 : (i : Int) < ((toB v).length : Int) := by omega
    have c2 : (0 : Int) ≤ (i : Int) := by omega
    have hq8 : i / 8 < size := by unfold nb at hs; omega
    have c3 : (0 : Int) ≤ ((size - 1 - i / 8 : Nat) : Int) := by omega
    have c4 : ((size - 1 - i / 8 : Nat) : Int) < (out.length : Int) := by omega
    have c5 : (0 : Int) ≤ ((i % 8 : Nat) : Int) := by omega
    have i1 : i + 1 + d = (toB v).length := by omega
    have hi8 : i % 8 < 8 := by omega
    have hlo : i / 8 < out.length := by omega
    have hlor : i / 8 < out.reverse.length := by rw [List.length_reverse]; exact hlo
    have w1 : wrap64 (wrap64 ((size : Int) - 1) - wrap64 (Int.tdiv (i : Int) 8)) = ((size - 1 - i / 8 : Nat) : Int) := by
      have : wrap64 (Int.tdiv (i : Int) 8) = ((i / 8 : Nat) : Int) := by
        rw [show (8 : Int) = ((8 : Nat) : Int) from rfl, ← Int.ofNat_tdiv]; exact w64 (by omega) (by omega)
      rw [this]
      clear this
      rw [w64 (x := (size : Int) - 1) (by omega) (by omega), w64 (by omega) (by omega)]; omega
    have w3 : Int.tmod (i : Int) 8 = ((i % 8 : Nat) : Int) := by
      rw [show (8 : Int) = ((8 : Nat) : Int) from rfl, ← Int.ofNat_tmod]
    have w4 : wrap64 ((i : Int) + 1) = ((i + 1 : Nat) : Int) := by clear w1 w3; exact winc (by omega)
    have hg := gb_toB v i
    have hm := mod_snoc v i
    cases hx : gb (toB v) i with
    | false =>
      rw [hx] at hg
      rw [← hg] at hm
      simp only [Bool.toNat_false, Nat.mul_zero, Nat.add_zero] at hm
      refine Ev.step (fun k => ?_) (ih (i + 1) out ⟨h.len, h.by_, by rw [hm]; exact h.eq⟩ i1)
      simp only [sacristyref01_Bytes.l0]
      rw [if_pos c1, if_pos c2, if_pos c1, rdB, hx, if_neg (by decide), w4]
    | true =>
      rw [hx] at hg
      rw [← hg] at hm
      simp only [Bool.toNat_true, Nat.mul_one] at hm
      have hval : valL out.reverse < 2 ^ i := by rw [h.eq]; exact Nat.mod_lt _ (Nat.pow_pos (by decide))
      rw [pow2_8] at hval
      have hdig := digitL_lt h.by_.reverse hlor hval
      have hgr : gw out.reverse (i / 8) = gw out (size - 1 - i / 8) := by rw [gw_rev hlo, hl]
      rw [hgr] at hdig
      obtain ⟨e1, e2⟩ := rb_round (gw out (size - 1 - i / 8)) (i % 8) hi8 (h.by_.gw _).1 hdig
      have hst : RBInv v size (i + 1) (out.set (size - 1 - i / 8) (((gw out (size - 1 - i / 8)).toNat + 2 ^ (i % 8) : Nat) : Int)) := by
        refine ⟨by rw [List.length_set]; exact h.len, fun y hy => ?_, ?_⟩
        · rcases List.mem_or_eq_of_mem_set hy with h1 | rfl
          · exact h.by_ y h1
          · exact ⟨Int.natCast_nonneg _, Int.ofNat_lt.2 e2⟩
        · have e3 := set_rev (l := out) (x := (((gw out (size - 1 - i / 8)).toNat + 2 ^ (i % 8) : Nat) : Int)) hlo
          rw [hl] at e3
          have e4 := valL_set hlor (x := (((gw out (size - 1 - i / 8)).toNat + 2 ^ (i % 8) : Nat) : Int))
          rw [Int.toNat_natCast, hgr, h.eq] at e4
          rw [e3, hm]
          have e5 := pow2_8 i
          rw [e5] at e4 ⊢
          generalize 256 ^ (i / 8) = Q at *
          generalize 2 ^ (i % 8) = P at *
          generalize (gw out (size - 1 - i / 8)).toNat = x at *
          rw [Nat.mul_add] at e4
          clear e1 e2 e3 e5 hdig hgr hval hm ih w1 w3 w4 hg
          omega
      refine Ev.step (fun k => ?_) (ih (i + 1) _ hst i1)
      simp only [sacristyref01_Bytes.l0]
      rw [if_pos c1, if_pos c2, if_pos c1, rdB, hx, if_pos rfl, w1, if_pos c3, if_pos c4, w3, if_pos c5, rd_gw, e1, w4, Int.toNat_natCast]
theorem rnb_word (v : Nat) (hv : (toB v).length ≤ 1000000) : wrap64 (Int.tdiv (wrap64 ((((toB v).length : Nat) : Int) + 7)) 8) = ((nb v : Nat) : Int) := by
  unfold nb
  have e1 : wrap64 ((((toB v).length : Nat) : Int) + 7) = (((toB v).length + 7 : Nat) : Int) := by rw [w64 (by omega) (by omega)]; omega
  rw [e1, show (8 : Int) = ((8 : Nat) : Int) from rfl, ← Int.ofNat_tdiv]
  clear e1
  exact w64 (by omega) (by omega)
theorem rBytes_ev (v size : Nat) (hs : nb v ≤ size) (hsz : size ≤ 1000000) (hv : (toB v).length ≤ 1000000) : Ev (fun k => sacristyref01_Bytes.f k (toB v) (size : Int)) (highBytes v size, true) := by
  have hz : Bytes (List.replicate size 0) := fun x hx => by rw [List.eq_of_mem_replicate hx]; decide
  have h : Ev (fun k => sacristyref01_Bytes.l0 k (size : Int) (List.replicate size 0) (toB v) ((toB v).length : Int) 0) (highBytes v size, true) := rBytes_loop v size hs hsz hv (toB v).length 0 (List.replicate size 0) ⟨by simp, hz, by rw [List.reverse_replicate, valL_zeros]; simp [Nat.mod_one]⟩ (by omega)
  have c2 : ¬ ((nb v : Nat) : Int) > (size : Int) := by omega
  have c3 : (0 : Int) ≤ (size : Int) := by omega
  have c4 : size ≤ 281474976710656 := by omega
  refine Ev.congr (fun k => ?_) h
  unfold sacristyref01_Bytes.f
  rw [rnb_word v hv]
  refine (if_neg c2).trans ?_
  refine (if_pos c3).trans ?_
  rw [Int.toNat_natCast]
  refine (if_pos c4).trans ?_
  with_reducible rfl
theorem rBytes_no (k v : Nat) (size : Int) (hs : size < nb v) (hv : (toB v).length ≤ 1000000) : sacristyref01_Bytes.f k (toB v) size = some ([], false) := by
  unfold sacristyref01_Bytes.f
  rw [rnb_word v hv]
  exact if_pos hs
theorem highBytes_inj {a b : Nat} (h : highBytes a (nb a) = highBytes b (nb b)) : a = b := by
  have hl := congrArg List.length h
  rw [highBytes_length, highBytes_length] at hl
  have h2 : lowBytes a (nb a) = lowBytes b (nb b) := by
    have := congrArg List.reverse h
    simpa [highBytes] using this
  have h3 := congrArg valL h2
  rw [lowBytes_val, lowBytes_val, Nat.mod_eq_of_lt (nb_lt a), Nat.mod_eq_of_lt (nb_lt b)] at h3
  exact h3
end Go.Proofs.Yteejcpbngnojkaa.P
end
section
namespace Go.Proofs.Yteejcpbngnojkaa.P
open Go.RowKit Go.Proofs.YteejcpbngnojkaaW.PrintWords Go.Proofs.YteejcpbngnojkaaW.PrintLast Go.Proofs.YteejcpbngnojkaaW.PrintMore
attribute [local go_sem] max2_int min2_int max_two min_two max_three min_three max_four min_four
set_option linter.unusedVariables false
set_option linter.unusedSimpArgs false
def nat_Nat_Gcd.l0 : Nat → List Int → List Int → Option (List Int)
 |0,_,_ => none
 |k + 1,x719000,x720000 => (nat_Nat_Zero.f x720000).bind fun t721 => (if t721 = true then (some x719000) else ((nat_Nat_Div.f k x719000 x720000).bind fun bt722 => (nat_Nat_Gcd.l0 k x720000 bt722.2.1)))
def nat_Nat_Gcd.f (k : Nat) (l0_0 : List Int) (l1_0 : List Int) : Option (List Int):=nat_Nat_Gcd.l0 k l0_0 l1_0
theorem nat_Nat_Gcd.mono_l : ∀ k,(∀ y0 y1,LeO (nat_Nat_Gcd.l0 k y0 y1) (nat_Nat_Gcd.l0 (k + 1) y0 y1))
 |0 => fun _ _ r h => by simp [nat_Nat_Gcd.l0] at h
 |k + 1 => by
  have ih0:=nat_Nat_Gcd.mono_l k
  ·intro y0 y1
   unfold nat_Nat_Gcd.l0
   repeat' first
   |(with_reducible exact ih0 _ _)
   |(with_reducible exact nat_Nat_Div.mono _ _ _)
   |(with_reducible exact LeO.refl _)
   |(with_reducible exact LeO.none _)
   |(with_reducible refine LeO.ite ?_ ?_)
   |(with_reducible refine LeO.bind ?_ (fun _ => ?_))
   |exact ih0 _ _
   |exact nat_Nat_Div.mono _ _ _
   |exact LeO.none _
   |refine LeO.ite ?_ ?_
   |refine LeO.bind ?_ (fun _ => ?_)
theorem nat_Nat_Gcd.mono : ∀ a0 a1 k,LeO (nat_Nat_Gcd.f k a0 a1) (nat_Nat_Gcd.f (k + 1) a0 a1):=by
 intro a0 a1 k
 have ih0:=nat_Nat_Gcd.mono_l k
 unfold nat_Nat_Gcd.f
 repeat' first
   |(with_reducible exact ih0 _ _)
   |(with_reducible exact nat_Nat_Div.mono _ _ _)
   |(with_reducible exact LeO.refl _)
   |(with_reducible exact LeO.none _)
   |(with_reducible refine LeO.ite ?_ ?_)
   |(with_reducible refine LeO.bind ?_ (fun _ => ?_))
   |exact ih0 _ _
   |exact nat_Nat_Div.mono _ _ _
   |exact LeO.none _
   |refine LeO.ite ?_ ?_
   |refine LeO.bind ?_ (fun _ => ?_)
end Go.Proofs.Yteejcpbngnojkaa.P
end
section
namespace Go.Proofs.Yteejcpbngnojkaa.P
open Go.RowKit Go.Proofs.YteejcpbngnojkaaW.PrintWords Go.Proofs.YteejcpbngnojkaaW.PrintLast Go.Proofs.YteejcpbngnojkaaW.PrintMore
open Go.Proofs.Yteejcpbngnojkaa.Num
set_option linter.unusedVariables false
theorem str_inj {xs ys : List Int} (hx : Bytes xs) (hy : Bytes ys) : (strOfNums xs).toList = (strOfNums ys).toList ↔ xs = ys := by
  constructor
  · intro h
    rw [Lib.strOfNums_toList, Lib.strOfNums_toList] at h
    have h3 : xs.map (fun n => UInt8.ofNat n.toNat) = ys.map (fun n => UInt8.ofNat n.toNat) := h
    refine List.ext_getElem (by have := congrArg List.length h3; simpa using this) fun i h1 h4 => ?_
    have h5 := congrArg (fun l => l[i]?) h3
    simp only [List.getElem?_map, List.getElem?_eq_getElem h1, List.getElem?_eq_getElem h4, Option.map_some, Option.some.injEq] at h5
    have g1 := hx _ (List.getElem_mem h1)
    have g2 := hy _ (List.getElem_mem h4)
    have h6 := congrArg UInt8.toNat h5
    rw [UInt8.toNat_ofNat_of_lt' (by show _ < 256; omega), UInt8.toNat_ofNat_of_lt' (by show _ < 256; omega)] at h6
    omega
  · rintro rfl; rfl
theorem toB_of_W {v : Nat} {n : Nat} (hv : v < pw n) : (toB v).length ≤ 32 * n := toB_len_le _ _ (by rwa [pw_two] at hv)
theorem Same_ev (a b : Nat) (ha : (toW a).length ≤ 1000) (hb : (toB b).length ≤ 1000000) : Ev (fun k => sacristylaw01_Same.f k (toW a) (toB b)) (decide (a = b)) := by
  have h1 := Least_ev a ha
  have h2 := rBytes_ev b (nb b) (Nat.le_refl _) (by unfold nb; omega) hb
  have e : ((strOfNums (highBytes a (nb a))).toList == (strOfNums (highBytes b (nb b))).toList) = decide (a = b) := by
    rw [Bool.eq_iff_iff, beq_iff_eq, decide_eq_true_iff, str_inj (highBytes_bytes _ _) (highBytes_bytes _ _)]
    exact ⟨fun h => highBytes_inj h, fun h => by rw [h]⟩
  rw [← e]
  refine Ev.congr (fun k => ?_) (Ev.bind (f := fun k bt => (nat_Nat_Least.f k (toW a)).bind fun t317 => some ((strOfNums t317).toList == (strOfNums bt.1).toList)) h2 (Ev.bind h1 (f := fun _ t317 => some ((strOfNums t317).toList == (strOfNums (highBytes b (nb b))).toList)) (Ev.now _)))
  unfold sacristylaw01_Same.f
  rw [rnb_word b hb]
theorem Same_true (a : Nat) (ha : (toW a).length ≤ 1000) : Ev (fun k => sacristylaw01_Same.f k (toW a) (toB a)) true := by
  have := Same_ev a a ha (Nat.le_trans (toB_of_W (toW_lt a)) (by omega))
  simpa using this
theorem Div_toW (k a b : Nat) (hb : 0 < b) (ha : (toW a).length ≤ 1048576) (hbl : (toW b).length ≤ 1048576) : nat_Nat_Div.f k (toW a) (toW b) = some (toW (a / b), toW (a % b), 0) := by
  unfold nat_Nat_Div.f
  rw [if_pos (by rw [canonB_toW, canonB_toW]; simp [ha, hbl]), valW_toW, valW_toW, if_neg (by omega)]
theorem toW_small (n : Nat) (h : n < 4294967296) : (toW n).length ≤ 1 := toW_len_le 1 n (by simpa [pw] using h)
theorem lives_ev : Ev (fun k => sacristylaw01_lives.f k) true := by
  have n7 := New_ev 7 (by decide) (by decide)
  have n2 := New_ev 2 (by decide) (by decide)
  have s3 := rSmall 3 (by decide)
  have s1 := rSmall 1 (by decide)
  have m3 := Same_true 3 (Nat.le_trans (toW_small 3 (by decide)) (by decide))
  have m1 := Same_true 1 (Nat.le_trans (toW_small 1 (by decide)) (by decide))
  unfold sacristylaw01_lives.f
  refine Ev.bind n7 (Ev.bind n2 ?_)
  have hd : ∀ k, nat_Nat_Div.f k (toW (7 : Int).toNat) (toW (2 : Int).toNat) = some (toW 3, toW 1, 0) := fun k => Div_toW k 7 2 (by decide) (Nat.le_trans (toW_small 7 (by decide)) (by decide)) (Nat.le_trans (toW_small 2 (by decide)) (by decide))
  refine Ev.congr (f := fun k => (sacristyref01_Small.f k 3).bind fun t435 => (sacristylaw01_Same.f k (toW 3) t435).bind fun t438 => if t438 = true then ((sacristyref01_Small.f k 1).bind fun t439 => (sacristylaw01_Same.f k (toW 1) t439).bind fun t442 => some t442) else some false) (fun k => ?_) ?_
  · rw [hd]
    refine (Option.bind_some _ _).trans ?_
    exact if_pos rfl
  · refine Ev.bind s3 (Ev.bind m3 ?_)
    refine Ev.congr (fun k => if_pos rfl) ?_
    exact Ev.bind s1 (Ev.bind (f := fun _ t442 => some t442) m1 (Ev.now _))
end Go.Proofs.Yteejcpbngnojkaa.P
end
section
namespace Go.Proofs.Yteejcpbngnojkaa.Pure
open Go.RowKit Go.Proofs.Yteejcpbngnojkaa.P Go.Proofs.YteejcpbngnojkaaW.PrintWords Go.Proofs.YteejcpbngnojkaaW.PrintLast Go.Proofs.YteejcpbngnojkaaW.PrintMore
open Go.Proofs.Yteejcpbngnojkaa.Num
set_option linter.unusedVariables false
theorem bytes_of_wf {l : List Int} (h : ∀ x ∈ l, (Lit.int .u8 x).wf = true) : Bytes l := fun x hx => by
  have := h x hx
  simp [Lit.wf, IntKind.min, IntKind.max, IntKind.bits, IntKind.signed] at this
  omega
def bytesTail (v : Nat) (a1 : Int) (k : Nat) : Option Bool := (nat_Nat_Bytes.f k (toW v) a1).bind fun bt495 => (if a1 < 0 then (if bt495.2 = 1 then (some ((bt495.1.length : Int) == 0)) else (none)) else ((sacristyref01_Bytes.f k (toB v) a1).bind fun bt499 => ((sacristylaw01_Same.f k (toW v) (toB v)).bind fun t503 => (if t503 = true then (if (strOfNums bt495.1).toList = (strOfNums bt499.1).toList then (if bt499.2 = true then (if bt495.2 = 0 then (some true) else (none)) else (some (bt495.2 == 2))) else (none)) else (none)))))
theorem bytesTail_ev (v : Nat) (a1 : Int) (hv : (toW v).length ≤ 32) (ha : a1 ≤ 1000) : Ev (bytesTail v a1) true := by
  have hB : (toB v).length ≤ 1024 := toB_of_W (n := 32) (Nat.lt_of_lt_of_le (toW_lt v) (Nat.pow_le_pow_right (by decide) hv))
  by_cases h0 : a1 < 0
  · refine Ev.congr (f := fun _ => some true) (fun k => ?_) (Ev.now _)
    unfold bytesTail
    rw [nBytes_neg k v a1 h0]
    refine (Option.bind_some _ _).trans ?_
    exact (if_pos h0).trans (if_pos rfl)
  · obtain ⟨s, rfl⟩ := Int.eq_ofNat_of_zero_le (Int.not_lt.1 h0)
    have hS := Same_true v (by omega)
    by_cases hs : nb v ≤ s
    · have hn := nBytes_ev v s hs (by omega) (by omega)
      have hr := rBytes_ev v s hs (by omega) (by omega)
      refine Ev.bind hn ?_
      refine Ev.congr (fun k => if_neg h0) ?_
      refine Ev.bind hr ?_
      refine Ev.bind hS ?_
      exact Ev.congr (fun k => (if_pos rfl).trans ((if_pos rfl).trans ((if_pos rfl).trans (if_pos rfl)))) (Ev.now _)
    · refine Ev.congr (f := fun k => (sacristylaw01_Same.f k (toW v) (toB v)).bind fun t503 => (if t503 = true then (if (strOfNums ([] : List Int)).toList = (strOfNums ([] : List Int)).toList then (if false = true then (if (2 : Int) = 0 then (some true) else (none)) else (some ((2 : Int) == 2))) else (none)) else (none))) (fun k => ?_) ?_
      · unfold bytesTail
        rw [nBytes_no k v (s : Int) (by omega) (by omega) (by omega), rBytes_no k v (s : Int) (by omega) (by omega)]
        refine (Option.bind_some _ _).trans ?_
        refine (if_neg h0).trans ?_
        exact Option.bind_some _ _
      · exact Ev.bind hS (Ev.congr (fun k => (if_pos rfl).trans ((if_pos rfl).trans (if_neg (by decide)))) (Ev.now _))
theorem bytes_loop (v n : Nat) (a1 : Int) (hn : n ≤ 1000) (hT : Ev (bytesTail v a1) true) (d : Nat) : ∀ (i : Nat) (x5 : List Int), i + d = n → x5.length = n → Ev (fun k => sacristylaw01_NatBytes.l0 k a1 x5 (toB v) (n : Int) (i : Int) (toW v)) true := by
  induction d with
  | zero =>
    intro i x5 hi hl
    obtain rfl : i = n := by omega
    have c1 : ¬ ((i : Nat) : Int) < (i : Int) := by omega
    refine Ev.step (f := bytesTail v a1) (fun k => ?_) hT
    simp only [sacristylaw01_NatBytes.l0]
    exact if_neg c1
  | succ d ih =>
    intro i x5 hi hl
    have c1 : (i : Int) < (n : Int) := by omega
    have c2 : (0 : Int) ≤ (i : Int) := by omega
    have c3 : (i : Int) < (x5.length : Int) := by omega
    have hw := winc (n := i) (by omega)
    refine Ev.step (fun k => ?_) (ih (i + 1) (x5.set i (Go.bits .xor .u8 (rd x5 (i : Int)) 255)) (by omega) (by rw [List.length_set]; exact hl))
    simp only [sacristylaw01_NatBytes.l0]
    rw [if_pos c1, if_pos c2, if_pos c3, hw, Int.toNat_natCast]
theorem bytes_j0 (l0 : List Int) (a1 e : Int) (v : Nat) (hl : l0.length ≤ 1000) (ha : a1 ≤ 1000) (hv : (toW v).length ≤ 32) (hF : Ev (fun k => nat_FromBytes.f k l0) (toW v, e)) (hG : Ev (fun k => sacristyref01_Get.f k l0) (toB v, e)) :
    Ev (fun k => sacristylaw01_NatBytes.j0 k l0 a1 false) true := by
  have hT := bytes_loop v l0.length a1 hl (bytesTail_ev v a1 hv ha) l0.length 0 l0 (by omega) rfl
  have hS := Same_true v (by omega)
  have c : ([] : List Int).length + l0.length < 140737488355328 := by simp; omega
  refine Ev.step (f := fun k => (nat_FromBytes.f k l0).bind fun bt483 => (sacristyref01_Get.f k l0).bind fun bt488 => if bt483.2 = bt488.2 then (if (strOfNums l0).toList = (strOfNums l0).toList then ((sacristylaw01_Same.f k bt483.1 bt488.1).bind fun t492 => (sacristylaw01_NatBytes.j1 k a1 l0 bt488.1 (!t492) bt483.1)) else (sacristylaw01_NatBytes.j1 k a1 l0 bt488.1 true bt483.1)) else (sacristylaw01_NatBytes.j1 k a1 l0 bt488.1 true bt483.1)) (fun k => ?_) ?_
  · simp only [sacristylaw01_NatBytes.j0]
    refine (if_neg (by decide)).trans ?_
    refine (Option.bind_some _ _).trans ?_
    refine (if_pos c).trans ?_
    refine (Option.bind_some _ _).trans ?_
    simp only [List.nil_append]
  · refine Ev.bind hF ?_
    refine Ev.bind hG ?_
    refine Ev.congr (fun k => (if_pos rfl).trans (if_pos rfl)) ?_
    refine Ev.bind hS ?_
    refine Ev.step (fun k => ?_) hT
    simp only [sacristylaw01_NatBytes.j1]
    exact if_neg (by decide)
theorem bytes_skip (l0 : List Int) (a1 : Int) : Ev (fun k => sacristylaw01_NatBytes.j0 k l0 a1 true) true := by
  refine Ev.step (f := fun k => (sacristylaw01_lives.f k).bind fun t476 => some t476) (fun k => ?_) ?_
  · simp only [sacristylaw01_NatBytes.j0]
    exact if_pos trivial
  · exact Ev.bind (f := fun _ t => some t) lives_ev (Ev.now _)
theorem NatBytes : sacristylaw01_NatBytes.Pure := by
  intro l0 a1 _ _ b0 _
  have B0 := bytes_of_wf b0
  refine Ev.rounds ?_
  unfold sacristylaw01_NatBytes.f
  refine Ev.bind lives_ev ?_
  refine Ev.congr (fun k => if_pos rfl) ?_
  by_cases ha : a1 > 1000
  · exact Ev.congr (fun k => if_pos ha) (bytes_skip l0 a1)
  · refine Ev.congr (fun k => if_neg ha) ?_
    by_cases hl : (l0.length : Int) > 1000
    · rw [decide_eq_true hl]
      exact bytes_skip l0 a1
    · rw [decide_eq_false hl]
      by_cases h128 : l0.length ≤ 128
      · have hv : (toW (valH l0)).length ≤ 32 := by
          refine toW_len_le 32 _ (Nat.lt_of_lt_of_le (valH_lt B0) (Nat.le_trans (Nat.pow_le_pow_right (by decide) h128) (Nat.le_of_eq ?_)))
          rw [pow256]; decide
        have c : ¬ (l0.length : Int) > 128 := by omega
        refine bytes_j0 l0 a1 0 (valH l0) (by omega) (by omega) hv (FromBytes_ev l0 B0 h128) ?_
        refine Ev.congr (fun k => ?_) (Ev.bind (f := fun _ t => some (t, (0 : Int))) (rOf_ev l0 B0 (by omega)) (Ev.now _))
        unfold sacristyref01_Get.f
        exact if_neg c
      · have c : (l0.length : Int) > 128 := by omega
        refine bytes_j0 l0 a1 4 0 (by omega) (by omega) (by rw [toW_zero]; decide) ?_ ?_
        · refine Ev.congr (f := fun _ => some (toW 0, (4 : Int))) (fun k => ?_) (Ev.now _)
          unfold nat_FromBytes.f
          rw [toW_zero]
          exact if_pos c
        · refine Ev.congr (f := fun _ => some (toB 0, (4 : Int))) (fun k => ?_) (Ev.now _)
          unfold sacristyref01_Get.f
          rw [toB_zero]
          exact if_pos c
end Go.Proofs.Yteejcpbngnojkaa.Pure
end
section
namespace Go.Proofs.Yteejcpbngnojkaa.Head
open Go
def hd : List Char := ['h', 'a', 'r', 'n', 'e', 's', 's']
def sm : List Char := ['1', '8', 'e', 'b', '4', '4', '3', '4', '8', '7', 'b', 'c', 'a', 'd', 'e', '8', '1', '4', '1', 'e', '3', 'b', 'e', '1', '8', '2', '5', '9', '4', '4', '6', '3', 'a', '2', 'd', 'e', 'd', '6', 'd', 'a', 'e', 'b', 'f', 'a', '9', 'e', 'f', '2', 'e', '8', '6', '2', '7', '8', '6', 'b', '2', '1', '5', '3', 'b', 'd', '8', '1']
def ct : List Char := ['c', 'u', 't']
def rs : List Char := ['a', 't', ' ', 's', 'a', 'c', 'r', 'i', 's', 't', 'y', '/', 's', 'a', 'c', 'r', 'i', 's', 't', 'y', 'l', 'a', 'w', '0', '5', '.', 'S', 't', 'r', 'e', 'a', 'm', 'B', 'l', 'o', 'c', 'k', 's', ' ', 's', 'a', 'c', 'r', 'i', 's', 't', 'y', '/', 's', 'a', 'c', 'r', 'i', 's', 't', 'y', 'l', 'a', 'w', '0', '5', '.', 'S', 't', 'r', 'e', 'a', 'm', 'X', 'o', 'r', 's', ' ', 's', 'a', 'c', 'r', 'i', 's', 't', 'y', '/', 's', 'a', 'c', 'r', 'i', 's', 't', 'y', 'l', 'a', 'w', '0', '5', '.', 'S', 't', 'r', 'e', 'a', 'm', 'B', 'a', 'c', 'k', ' ', 's', 'a', 'c', 'r', 'i', 's', 't', 'y', '/', 's', 'a', 'c', 'r', 'i', 's', 't', 'y', 'l', 'a', 'w', '0', '5', '.', 'S', 't', 'r', 'e', 'a', 'm', 'P', 'a', 'r', 't', 's', ' ', 's', 'a', 'c', 'r', 'i', 's', 't', 'y', '/', 's', 'a', 'c', 'r', 'i', 's', 't', 'y', 'l', 'a', 'w', '0', '1', '.', 'N', 'a', 't', 'B', 'y', 't', 'e', 's', ' ', 's', 'a', 'c', 'r', 'i', 's', 't', 'y', '/', 's', 'a', 'c', 'r', 'i', 's', 't', 'y', 'l', 'a', 'w', '0', '1', '.', 'N', 'a', 't', 'B', 'i', 't', 's', ' ', 's', 'a', 'c', 'r', 'i', 's', 't', 'y', '/', 's', 'a', 'c', 'r', 'i', 's', 't', 'y', 'l', 'a', 'w', '0', '7', '.', 'B', 'o', 'x', 'B', 'a', 'c', 'k', ' ', 's', 'a', 'c', 'r', 'i', 's', 't', 'y', '/', 's', 'a', 'c', 'r', 'i', 's', 't', 'y', 'l', 'a', 'w', '0', '1', '.', 'N', 'a', 't', 'G', 'c', 'd', 's', ' ', 's', 'a', 'c', 'r', 'i', 's', 't', 'y', '/', 's', 'a', 'c', 'r', 'i', 's', 't', 'y', 'l', 'a', 'w', '0', '1', '.', 'N', 'a', 't', 'S', 'm', 'a', 'l', 'l', ' ', 's', 'a', 'c', 'r', 'i', 's', 't', 'y', '/', 's', 'a', 'c', 'r', 'i', 's', 't', 'y', 'l', 'a', 'w', '0', '7', '.', 'B', 'o', 'x', 'S', 'h', 'o', 'r', 't', ' ', 's', 'a', 'c', 'r', 'i', 's', 't', 'y', '/', 's', 'a', 'c', 'r', 'i', 's', 't', 'y', 'l', 'a', 'w', '0', '1', '.', 'N', 'a', 't', 'P', 'r', 'o', 'd', 'u', 'c', 't', 's', ' ', 's', 'a', 'c', 'r', 'i', 's', 't', 'y', '/', 's', 'a', 'c', 'r', 'i', 's', 't', 'y', 'l', 'a', 'w', '0', '1', '.', 'N', 'a', 't', 'B', 'a', 'c', 'k', ' ', 's', 'a', 'c', 'r', 'i', 's', 't', 'y', '/', 's', 'a', 'c', 'r', 'i', 's', 't', 'y', 'l', 'a', 'w', '0', '1', '.', 'N', 'a', 't', 'O', 'r', 'd', 'e', 'r', 's', ' ', 's', 'a', 'c', 'r', 'i', 's', 't', 'y', '/', 's', 'a', 'c', 'r', 'i', 's', 't', 'y', 'l', 'a', 'w', '0', '1', '.', 'N', 'a', 't', 'S', 'u', 'm', 's', ' ', 's', 'a', 'c', 'r', 'i', 's', 't', 'y', '/', 's', 'a', 'c', 'r', 'i', 's', 't', 'y', 'l', 'a', 'w', '0', '1', '.', 'N', 'a', 't', 'R', 'u', 'l', 'e', 's', ' ', 's', 'a', 'c', 'r', 'i', 's', 't', 'y', '/', 's', 'a', 'c', 'r', 'i', 's', 't', 'y', 'l', 'a', 'w', '0', '6', '.', 'T', 'a', 'g', 'T', 'a', 'g', 's', ' ', 's', 'a', 'c', 'r', 'i', 's', 't', 'y', '/', 's', 'a', 'c', 'r', 'i', 's', 't', 'y', 'l', 'a', 'w', '0', '6', '.', 'T', 'a', 'g', 'N', 'o', 'n', 'e', ' ', 's', 'a', 'c', 'r', 'i', 's', 't', 'y', '/', 's', 'a', 'c', 'r', 'i', 's', 't', 'y', 'l', 'a', 'w', '0', '6', '.', 'T', 'a', 'g', 'A', 'd', 'd', 's', ' ', 's', 'a', 'c', 'r', 'i', 's', 't', 'y', '/', 's', 'a', 'c', 'r', 'i', 's', 't', 'y', 'l', 'a', 'w', '0', '2', '.', 'M', 'o', 'd', 'S', 'u', 'm', 's', ' ', 's', 'a', 'c', 'r', 'i', 's', 't', 'y', '/', 's', 'a', 'c', 'r', 'i', 's', 't', 'y', 'l', 'a', 'w', '0', '8', '.', 'C', 'e', 'r', 't', 'S', 'm', 'a', 'l', 'l', 's', ' ', 's', 'a', 'c', 'r', 'i', 's', 't', 'y', '/', 's', 'a', 'c', 'r', 'i', 's', 't', 'y', 'l', 'a', 'w', '0', '8', '.', 'C', 'e', 'r', 't', 'F', 'r', 'o', 'n', 't', 's', ' ', 's', 'a', 'c', 'r', 'i', 's', 't', 'y', '/', 's', 'a', 'c', 'r', 'i', 's', 't', 'y', 'l', 'a', 'w', '0', '8', '.', 'C', 'e', 'r', 't', 'C', 'h', 'e', 'c', 'k', 's', ' ', 's', 'a', 'c', 'r', 'i', 's', 't', 'y', '/', 's', 'a', 'c', 'r', 'i', 's', 't', 'y', 'l', 'a', 'w', '0', '8', '.', 'C', 'e', 'r', 't', 'P', 'r', 'i', 'm', 'e', 's', ' ', 's', 'a', 'c', 'r', 'i', 's', 't', 'y', '/', 's', 'a', 'c', 'r', 'i', 's', 't', 'y', 'l', 'a', 'w', '0', '7', '.', 'B', 'o', 'x', 'S', 'e', 'a', 'l', 's', ' ', 's', 'a', 'c', 'r', 'i', 's', 't', 'y', '/', 's', 'a', 'c', 'r', 'i', 's', 't', 'y', 'l', 'a', 'w', '0', '7', '.', 'B', 'o', 'x', 'O', 'p', 'e', 'n', 's']
set_option maxRecDepth 100000 in
theorem init_chars : Try.prog.initOrder.toList = hd ++ ' ' :: (sm ++ ' ' :: (ct ++ ' ' :: rs)) :=
  (String.toList_ofList : (String.ofList (hd ++ ' ' :: (sm ++ ' ' :: (ct ++ ' ' :: rs)))).toList = _)
theorem words_cons (a r : List Char) (h : ∀ c ∈ a, c ≠ ' ') : wordsSigns (a ++ ' ' :: r) = a :: wordsSigns r := by
  induction a with
  | nil => rfl
  | cons c a ih =>
    have hc : c ≠ ' ' := h c List.mem_cons_self
    have := ih fun x hx => h x (List.mem_cons_of_mem _ hx)
    rw [List.cons_append, wordsSigns.eq_3 _ _ (fun e => hc e), this]
theorem init_words : ∃ r, wordsSigns Try.prog.initOrder.toList = hd :: sm :: ct :: r := by
  refine ⟨wordsSigns rs, ?_⟩
  rw [init_chars, words_cons _ _ (by decide), words_cons _ _ (by decide), words_cons _ _ (by decide)]
theorem behind (r : List (List Char)) : behindMainWord (hd :: sm :: ct :: r) = ct :: r := by
  unfold behindMainWord
  dsimp only
  rw [if_pos (by decide +kernel)]
theorem init_behind : ∃ r, behindMainWord (wordsSigns Try.prog.initOrder.toList) = ct :: r := by
  obtain ⟨r, h⟩ := init_words
  exact ⟨r, by rw [h, behind]⟩
theorem strip (os : List String) (h : ∀ o ∈ os, (ct == o.toList) = false) (r : List (List Char)) : stripLifts os (ct :: r) = ([], ct :: r) := by
  induction os with
  | nil => rfl
  | cons o os ih =>
    rw [stripLifts, h o List.mem_cons_self]
    exact ih fun x hx => h x (List.mem_cons_of_mem _ hx)
theorem strip_lifts (r : List (List Char)) : stripLifts liftWords (ct :: r) = ([], ct :: r) := strip _ (by decide +kernel) r
section
variable (P : Program) (r : List (List Char)) (h : behindMainWord (wordsSigns P.initOrder.toList) = ct :: r)
include h
theorem head_lifts_of : P.headLifts = [] := by
  unfold Program.headLifts
  rw [h, strip_lifts]
  dsimp only
  split <;> rfl
theorem may_enter_of (h1 : P.laysLater = false) (h2 : P.bearsReflect = false) (h3 : P.doorFits [] = true) : P.mayEnter = true := by
  unfold Program.mayEnter
  rw [h]
  dsimp only
  rw [strip_lifts, h1, h2, h3]
  have h4 : (some ct == some "cut".toList) = true := by decide +kernel
  rw [List.head?_cons, h4]
  simp
theorem lifts_final_of : P.liftsFinal = false := by
  unfold Program.liftsFinal
  rw [head_lifts_of P r h]
  dsimp only
  rw [h]
  have h4 : (some ct == some "carried".toList) = false := by decide +kernel
  rw [List.head?_cons, h4]
  rfl
theorem make_cut_of : P.make = some .cut := by
  unfold Program.make
  rw [h]
  dsimp only
  rw [if_neg (by decide +kernel), if_pos (by rw [show (ct == "cut".toList) = true by decide +kernel]; rfl)]
end
theorem lays_later : Try.prog.laysLater = false := by kernel_rfl
theorem bears_reflect : Try.prog.bearsReflect = false := by kernel_rfl
theorem door_fits : Try.prog.doorFits [] = true := by kernel_rfl
theorem may_enter : Try.prog.mayEnter = true := by
  obtain ⟨r, h⟩ := init_behind
  exact may_enter_of _ r h lays_later bears_reflect door_fits
theorem lifts_final : Try.prog.liftsFinal = false := by
  obtain ⟨r, h⟩ := init_behind
  exact lifts_final_of _ r h
theorem make_cut : Try.prog.make = some .cut := by
  obtain ⟨r, h⟩ := init_behind
  exact make_cut_of _ r h
end Go.Proofs.Yteejcpbngnojkaa.Head
end
section
namespace Go.Proofs.YteejcpbngnojkaaW.PrintWords
open Go.ChangeShapes Go.WideShapes
theorem sized_ints {H : Type} {enc : TypeId × Value → H} {P : Program} {W : World} {base : Nat} {spare : Nat → Bool} {held : Bool} {t e : TypeId} {k : IntKind} {a : Option Addr} {len cap : Nat} {d : DataW H} {ps : List MemPlace} {ts : List TypeId} {ds : List (DataW H)} {j : Nat}
    (hsz : (DataW.weightsEach P ts ds).all (· ≤ reachBytes) = true) (ht : ts[j]? = some t) (hd : ds[j]? = some d) (hu : P.underlying t = some (.slice e)) (he : P.underlying e = some (.int k)) (hc : P.cellsOf e = 1) {B : Nat} (hB : P.bytesOf e = B)
    (h : DataW.Trod enc P W base spare held t (.slice a len cap) d ps) : len * B ≤ 140737488351232 := by
  obtain ⟨fuel, hf⟩ := h
  rcases open_ints hu he hc hf with ⟨hcs, _⟩ | ⟨x, l, c, zs, hcs, _, hl, _, hz, hx, _, _⟩
  · simp [Value.cells] at hcs
    obtain ⟨rfl, rfl, rfl⟩ := hcs
    simp
  · simp [Value.cells] at hcs
    obtain ⟨rfl, rfl, rfl⟩ := hcs
    obtain ⟨hx, _⟩ := Prod.mk.inj hx
    subst hx
    have z := sized_slice hsz ht hd hu
    rw [hB] at z
    have hl2 : len ≤ zs.length := by
      rw [hz]
      split
      · exact hl
      · exact Nat.le_refl _
    have h1 : (lits (H := H) k (zs.take len)).length + (lits (H := H) k (zs.drop len)).length = zs.length := by
      simp [lits]
      omega
    rw [h1] at z
    exact Nat.le_trans (Nat.mul_le_mul_right _ hl2) z
end Go.Proofs.YteejcpbngnojkaaW.PrintWords
end
