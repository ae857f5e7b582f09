/- Part of the proof: the walks and the plain arithmetic, in line (wip/tools/pack.py). -/
import Derived.Test.YteejcpbngnojkaaXLawNatOrders2
import Derived.Lib.Bytes
section
namespace Go.Proofs.Yteejcpbngnojkaa.P
open Go.RowKit Go.Shelf Go.Proofs.YteejcpbngnojkaaW.PrintWords Go.Proofs.YteejcpbngnojkaaW.PrintLast Go.Proofs.YteejcpbngnojkaaW.PrintMore
open Go.Proofs.Yteejcpbngnojkaa.Num
set_option linter.unusedVariables false
def nat_Nat_Div.f (_k : Nat) (l0_0 : List Int) (l1_0 : List Int) : Option (List Int × List Int × Int) :=
  if canonB l0_0 && canonB l1_0 && decide (l0_0.length ≤ 1048576) && decide (l1_0.length ≤ 1048576) then (if valW l1_0 = 0 then some ([], [], 5) else some (toW (valW l0_0 / valW l1_0), toW (valW l0_0 % valW l1_0), 0)) else none
theorem nat_Nat_Div.mono : ∀ a0 a1 k, LeO (nat_Nat_Div.f k a0 a1) (nat_Nat_Div.f (k + 1) a0 a1) := fun _ _ _ => LeO.refl _
theorem four_new (w : World) (o0 o1 o2 o3 : Obj) : ((((w.alloc o0).alloc o1).alloc o2).alloc o3).heap[w.heap.size]? = some o0 ∧ ((((w.alloc o0).alloc o1).alloc o2).alloc o3).heap[w.heap.size + 1]? = some o1 ∧ ((((w.alloc o0).alloc o1).alloc o2).alloc o3).heap[w.heap.size + 1 + 1]? = some o2 ∧ ((((w.alloc o0).alloc o1).alloc o2).alloc o3).heap[w.heap.size + 1 + 1 + 1]? = some o3 ∧ Below w.heap.size w ((((w.alloc o0).alloc o1).alloc o2).alloc o3) := by
  refine ⟨blk_alloc (blk_alloc (blk_alloc (blk_new w o0) _) _) _, ?_, ?_, ?_, ?_⟩
  · refine blk_alloc (blk_alloc ?_ _) _
    have := blk_new (w.alloc o0) o1
    simpa only [World.size_alloc] using this
  · refine blk_alloc ?_ _
    have := blk_new ((w.alloc o0).alloc o1) o2
    simpa only [World.size_alloc] using this
  · have := blk_new (((w.alloc o0).alloc o1).alloc o2) o3
    simpa only [World.size_alloc] using this
  · exact ((((Below.refl _ w).alloc (Nat.le_refl _) _).alloc (by simp) _).alloc (by simp; omega) _).alloc (by simp; omega) _
theorem two_end {w W : World} {va vb : Value} (m2 : W.heap[w.heap.size + 1 + 1]? = some (.cells #[.slice none 0 0] 38 (0, 0))) (m3 : W.heap[w.heap.size + 1 + 1 + 1]? = some (.cells #[.slice none 0 0] 38 (0, 0))) (hB : Below w.heap.size w W) (Wf : World)
    (hW : (W.setCell ⟨w.heap.size + 1 + 1, 0, none⟩ va).setCell ⟨w.heap.size + 1 + 1 + 1, 0, none⟩ vb = Wf) :
    Wf.heap[w.heap.size + 1 + 1]? = some (.cells #[va] 38 (0, 0)) ∧ Wf.heap[w.heap.size + 1 + 1 + 1]? = some (.cells #[vb] 38 (0, 0)) ∧ Below w.heap.size w Wf ∧ ∀ (b : Nat) (ok ok' : Nat → Prop) (v : Value) (xs : List Int), Kd.V (Kd.int .u32) 23 W b ok v xs → (∀ k, ok k → (k ≠ w.heap.size + 1 + 1 ∧ k ≠ w.heap.size + 1 + 1 + 1) ∧ ok' k) → Kd.V (Kd.int .u32) 23 Wf w.heap.size ok' v xs := by
  subst hW
  refine ⟨(Below.heap_setCell _ _ _ _ (by show w.heap.size + 1 + 1 ≠ w.heap.size + 1 + 1 + 1; omega)).trans (blk_put m2 0 _ rfl), blk_put ((Below.heap_setCell _ _ _ _ (by show w.heap.size + 1 + 1 + 1 ≠ w.heap.size + 1 + 1; omega)).trans m3) 0 _ rfl,
    (hB.setCell (p := ⟨w.heap.size + 1 + 1, 0, none⟩) (by show w.heap.size ≤ w.heap.size + 1 + 1; omega) _).setCell (p := ⟨w.heap.size + 1 + 1 + 1, 0, none⟩) (by show w.heap.size ≤ w.heap.size + 1 + 1 + 1; omega) _, fun b ok ok' v xs hv ho => ?_⟩
  exact Kd.V_mono (Kd.V_far (Kd.V_far hv (fun k hk => (ho k hk).1.1) _) (fun k hk => (ho k hk).1.2) _) (fun k hk => (ho k hk).2)
set_option maxRecDepth 100000 in
set_option maxHeartbeats 4000000 in
theorem nat_Nat_Div.calls_z (P0_0_ : Nat → Prop) (A0_0 : Option Addr) (c0_0 : Nat) (l0_0 : List Int) (A1_0 : Option Addr) (c1_0 : Nat) (l1_0 : List Int) (w : World) (hs0_0 : Kd.V (Kd.int .u32) 23 w w.heap.size (fun k_ => P0_0_ k_) (.slice A0_0 l0_0.length c0_0) l0_0) (hr1_0 : Kd.C (Kd.int .u32) w A1_0 l1_0.length l1_0) (hc1_0 : l1_0.length ≤ c1_0) (hz : l1_0.length = 0) :
    Calls Try.prog 53 #[.agg #[.slice A0_0 l0_0.length c0_0], .agg #[.slice A1_0 l1_0.length c1_0]] w fun e w' => ∃ v0_ v1_ : Value, e = .returned (.tuple #[.agg #[v0_], .agg #[v1_], (.int .i64 5)]) ∧ Kd.V (Kd.int .u32) 23 w' w.heap.size (fun k_ => (P0_0_ k_ ∨ w.heap.size ≤ k_)) v0_ [] ∧ Kd.V (Kd.int .u32) 23 w' w.heap.size (fun k_ => (P0_0_ k_ ∨ w.heap.size ≤ k_)) v1_ [] ∧ Below w.heap.size w w' := by
  have V0 := Aside0.mk (Kd.V_bound hs0_0)
  have C1 := Aside0.mk hr1_0
  have hc1 := Aside0.mk hc1_0
  clear hs0_0 hr1_0 hc1_0
  obtain ⟨k0, k1, k2, k3, B⟩ := four_new w (.cells #[.slice A0_0 l0_0.length c0_0] 38) (.cells #[.slice A1_0 l1_0.length c1_0] 38) (.cells #[.slice none 0 0] 38) (.cells #[.slice none 0 0] 38)
  have V1 := Aside0.mk (Kd.V_alloc (Kd.V_alloc (Kd.V_alloc (Kd.V_alloc V0.out (.cells #[.slice A0_0 l0_0.length c0_0] 38)) (.cells #[.slice A1_0 l1_0.length c1_0] 38)) (.cells #[.slice none 0 0] 38)) (.cells #[.slice none 0 0] 38))
  have C2 := Aside0.mk (Kd.C_below C1.out B)
  have hzb : ((l1_0.length : Int) == 0) = true := by rw [hz]; rfl
  replace hz := Aside0.mk hz
  go_enter Try.func53, Try.ntmps53
  go_wp2_with (go_at_call 44; refine (nat_Nat_Zero.calls _ _ l1_0 _ _ C2.out hc1.out rfl).mono ?_; rintro e w1 ⟨rfl, hb⟩; replace k0 := (hb.block _ (blk_lt k0)).trans k0; replace k1 := (hb.block _ (blk_lt k1)).trans k1; replace k2 := (hb.block _ (blk_lt k2)).trans k2; replace k3 := (hb.block _ (blk_lt k3)).trans k3; replace V1 := Aside0.mk (Kd.V_below V1.out hb); replace C2 := Aside0.mk (Kd.C_below C2.out hb); replace B := below_step B hb; clear hb; have q0 : World.cell? _ ⟨w.heap.size, 0, none⟩ = some (.slice A0_0 l0_0.length c0_0) := blk_cell k0 0; have q1 : World.cell? _ ⟨w.heap.size + 1, 0, none⟩ = some (.slice A1_0 l1_0.length c1_0) := blk_cell k1 0; have q2 : World.cell? _ ⟨w.heap.size + 1 + 1, 0, none⟩ = some (.slice none 0 0) := blk_cell k2 0; have q3 : World.cell? _ ⟨w.heap.size + 1 + 1 + 1, 0, none⟩ = some (.slice none 0 0) := blk_cell k3 0; have f2 := blk_frozen k2 0; have f3 := blk_frozen k3 0)
  obtain ⟨e2, e3, y1, y2⟩ := two_end k2 k3 B _ rfl
  refine bodyPost_ret (results_list (rs := [.cell 4 38, .cell 5 38, .tmp 6]) rfl (by simp) (.cell _ 38 _ (0, 0) _ rfl e2 Try.underlying38 rfl (by kernel_rfl) (.cell _ 38 _ (0, 0) _ rfl e3 Try.underlying38 rfl (by kernel_rfl) (.tmp .nil)))) rfl ?_
  exact ⟨_, _, rfl, Kd.V_nil _ _ _ _ _, Kd.V_nil _ _ _ _ _, y1⟩
set_option maxRecDepth 100000 in
set_option maxHeartbeats 4000000 in
theorem nat_Nat_Div.calls_l (k : Nat) (c : Int) (P0_0_ : Nat → Prop) (A0_0 : Option Addr) (c0_0 : Nat) (l0_0 : List Int) (A1_0 : Option Addr) (c1_0 : Nat) (l1_0 : List Int) (w : World) (hs0_0 : Kd.V (Kd.int .u32) 23 w w.heap.size (fun k_ => P0_0_ k_) (.slice A0_0 l0_0.length c0_0) l0_0) (hr1_0 : Kd.C (Kd.int .u32) w A1_0 l1_0.length l1_0) (hc1_0 : l1_0.length ≤ c1_0) (hz : ¬ l1_0.length = 0) (hc : nat_Nat_Cmp.f k l0_0 l1_0 = some c) (hneg : c < 0) :
    Calls Try.prog 53 #[.agg #[.slice A0_0 l0_0.length c0_0], .agg #[.slice A1_0 l1_0.length c1_0]] w fun e w' => ∃ v0_ v1_ : Value, e = .returned (.tuple #[.agg #[v0_], .agg #[v1_], (.int .i64 0)]) ∧ Kd.V (Kd.int .u32) 23 w' w.heap.size (fun k_ => (P0_0_ k_ ∨ w.heap.size ≤ k_)) v0_ [] ∧ Kd.V (Kd.int .u32) 23 w' w.heap.size (fun k_ => (P0_0_ k_ ∨ w.heap.size ≤ k_)) v1_ l0_0 ∧ Below w.heap.size w w' := by
  have V0 := Aside0.mk (Kd.V_bound hs0_0)
  have C1 := Aside0.mk hr1_0
  have hc1 := Aside0.mk hc1_0
  clear hs0_0 hr1_0 hc1_0
  obtain ⟨k0, k1, k2, k3, B⟩ := four_new w (.cells #[.slice A0_0 l0_0.length c0_0] 38) (.cells #[.slice A1_0 l1_0.length c1_0] 38) (.cells #[.slice none 0 0] 38) (.cells #[.slice none 0 0] 38)
  have V1 := Aside0.mk (Kd.V_alloc (Kd.V_alloc (Kd.V_alloc (Kd.V_alloc V0.out (.cells #[.slice A0_0 l0_0.length c0_0] 38)) (.cells #[.slice A1_0 l1_0.length c1_0] 38)) (.cells #[.slice none 0 0] 38)) (.cells #[.slice none 0 0] 38))
  have C2 := Aside0.mk (Kd.C_below C1.out B)
  have hzb : ((l1_0.length : Int) == 0) = false := beq_eq_false_iff_ne.2 (by omega)
  replace hc := Aside0.mk hc
  replace hz := Aside0.mk hz
  have hmx : Try.prog.follows .mixedOrders = true := by kernel_rfl
  have hnb : decide (c < 0) = true := decide_eq_true hneg
  go_enter Try.func53, Try.ntmps53
  go_wp2_with (first | (go_at_call 44; refine (nat_Nat_Zero.calls _ _ l1_0 _ _ C2.out hc1.out rfl).mono ?_; rintro e w1 ⟨rfl, hb⟩; replace k0 := (hb.block _ (blk_lt k0)).trans k0; replace k1 := (hb.block _ (blk_lt k1)).trans k1; replace k2 := (hb.block _ (blk_lt k2)).trans k2; replace k3 := (hb.block _ (blk_lt k3)).trans k3; replace V1 := Aside0.mk (Kd.V_below V1.out hb); replace C2 := Aside0.mk (Kd.C_below C2.out hb); replace B := below_step B hb; clear hb; have q0 : World.cell? _ ⟨w.heap.size, 0, none⟩ = some (.slice A0_0 l0_0.length c0_0) := blk_cell k0 0; have q1 : World.cell? _ ⟨w.heap.size + 1, 0, none⟩ = some (.slice A1_0 l1_0.length c1_0) := blk_cell k1 0; have q2 : World.cell? _ ⟨w.heap.size + 1 + 1, 0, none⟩ = some (.slice none 0 0) := blk_cell k2 0; have q3 : World.cell? _ ⟨w.heap.size + 1 + 1 + 1, 0, none⟩ = some (.slice none 0 0) := blk_cell k3 0; have f2 := blk_frozen k2 0; have f3 := blk_frozen k3 0) | (go_at_call 45; refine (nat_Nat_Cmp.calls k _ _ l0_0 _ _ l1_0 c _ (Kd.V_reads' V1.out).2.2 (Kd.V_reads' V1.out).2.1 C2.out hc1.out hc.out).mono ?_; rintro e w2 ⟨rfl, hb⟩; replace k0 := (hb.block _ (blk_lt k0)).trans k0; replace k1 := (hb.block _ (blk_lt k1)).trans k1; replace k2 := (hb.block _ (blk_lt k2)).trans k2; replace k3 := (hb.block _ (blk_lt k3)).trans k3; replace V1 := Aside0.mk (Kd.V_below V1.out hb); replace C2 := Aside0.mk (Kd.C_below C2.out hb); replace B := below_step B hb; clear hb; have q0 : World.cell? _ ⟨w.heap.size, 0, none⟩ = some (.slice A0_0 l0_0.length c0_0) := blk_cell k0 0; have q1 : World.cell? _ ⟨w.heap.size + 1, 0, none⟩ = some (.slice A1_0 l1_0.length c1_0) := blk_cell k1 0; have q2 : World.cell? _ ⟨w.heap.size + 1 + 1, 0, none⟩ = some (.slice none 0 0) := blk_cell k2 0; have q3 : World.cell? _ ⟨w.heap.size + 1 + 1 + 1, 0, none⟩ = some (.slice none 0 0) := blk_cell k3 0; have f2 := blk_frozen k2 0; have f3 := blk_frozen k3 0))
  go_region
  all_goals go_wp2
  obtain ⟨e2, e3, y1, y2⟩ := two_end (w := w) (W := w2) (va := .slice none 0 0) (vb := .slice A0_0 l0_0.length c0_0) k2 k3 B _ rfl
  refine bodyPost_ret (results_list (rs := [.cell 4 38, .cell 5 38, .tmp 6]) rfl (by simp) (.cell _ 38 _ (0, 0) _ rfl e2 Try.underlying38 rfl (by kernel_rfl) (.cell _ 38 _ (0, 0) _ rfl e3 Try.underlying38 rfl (by kernel_rfl) (.tmp .nil)))) rfl ?_
  exact ⟨_, _, rfl, Kd.V_nil _ _ _ _ _, Kd.V_drew (y2 _ _ _ _ _ V1.out (fun k_ hk => ⟨⟨by have := hk.2; omega, by have := hk.2; omega⟩, .inl hk.1⟩)), y1.drew⟩
theorem nat_Nat_Div.calls (k : Nat) (P0_0_ : Nat → Prop) (A0_0 : Option Addr) (c0_0 : Nat) (l0_0 : List Int) (A1_0 : Option Addr) (c1_0 : Nat) (l1_0 : List Int) (r1 : List Int) (r2 : List Int) (r3 : Int) (w : World) (hs0_0 : Kd.V (Kd.int .u32) 23 w w.heap.size (fun k_ => P0_0_ k_) (.slice A0_0 l0_0.length c0_0) l0_0) (hr1_0 : Kd.C (Kd.int .u32) w A1_0 l1_0.length l1_0) (hc1_0 : l1_0.length ≤ c1_0) (h : nat_Nat_Div.f k l0_0 l1_0 = some (r1, r2, r3)) :
    Calls Try.prog 53 #[.agg #[.slice A0_0 l0_0.length c0_0], .agg #[.slice A1_0 l1_0.length c1_0]] w fun e w' => ∃ v0_ v1_ : Value, e = .returned (.tuple #[.agg #[v0_], .agg #[v1_], .int .i64 r3]) ∧ Kd.V (Kd.int .u32) 23 w' w.heap.size (fun k_ => (P0_0_ k_ ∨ w.heap.size ≤ k_)) v0_ r1 ∧ Kd.V (Kd.int .u32) 23 w' w.heap.size (fun k_ => (P0_0_ k_ ∨ w.heap.size ≤ k_)) v1_ r2 ∧ Below w.heap.size w w' := by
  unfold nat_Nat_Div.f at h
  by_cases hg : (canonB l0_0 && canonB l1_0 && decide (l0_0.length ≤ 1048576) && decide (l1_0.length ≤ 1048576)) = true
  · rw [if_pos hg] at h
    simp only [Bool.and_eq_true, decide_eq_true_eq] at hg
    obtain ⟨⟨⟨g0, g1⟩, g2⟩, g3⟩ := hg
    have e0 := canonB_eq g0
    have e1 := canonB_eq g1
    by_cases hB : valW l1_0 = 0
    · rw [if_pos hB] at h
      cases h
      exact nat_Nat_Div.calls_z P0_0_ A0_0 c0_0 l0_0 A1_0 c1_0 l1_0 w hs0_0 hr1_0 hc1_0 ((canonB_nil g1).1 hB)
    · rw [if_neg hB] at h
      cases h
      have hl : ¬ l1_0.length = 0 := fun e => hB ((canonB_nil g1).2 e)
      by_cases hlt : valW l0_0 < valW l1_0
      · have hc : nat_Nat_Cmp.f 0 l0_0 l1_0 = some (cmpN (valW l0_0) (valW l1_0)) := by
          have := Cmp_toW 0 (valW l0_0) (valW l1_0)
          rwa [e0, e1] at this
        have hcal := nat_Nat_Div.calls_l 0 _ P0_0_ A0_0 c0_0 l0_0 A1_0 c1_0 l1_0 w hs0_0 hr1_0 hc1_0 hl hc (cmpN_lt.2 hlt)
        rw [Nat.div_eq_of_lt hlt, Nat.mod_eq_of_lt hlt, toW_zero, e0]
        exact hcal
      · obtain ⟨K, hK⟩ := (g_ev (valW l0_0) (valW l1_0) (by omega) (by rw [e0]; exact g2) (by rw [e1]; exact g3)).rounds
        rw [e0, e1] at hK
        have hz : nat_Nat_Zero.f l1_0 = some false := by
          have := Zero_toW (valW l1_0)
          rw [e1] at this
          rw [this]
          simp [hB]
        have hn : ∀ t, nat_Nat_Cmp.f K l0_0 l1_0 = some t → ¬ t < 0 := by
          intro t ht hneg
          have := Cmp_toW K (valW l0_0) (valW l1_0)
          rw [e0, e1, ht] at this
          cases this
          exact hlt (cmpN_lt.1 hneg)
        have hr0 := Kd.V_reads' hs0_0
        by_cases h1 : (l1_0.length : Int) = 1
        · refine (nat_Nat_Div.calls_o K A0_0 c0_0 l0_0 A1_0 c1_0 l1_0 _ _ _ w hr0.2.2 hr0.2.1 hr1_0 hc1_0 hz hn h1 hK).mono ?_
          rintro e w' ⟨v0, v1, he, hv0, hv1, hb⟩
          exact ⟨v0, v1, he, Kd.V_mono hv0 (fun _ hk => .inr hk), Kd.V_mono hv1 (fun _ hk => .inr hk), hb⟩
        · refine (nat_Nat_Div.calls_k K A0_0 c0_0 l0_0 A1_0 c1_0 l1_0 _ _ _ w hr0.2.2 hr0.2.1 hr1_0 hc1_0 hz hn h1 hK).mono ?_
          rintro e w' ⟨v0, v1, he, hv0, hv1, hb⟩
          exact ⟨v0, v1, he, Kd.V_mono hv0 (fun _ hk => .inr hk), Kd.V_mono hv1 (fun _ hk => .inr hk), hb⟩
  · rw [if_neg hg] at h
    cases h
end Go.Proofs.Yteejcpbngnojkaa.P
end
section
namespace Go.Proofs.Yteejcpbngnojkaa.P
open Go.RowKit Go.Proofs.YteejcpbngnojkaaW.PrintWords Go.Proofs.YteejcpbngnojkaaW.PrintLast Go.Proofs.YteejcpbngnojkaaW.PrintMore
attribute [local go_sem] max2_int min2_int max_two min_two max_three min_three max_four min_four
set_option linter.unusedVariables false
set_option linter.unusedSimpArgs false
def sacristyref01_Small.l0 : Nat → Int → List Bool → Option (List Bool)
 |0,_,_ => none
 |k + 1,x0,x3 => if x0 > 0 then (if x3.length < 140737488355328 then (sacristyref01_Small.l0 k (IntKind.u64.wrap (Int.tdiv x0 2)) (x3 ++ [((Int.tmod x0 2) == 1)])) else (none)) else (some x3)
def sacristyref01_Small.f (k : Nat) (a0 : Int) : Option (List Bool):=sacristyref01_Small.l0 k a0 (([] : List Bool))
theorem sacristyref01_Small.mono_l : ∀ k,(∀ y0 y1,LeO (sacristyref01_Small.l0 k y0 y1) (sacristyref01_Small.l0 (k + 1) y0 y1))
 |0 => fun _ _ r h => by simp [sacristyref01_Small.l0] at h
 |k + 1 => by
  have ih0:=sacristyref01_Small.mono_l k
  ·intro y0 y1
   unfold sacristyref01_Small.l0
   repeat' first
   |(with_reducible exact ih0 _ _)
   |(with_reducible exact LeO.refl _)
   |(with_reducible exact LeO.none _)
   |(with_reducible refine LeO.ite ?_ ?_)
   |(with_reducible refine LeO.bind ?_ (fun _ => ?_))
   |exact ih0 _ _
   |exact LeO.none _
   |refine LeO.ite ?_ ?_
   |refine LeO.bind ?_ (fun _ => ?_)
theorem sacristyref01_Small.mono : ∀ a0 k,LeO (sacristyref01_Small.f k a0) (sacristyref01_Small.f (k + 1) a0):=by
 intro a0 k
 have ih0:=sacristyref01_Small.mono_l k
 unfold sacristyref01_Small.f
 repeat' first
   |(with_reducible exact ih0 _ _)
   |(with_reducible exact LeO.refl _)
   |(with_reducible exact LeO.none _)
   |(with_reducible refine LeO.ite ?_ ?_)
   |(with_reducible refine LeO.bind ?_ (fun _ => ?_))
   |exact ih0 _ _
   |exact LeO.none _
   |refine LeO.ite ?_ ?_
   |refine LeO.bind ?_ (fun _ => ?_)
set_option maxHeartbeats 8000000 in
set_option maxRecDepth 100000 in
theorem sacristyref01_Small.calls (k : Nat) (a0 : Int) (r : List Bool) (w : World) (h : sacristyref01_Small.f k a0 = some r) :
  Calls Try.prog 56 #[.int .u64 a0] w fun e w' => ∃ v0_ : Value,e = .returned (v0_) ∧ Kd.R Kd.bool 4 w' w.heap.size (fun _ => True) v0_ r ∧ Below w.heap.size w w':=by
 have HB:=Aside0.mk (Below.refl w.heap.size w)
 have H : (sacristyref01_Small.l0 k a0 (([] : List Bool))) = some r:=h
 clear h
 obtain ⟨y414,hy414⟩ : ∃ y_ : List Bool,y_ = (([] : List Bool)):=⟨_,rfl⟩
 replace H : (sacristyref01_Small.l0 k a0 y414) = some r:=by first|(rw [hy414];with_reducible exact H)|(have H2_:=(Option.bind_some _ _).symm.trans H;rw [hy414];with_reducible exact H2_)|(have H2_:=(Option.bind_some _ _).symm.trans H;with_reducible exact H2_)|with_reducible exact H|(rw [hy414];exact H)|exact H
 have Ny414:=Aside0.mk hy414
 clear hy414
 have H':=Aside0.mk H
 clear H
 go_enter Try.func56,Try.ntmps56
 go_wp2_with (first|((with_reducible refine gate_dst (N:=4) rfl ?_);refine Kd.R_lit Kd.bool _ 4 ?hg (N:=4) ?hd (xs:=([] : List Bool)) (inner:=[]) (ok:=fun _ => True) (okp:=fun _ => True) ?hr ?hp (fun _ hk => hk) trivial (Below.refl _ _) (Nat.le_refl _) (by simp) ?_;(case hd => rfl);(case hg => rfl);(case hr => first|(go_simp;done)|(go_simp;rfl));(case hp => exact (Reps.none _ _));intro v415 w2 ho3 hb hg_ hnew_;clear hg_ hnew_;(first|rw [← Ny414.out] at ho3|(simp only [Int.reduceToNat] at ho3;rw [← Ny414.out] at ho3));have HO416:=Aside0.mk (Kd.R_lower ho3 (below_size (qS HB)));replace HB:=qs HB hb;clear hb ho3))
 go_loopg [0,3] k (fun kq v0 v3 w' => ∃ (x0_1 : Int) (x3_1 : List Bool),v0 = .int .u64 x0_1 ∧ Aside0 (sacristyref01_Small.l0 kq x0_1 x3_1 = some r) ∧ Aside0 (kq ≤ k) ∧ Aside0 (Kd.R Kd.bool 4 w' w.heap.size (fun _ => True) v3 x3_1) ∧ Aside0 (Below w.heap.size w w'))
 case atStart => exact ⟨(a0),(y414),(by first|rfl|(simp;done)|(simp [*];done)),H',⟨Nat.le_refl _⟩,⟨qRm HO416⟩,⟨qS HB⟩⟩
 case round =>
  clear H'
  try clear p2
  obtain ⟨x0_1,x3_1,rfl,HA,HK1,HO_3,HB⟩:=hrel
  cases gk with
  |zero => exact absurd HA.out (by simp [sacristyref01_Small.l0])
  |succ k1 =>
   have H:=HA.out
   clear HA
   simp only [sacristyref01_Small.l0] at H
   by_cases c4 : x0_1 > 0
   ·rw [if_pos c4] at H
    have c4b0 : decide (0 < x0_1) = true:=decide_eq_true c4
    clear c4
    by_cases c5 : x3_1.length < 140737488355328
    ·rw [if_pos c5] at H
     have LMc5:=Aside0.mk c5
     clear c5
     obtain ⟨y417,hy417⟩ : ∃ y_ : List Bool,y_ = (x3_1 ++ [((Int.tmod x0_1 2) == 1)]):=⟨_,rfl⟩
     replace H : (sacristyref01_Small.l0 k1 (IntKind.u64.wrap (Int.tdiv x0_1 2)) y417) = some r:=by first|(rw [hy417];with_reducible exact H)|(have H2_:=(Option.bind_some _ _).symm.trans H;rw [hy417];with_reducible exact H2_)|(have H2_:=(Option.bind_some _ _).symm.trans H;with_reducible exact H2_)|with_reducible exact H|(rw [hy417];exact H)|exact H
     have Ny417:=Aside0.mk hy417
     clear hy417
     have H':=Aside0.mk H
     clear H
     go_wp2_with (first|((with_reducible refine gate_builtin (b:=.append) (xs:=#[.tmp 7,.tmp 11]) rfl ?_);at_builtin;refine Kd.R_append Kd.bool (w0:=w) w.heap.size rfl (.tmp 7) (.tmp 11) 42 4 (.bool false) 1 rfl Try.underlying42 info4 rfl (by decide) (by omega) u3 x3_1 ((Int.tmod x0_1 2) == 1) [.bool ((Int.tmod x0_1 2) == 1)] (fun _ => True) (fun _ => False) rfl rfl ?aP (fun _ hk => hk.elim) ?aF ?aO ?aB ?aS ?aL ?_;(case aP => exact rfl);(case aB => exact (qS HB));(case aF => exact (fun _ _ => trivial));(case aO => exact (qRm HO_3));(case aS => exact (below_size (qS HB)));(case aL => have:=LMc5.out;omega);intro v418 w6 ho hb hg hat;rw [← Ny417.out] at ho;replace HB:=Aside0.mk (hb);have HO419:=Aside0.mk (ho);(try clear HO_3);clear ho hb hg hat))
     go_roundg k1
     case measure => have:=HK1.out;omega
     case rel => exact ⟨(IntKind.u64.wrap (Int.tdiv x0_1 2)),(y417),(by first|rfl|(simp;done)|(simp [*];done)),H',⟨by have:=HK1.out;omega⟩,⟨qRm HO419⟩,⟨qS HB⟩⟩
    ·rw [if_neg c5] at H
     exact absurd H (by simp)
   ·rw [if_neg c4] at H
    have c4b0 : decide (0 < x0_1) = false:=decide_eq_false c4
    clear c4
    obtain rfl:=Option.some.inj H
    go_wp2
    (first|go_ret|(refine ⟨_,results_tmp rfl _ _ _,?_⟩))
    exact ⟨_,by first|rfl|(simp [errW_none,errW_some] <;> rfl)|(simp [*,errW_none,errW_some] <;> rfl),qRm HO_3,qS HB⟩
end Go.Proofs.Yteejcpbngnojkaa.P
end
section
namespace Go.Proofs.Yteejcpbngnojkaa.P
open Go.RowKit Go.Proofs.YteejcpbngnojkaaW.PrintWords Go.Proofs.YteejcpbngnojkaaW.PrintLast Go.Proofs.YteejcpbngnojkaaW.PrintMore
attribute [local go_sem] max2_int min2_int max_two min_two max_three min_three max_four min_four
set_option linter.unusedVariables false
set_option linter.unusedSimpArgs false
def sacristylaw01_lives.f (k : Nat)  : Option (Bool):=(nat_New.f k 7).bind fun t420 => ((nat_New.f k 2).bind fun t423 => ((nat_Nat_Div.f k t420 t423).bind fun bt426 => (if bt426.2.2 = 0 then ((sacristyref01_Small.f k 3).bind fun t435 => ((sacristylaw01_Same.f k bt426.1 t435).bind fun t438 => (if t438 = true then ((sacristyref01_Small.f k 1).bind fun t439 => ((sacristylaw01_Same.f k bt426.2.1 t439).bind fun t442 => (some t442))) else (some false)))) else (some false))))
theorem sacristylaw01_lives.mono : ∀ k,LeO (sacristylaw01_lives.f k ) (sacristylaw01_lives.f (k + 1) ):=by
 intro  k
 unfold sacristylaw01_lives.f
 repeat' first
   |(with_reducible exact nat_Nat_Div.mono _ _ _)
   |(with_reducible exact nat_New.mono _ _)
   |(with_reducible exact sacristylaw01_Same.mono _ _ _)
   |(with_reducible exact sacristyref01_Small.mono _ _)
   |(with_reducible exact LeO.refl _)
   |(with_reducible exact LeO.none _)
   |(with_reducible refine LeO.ite ?_ ?_)
   |(with_reducible refine LeO.bind ?_ (fun _ => ?_))
   |exact nat_Nat_Div.mono _ _ _
   |exact nat_New.mono _ _
   |exact sacristylaw01_Same.mono _ _ _
   |exact sacristyref01_Small.mono _ _
   |exact LeO.none _
   |refine LeO.ite ?_ ?_
   |refine LeO.bind ?_ (fun _ => ?_)
def sacristylaw01_lives.T2 : Bool × List (List Nat × List Nat):=(true,[([],[]),([0],[0]),([1],[1]),([2],[2]),([2,2],[2]),([3,4,4,2],[2,3,4]),([2,5],[2,5]),([6,5],[6]),([7],[7]),([7,7],[7]),([8,9,9,7],[7,8,9]),([7,10],[7,10]),([11,10,0,1,2,3,4,5,6,7,8,9,10,11],[11])])
def sacristylaw01_lives.B2 : List Nat:=[0,1,3,7,7,31,63,127,255,255,1023,2047,4095]
theorem sacristylaw01_lives.tab2 : rtab .any (opsOf Try.f34 2) = sacristylaw01_lives.T2:=by kernel_rfl
theorem sacristylaw01_lives.bits2 : waitsOk sacristylaw01_lives.T2.2 sacristylaw01_lives.B2 = true:=by kernel_rfl
set_option maxHeartbeats 8000000 in
set_option maxRecDepth 100000 in
theorem sacristylaw01_lives.calls (k : Nat)  (r : Bool) (w : World) (h : sacristylaw01_lives.f k  = some r) :
  Calls Try.prog 34 #[] w fun e w' => e = .returned (.bool r) ∧ Below w.heap.size w w':=by
 have hu38:=Try.underlying38
 have HB:=Aside0.mk (Below.refl w.heap.size w)
 have H : ((nat_New.f k 7).bind fun t420 => ((nat_New.f k 2).bind fun t423 => ((nat_Nat_Div.f k t420 t423).bind fun bt426 => (if bt426.2.2 = 0 then ((sacristyref01_Small.f k 3).bind fun t435 => ((sacristylaw01_Same.f k bt426.1 t435).bind fun t438 => (if t438 = true then ((sacristyref01_Small.f k 1).bind fun t439 => ((sacristylaw01_Same.f k bt426.2.1 t439).bind fun t442 => (some t442))) else (some false)))) else (some false))))) = some r:=h
 clear h
 obtain ⟨t420,A1,H⟩:=qH H
 obtain ⟨t423,A2,H⟩:=qH H
 obtain ⟨⟨t426,t429,t432⟩,A3,H⟩:=qH H
 dsimp only at H
 by_cases c4 : t432 = 0
 ·rw [if_pos c4] at H
  have c4b0 : (t432 == 0) = true:=beq_iff_eq.mpr c4
  have c4b1 : (t432 != 0) = false:=bne_eq_false_iff_eq.mpr c4
  clear c4
  obtain ⟨t435,A5,H⟩:=qH H
  obtain ⟨t438,A6,H⟩:=qH H
  by_cases c7 : t438 = true
  ·subst c7
   rw [if_pos rfl] at H
   obtain ⟨t439,A8,H⟩:=qH H
   obtain ⟨t442,A9,H⟩:=qH H
   obtain rfl:=Option.some.inj H
   go_enter Try.func34,Try.ntmps34
   try go_wp2_with (first|((with_reducible refine gate_callee (f:=54) rfl ?_);refine gL (some 5) Try.func54 #[.int .u64 7] ?_;(with_reducible refine (nat_New.calls k 7 t420 _ A1.out).mono ?_);rintro e w10 ⟨v421,rfl,ho0,hb⟩;refine ⟨_,rfl,?_⟩;have HO422:=Aside0.mk (Kd.V_lower (Kd.V_mono (ok':=fun k_ => True) ho0 (fun k_ hk_ => trivial)) (below_size (qS HB)));replace HB:=qs HB hb;clear hb ho0)|((with_reducible refine gate_callee (f:=54) rfl ?_);refine gL (some 6) Try.func54 #[.int .u64 2] ?_;(with_reducible refine (nat_New.calls k 2 t423 _ A2.out).mono ?_);rintro e w11 ⟨v424,rfl,ho0,hb⟩;refine ⟨_,rfl,?_⟩;replace HO422:=qVb HO422 hb;have HO425:=Aside0.mk (Kd.V_lower (Kd.V_mono (ok':=fun k_ => True) ho0 (fun k_ hk_ => trivial)) (below_size (qS HB)));replace HB:=qs HB hb;clear hb ho0;obtain ⟨Ao12,co12,eo12⟩:=Kd.V_slice HO422.out;subst eo12;obtain ⟨Ao13,co13,eo13⟩:=Kd.V_slice HO425.out;subst eo13)|((with_reducible refine gate_callee (f:=53) rfl ?_);refine gL (some 7) Try.func53 #[.agg #[.slice Ao12 t420.length co12],.agg #[.slice Ao13 t423.length co13]] ?_;(with_reducible refine (nat_Nat_Div.calls k (fun k_ => True) _ _ t420 _ _ t423 t426 t429 t432 _ ?side1 ?side2 ?side3 A3.out).mono ?_);(case side1 => first|exact HO422.out|exact qVm HO422);(case side2 => exact qCV HO425);(case side3 => exact qL HO425);rintro e w14 ⟨v427,v430,rfl,ho0,ho1,hb⟩;refine ⟨_,rfl,?_⟩;replace HO422:=qVb HO422 hb;replace HO425:=qVb HO425 hb;have HO428:=Aside0.mk (Kd.V_lower (Kd.V_mono (ok':=fun k_ => True) ho0 (fun k_ hk_ => trivial)) (below_size (qS HB)));have HO431:=Aside0.mk (Kd.V_lower (Kd.V_mono (ok':=fun k_ => True) ho1 (fun k_ hk_ => trivial)) (below_size (qS HB)));replace HB:=qs HB hb;clear hb ho0 ho1)|((with_reducible refine gate_dst (N:=1) rfl ?_);refine qX #[.slice none 0 0] 38 ?_;intro gb433 hg w15 hbox hb;replace HO422:=qVe HO422 hb hg;replace HO425:=qVe HO425 hb hg;replace HO428:=qVe HO428 hb hg;replace HO431:=qVe HO431 hb hg;have BK433:=Aside0.mk hbox;have GE433:=qh hg HB;replace HB:=qs HB hb;clear hb hbox hg)|((with_reducible refine gate_dst (N:=2) rfl ?_);refine qX #[.slice none 0 0] 38 ?_;intro gb434 hg w16 hbox hb;replace HO422:=qVe HO422 hb hg;replace HO425:=qVe HO425 hb hg;replace HO428:=qVe HO428 hb hg;replace HO431:=qVe HO431 hb hg;have BK434:=Aside0.mk hbox;have GE434:=qh hg HB;replace HB:=qs HB hb;have NB433_434:=ql hg BK433;have NB434_433:=qg hg BK433;replace BK433:=qb BK433 hb;clear hb hbox hg;obtain ⟨Ao17,co17,eo17⟩:=Kd.V_slice HO428.out;subst eo17;have hnb18:=NB433_434.out;have hnc18:=NB434_433.out;have hcz19_0:=bc BK433;have hfz19_0:=bz BK433;obtain ⟨Ao20,co20,eo20⟩:=Kd.V_slice HO431.out;subst eo20;have hcz21_0:=bc BK434;have hfz21_0:=bz BK434))
   generalize hw : ((w16.setCell ⟨gb433,0,none⟩ (.slice Ao17 t426.length co17)).setCell ⟨gb434,0,none⟩ (.slice Ao20 t429.length co20)) = w22
   replace hw:=hw.symm
   replace HO422:=qVh hw HO422
   replace HO425:=qVh hw HO425
   replace HO428:=qVh hw HO428
   replace HO431:=qVh hw HO431
   replace BK433:=qBp hw BK433
   replace BK434:=qBp hw BK434
   replace HB:=qSh hw HB
   clear hw
   replace HO422:=qVw HO422
   replace HO425:=qVw HO425
   replace HO428:=qVw HO428
   replace HO431:=qVw HO431
   replace BK433:=qbd BK433
   replace BK434:=qbd BK434
   replace HB:=qsd HB
   refine start_ (n:=13) (S:=fun w' => w'.cell? ⟨gb433,0,none⟩ = some (.slice Ao17 t426.length co17) ∧ w'.cell? ⟨gb434,0,none⟩ = some (.slice Ao20 t429.length co20)) (ds:=[]) #[false,false,false,false,false,false,false,false,false,false,false,false,false] (by kernel_rfl) rfl rfl ⟨bc BK433,bc BK434⟩ (fun hHeld => ?_);refine with_tabW sacristylaw01_lives.tab2 sacristylaw01_lives.bits2 (fun HT_ HW_ => ?_)
   generalize w22.drew = w23 at HO422 HO425 HO428 HO431 BK433 BK434 HB hHeld ⊢
   refine qP 0 11 HT_ ?_
   refine qP 1 12 HT_ ?_
   refine qP 2 13 HT_ ?_
   refine qT 3 14 HT_ HW_ hHeld ?_
   refine q1 4 (some 15) HT_ rfl (fun K hK => ?_)
   refine g_ Try.func56 #[.int .u64 3] ?_
   with_reducible refine (sacristyref01_Small.calls k 3 t435 _ A5.out).mono ?_
   rintro e w24 ⟨v436,rfl,ho0,hb⟩
   refine ⟨_,rfl,?_⟩
   replace HO422:=qVd HO422 ho0 hb
   replace HO425:=qVd HO425 ho0 hb
   replace HO428:=qVd HO428 ho0 hb
   replace HO431:=qVd HO431 ho0 hb
   have HO437:=Aside0.mk (Kd.R_lower ho0 (below_size (qS HB)))
   replace BK433:=qb BK433 hb
   replace BK434:=qb BK434 hb
   replace HB:=qs HB hb
   clear hb ho0
   obtain ⟨Ao25,co25,eo25⟩:=Kd.R_slice HO437.out
   (first|subst eo25|(injection eo25 with f1_ f2_ f3_;have f4_:=f1_.symm;have f5_:=f3_.symm;clear f1_ f2_ f3_;subst f4_;subst f5_))
   refine hK.out _ _ ⟨bc BK433,bc BK434⟩ (fun hHeld => ?_)
   clear hK K
   refine qO 15 ?_
   refine q1 5 (some 16) HT_ rfl (fun K hK => ?_)
   refine g_ Try.func37 #[.agg #[.slice Ao17 t426.length co17],.slice Ao25 t435.length co25] ?_
   with_reducible refine (sacristylaw01_Same.calls k _ _ t426 _ _ t435 true _ ?side1 ?side2 ?side3 ?side4 A6.out).mono ?_
   (case side1 => exact qCV HO428)
   (case side2 => exact qL HO428)
   (case side3 => exact qCR HO437)
   (case side4 => exact qLR HO437)
   rintro e w26 ⟨rfl,hb⟩
   refine ⟨_,rfl,?_⟩
   replace HO422:=qVb HO422 hb
   replace HO425:=qVb HO425 hb
   replace HO428:=qVb HO428 hb
   replace HO431:=qVb HO431 hb
   replace HO437:=qRb HO437 hb
   replace BK433:=qb BK433 hb
   replace BK434:=qb BK434 hb
   replace HB:=qs HB hb
   clear hb
   refine hK.out _ _ ⟨bc BK433,bc BK434⟩ (fun hHeld => ?_)
   clear hK K
   refine qO 16 ?_
   refine qP 6 17 HT_ ?_
   refine qP 7 18 HT_ ?_
   refine qT 8 19 HT_ HW_ hHeld ?_
   refine q1 9 (some 20) HT_ rfl (fun K hK => ?_)
   refine g_ Try.func56 #[.int .u64 1] ?_
   with_reducible refine (sacristyref01_Small.calls k 1 t439 _ A8.out).mono ?_
   rintro e w27 ⟨v440,rfl,ho0,hb⟩
   refine ⟨_,rfl,?_⟩
   replace HO422:=qVd HO422 ho0 hb
   replace HO425:=qVd HO425 ho0 hb
   replace HO428:=qVd HO428 ho0 hb
   replace HO431:=qVd HO431 ho0 hb
   have HO441:=Aside0.mk (Kd.R_lower (Kd.R_new' ho0 (Kd.R_lt (qRm HO437))) (below_size (qS HB)))
   replace HO437:=qRd HO437 ho0 hb
   replace BK433:=qb BK433 hb
   replace BK434:=qb BK434 hb
   replace HB:=qs HB hb
   clear hb ho0
   obtain ⟨Ao28,co28,eo28⟩:=Kd.R_slice HO441.out
   (first|subst eo28|(injection eo28 with f1_ f2_ f3_;have f4_:=f1_.symm;have f5_:=f3_.symm;clear f1_ f2_ f3_;subst f4_;subst f5_))
   refine hK.out _ _ ⟨bc BK433,bc BK434⟩ (fun hHeld => ?_)
   clear hK K
   refine qO 20 ?_
   refine q1 10 (some 21) HT_ rfl (fun K hK => ?_)
   refine g_ Try.func37 #[.agg #[.slice Ao20 t429.length co20],.slice Ao28 t439.length co28] ?_
   with_reducible refine (sacristylaw01_Same.calls k _ _ t429 _ _ t439 t442 _ ?side1 ?side2 ?side3 ?side4 A9.out).mono ?_
   (case side1 => exact qCV HO431)
   (case side2 => exact qL HO431)
   (case side3 => exact qCR HO441)
   (case side4 => exact qLR HO441)
   rintro e w29 ⟨rfl,hb⟩
   refine ⟨_,rfl,?_⟩
   replace HO422:=qVb HO422 hb
   replace HO425:=qVb HO425 hb
   replace HO428:=qVb HO428 hb
   replace HO431:=qVb HO431 hb
   replace HO437:=qRb HO437 hb
   replace HO441:=qRb HO441 hb
   replace BK433:=qb BK433 hb
   replace BK434:=qb BK434 hb
   replace HB:=qs HB hb
   clear hb
   refine hK.out _ _ ⟨bc BK433,bc BK434⟩ (fun hHeld => ?_)
   clear hK K
   refine qO 21 ?_
   refine qP 11 22 HT_ ?_
   refine qP 12 0 HT_ ?_
   refine qD HT_ ?_
   try go_wp2
   (first|go_ret|(refine ⟨_,results_tmp rfl _ _ _,?_⟩))
   exact ⟨by first|rfl|(simp [errW_none,errW_some] <;> rfl)|(simp [*,errW_none,errW_some] <;> rfl),qS HB⟩
  ·replace c7:=Bool.eq_false_iff.mpr c7
   subst c7
   rw [qFT] at H
   obtain rfl:=Option.some.inj H
   go_enter Try.func34,Try.ntmps34
   try go_wp2_with (first|((with_reducible refine gate_callee (f:=54) rfl ?_);refine gL (some 5) Try.func54 #[.int .u64 7] ?_;(with_reducible refine (nat_New.calls k 7 t420 _ A1.out).mono ?_);rintro e w30 ⟨v421,rfl,ho0,hb⟩;refine ⟨_,rfl,?_⟩;have HO422:=Aside0.mk (Kd.V_lower (Kd.V_mono (ok':=fun k_ => True) ho0 (fun k_ hk_ => trivial)) (below_size (qS HB)));replace HB:=qs HB hb;clear hb ho0)|((with_reducible refine gate_callee (f:=54) rfl ?_);refine gL (some 6) Try.func54 #[.int .u64 2] ?_;(with_reducible refine (nat_New.calls k 2 t423 _ A2.out).mono ?_);rintro e w31 ⟨v424,rfl,ho0,hb⟩;refine ⟨_,rfl,?_⟩;replace HO422:=qVb HO422 hb;have HO425:=Aside0.mk (Kd.V_lower (Kd.V_mono (ok':=fun k_ => True) ho0 (fun k_ hk_ => trivial)) (below_size (qS HB)));replace HB:=qs HB hb;clear hb ho0;obtain ⟨Ao32,co32,eo32⟩:=Kd.V_slice HO422.out;subst eo32;obtain ⟨Ao33,co33,eo33⟩:=Kd.V_slice HO425.out;subst eo33)|((with_reducible refine gate_callee (f:=53) rfl ?_);refine gL (some 7) Try.func53 #[.agg #[.slice Ao32 t420.length co32],.agg #[.slice Ao33 t423.length co33]] ?_;(with_reducible refine (nat_Nat_Div.calls k (fun k_ => True) _ _ t420 _ _ t423 t426 t429 t432 _ ?side1 ?side2 ?side3 A3.out).mono ?_);(case side1 => first|exact HO422.out|exact qVm HO422);(case side2 => exact qCV HO425);(case side3 => exact qL HO425);rintro e w34 ⟨v427,v430,rfl,ho0,ho1,hb⟩;refine ⟨_,rfl,?_⟩;replace HO422:=qVb HO422 hb;replace HO425:=qVb HO425 hb;have HO428:=Aside0.mk (Kd.V_lower (Kd.V_mono (ok':=fun k_ => True) ho0 (fun k_ hk_ => trivial)) (below_size (qS HB)));have HO431:=Aside0.mk (Kd.V_lower (Kd.V_mono (ok':=fun k_ => True) ho1 (fun k_ hk_ => trivial)) (below_size (qS HB)));replace HB:=qs HB hb;clear hb ho0 ho1)|((with_reducible refine gate_dst (N:=1) rfl ?_);refine qX #[.slice none 0 0] 38 ?_;intro gb433 hg w35 hbox hb;replace HO422:=qVe HO422 hb hg;replace HO425:=qVe HO425 hb hg;replace HO428:=qVe HO428 hb hg;replace HO431:=qVe HO431 hb hg;have BK433:=Aside0.mk hbox;have GE433:=qh hg HB;replace HB:=qs HB hb;clear hb hbox hg)|((with_reducible refine gate_dst (N:=2) rfl ?_);refine qX #[.slice none 0 0] 38 ?_;intro gb434 hg w36 hbox hb;replace HO422:=qVe HO422 hb hg;replace HO425:=qVe HO425 hb hg;replace HO428:=qVe HO428 hb hg;replace HO431:=qVe HO431 hb hg;have BK434:=Aside0.mk hbox;have GE434:=qh hg HB;replace HB:=qs HB hb;have NB433_434:=ql hg BK433;have NB434_433:=qg hg BK433;replace BK433:=qb BK433 hb;clear hb hbox hg;obtain ⟨Ao37,co37,eo37⟩:=Kd.V_slice HO428.out;subst eo37;have hnb38:=NB433_434.out;have hnc38:=NB434_433.out;have hcz39_0:=bc BK433;have hfz39_0:=bz BK433;obtain ⟨Ao40,co40,eo40⟩:=Kd.V_slice HO431.out;subst eo40;have hcz41_0:=bc BK434;have hfz41_0:=bz BK434))
   generalize hw : ((w36.setCell ⟨gb433,0,none⟩ (.slice Ao37 t426.length co37)).setCell ⟨gb434,0,none⟩ (.slice Ao40 t429.length co40)) = w42
   replace hw:=hw.symm
   replace HO422:=qVh hw HO422
   replace HO425:=qVh hw HO425
   replace HO428:=qVh hw HO428
   replace HO431:=qVh hw HO431
   replace BK433:=qBp hw BK433
   replace BK434:=qBp hw BK434
   replace HB:=qSh hw HB
   clear hw
   replace HO422:=qVw HO422
   replace HO425:=qVw HO425
   replace HO428:=qVw HO428
   replace HO431:=qVw HO431
   replace BK433:=qbd BK433
   replace BK434:=qbd BK434
   replace HB:=qsd HB
   refine start_ (n:=13) (S:=fun w' => w'.cell? ⟨gb433,0,none⟩ = some (.slice Ao37 t426.length co37)) (ds:=[]) #[false,false,false,false,false,false,false,false,false,false,false,false,false] (by kernel_rfl) rfl rfl (bc BK433) (fun hHeld => ?_);refine with_tabW sacristylaw01_lives.tab2 sacristylaw01_lives.bits2 (fun HT_ HW_ => ?_)
   generalize w42.drew = w43 at HO422 HO425 HO428 HO431 BK433 BK434 HB hHeld ⊢
   refine qP 0 11 HT_ ?_
   refine qP 1 12 HT_ ?_
   refine qP 2 13 HT_ ?_
   refine qT 3 14 HT_ HW_ hHeld ?_
   refine q1 4 (some 15) HT_ rfl (fun K hK => ?_)
   refine g_ Try.func56 #[.int .u64 3] ?_
   with_reducible refine (sacristyref01_Small.calls k 3 t435 _ A5.out).mono ?_
   rintro e w44 ⟨v436,rfl,ho0,hb⟩
   refine ⟨_,rfl,?_⟩
   replace HO422:=qVd HO422 ho0 hb
   replace HO425:=qVd HO425 ho0 hb
   replace HO428:=qVd HO428 ho0 hb
   replace HO431:=qVd HO431 ho0 hb
   have HO437:=Aside0.mk (Kd.R_lower ho0 (below_size (qS HB)))
   replace BK433:=qb BK433 hb
   replace BK434:=qb BK434 hb
   replace HB:=qs HB hb
   clear hb ho0
   obtain ⟨Ao45,co45,eo45⟩:=Kd.R_slice HO437.out
   (first|subst eo45|(injection eo45 with f1_ f2_ f3_;have f4_:=f1_.symm;have f5_:=f3_.symm;clear f1_ f2_ f3_;subst f4_;subst f5_))
   refine hK.out _ _ (bc BK433) (fun hHeld => ?_)
   clear hK K
   refine qO 15 ?_
   refine q1 5 (some 16) HT_ rfl (fun K hK => ?_)
   refine g_ Try.func37 #[.agg #[.slice Ao37 t426.length co37],.slice Ao45 t435.length co45] ?_
   with_reducible refine (sacristylaw01_Same.calls k _ _ t426 _ _ t435 false _ ?side1 ?side2 ?side3 ?side4 A6.out).mono ?_
   (case side1 => exact qCV HO428)
   (case side2 => exact qL HO428)
   (case side3 => exact qCR HO437)
   (case side4 => exact qLR HO437)
   rintro e w46 ⟨rfl,hb⟩
   refine ⟨_,rfl,?_⟩
   replace HO422:=qVb HO422 hb
   replace HO425:=qVb HO425 hb
   replace HO428:=qVb HO428 hb
   replace HO431:=qVb HO431 hb
   replace HO437:=qRb HO437 hb
   replace BK433:=qb BK433 hb
   replace BK434:=qb BK434 hb
   replace HB:=qs HB hb
   clear hb
   refine hK.out _ _ (bc BK433) (fun hHeld => ?_)
   clear hK K
   refine qO 16 ?_
   refine qP 6 17 HT_ ?_
   refine qP 7 18 HT_ ?_
   refine qU 8 19 HT_ ?_
   refine qU 9 20 HT_ ?_
   refine qU 10 21 HT_ ?_
   refine qP 11 22 HT_ ?_
   refine qP 12 0 HT_ ?_
   refine qD HT_ ?_
   try go_wp2
   (first|go_ret|(refine ⟨_,results_tmp rfl _ _ _,?_⟩))
   exact ⟨by first|rfl|(simp [errW_none,errW_some] <;> rfl)|(simp [*,errW_none,errW_some] <;> rfl),qS HB⟩
 ·rw [if_neg c4] at H
  have c4b0 : (t432 == 0) = false:=beq_eq_false_iff_ne.mpr c4
  have c4b1 : (t432 != 0) = true:=bne_iff_ne.mpr c4
  obtain rfl:=Option.some.inj H
  go_enter Try.func34,Try.ntmps34
  try go_wp2_with (first|((with_reducible refine gate_callee (f:=54) rfl ?_);refine gL (some 5) Try.func54 #[.int .u64 7] ?_;(with_reducible refine (nat_New.calls k 7 t420 _ A1.out).mono ?_);rintro e w47 ⟨v421,rfl,ho0,hb⟩;refine ⟨_,rfl,?_⟩;have HO422:=Aside0.mk (Kd.V_lower (Kd.V_mono (ok':=fun k_ => True) ho0 (fun k_ hk_ => trivial)) (below_size (qS HB)));replace HB:=qs HB hb;clear hb ho0)|((with_reducible refine gate_callee (f:=54) rfl ?_);refine gL (some 6) Try.func54 #[.int .u64 2] ?_;(with_reducible refine (nat_New.calls k 2 t423 _ A2.out).mono ?_);rintro e w48 ⟨v424,rfl,ho0,hb⟩;refine ⟨_,rfl,?_⟩;replace HO422:=qVb HO422 hb;have HO425:=Aside0.mk (Kd.V_lower (Kd.V_mono (ok':=fun k_ => True) ho0 (fun k_ hk_ => trivial)) (below_size (qS HB)));replace HB:=qs HB hb;clear hb ho0;obtain ⟨Ao49,co49,eo49⟩:=Kd.V_slice HO422.out;subst eo49;obtain ⟨Ao50,co50,eo50⟩:=Kd.V_slice HO425.out;subst eo50)|((with_reducible refine gate_callee (f:=53) rfl ?_);refine gL (some 7) Try.func53 #[.agg #[.slice Ao49 t420.length co49],.agg #[.slice Ao50 t423.length co50]] ?_;(with_reducible refine (nat_Nat_Div.calls k (fun k_ => True) _ _ t420 _ _ t423 t426 t429 t432 _ ?side1 ?side2 ?side3 A3.out).mono ?_);(case side1 => first|exact HO422.out|exact qVm HO422);(case side2 => exact qCV HO425);(case side3 => exact qL HO425);rintro e w51 ⟨v427,v430,rfl,ho0,ho1,hb⟩;refine ⟨_,rfl,?_⟩;replace HO422:=qVb HO422 hb;replace HO425:=qVb HO425 hb;have HO428:=Aside0.mk (Kd.V_lower (Kd.V_mono (ok':=fun k_ => True) ho0 (fun k_ hk_ => trivial)) (below_size (qS HB)));have HO431:=Aside0.mk (Kd.V_lower (Kd.V_mono (ok':=fun k_ => True) ho1 (fun k_ hk_ => trivial)) (below_size (qS HB)));replace HB:=qs HB hb;clear hb ho0 ho1)|((with_reducible refine gate_dst (N:=1) rfl ?_);refine qX #[.slice none 0 0] 38 ?_;intro gb433 hg w52 hbox hb;replace HO422:=qVe HO422 hb hg;replace HO425:=qVe HO425 hb hg;replace HO428:=qVe HO428 hb hg;replace HO431:=qVe HO431 hb hg;have BK433:=Aside0.mk hbox;have GE433:=qh hg HB;replace HB:=qs HB hb;clear hb hbox hg)|((with_reducible refine gate_dst (N:=2) rfl ?_);refine qX #[.slice none 0 0] 38 ?_;intro gb434 hg w53 hbox hb;replace HO422:=qVe HO422 hb hg;replace HO425:=qVe HO425 hb hg;replace HO428:=qVe HO428 hb hg;replace HO431:=qVe HO431 hb hg;have BK434:=Aside0.mk hbox;have GE434:=qh hg HB;replace HB:=qs HB hb;have NB433_434:=ql hg BK433;have NB434_433:=qg hg BK433;replace BK433:=qb BK433 hb;clear hb hbox hg;obtain ⟨Ao54,co54,eo54⟩:=Kd.V_slice HO428.out;subst eo54;have hnb55:=NB433_434.out;have hnc55:=NB434_433.out;have hcz56_0:=bc BK433;have hfz56_0:=bz BK433;obtain ⟨Ao57,co57,eo57⟩:=Kd.V_slice HO431.out;subst eo57;have hcz58_0:=bc BK434;have hfz58_0:=bz BK434))
  generalize hw : ((w53.setCell ⟨gb433,0,none⟩ (.slice Ao54 t426.length co54)).setCell ⟨gb434,0,none⟩ (.slice Ao57 t429.length co57)) = w59
  replace hw:=hw.symm
  replace HO422:=qVh hw HO422
  replace HO425:=qVh hw HO425
  replace HO428:=qVh hw HO428
  replace HO431:=qVh hw HO431
  replace BK433:=qBp hw BK433
  replace BK434:=qBp hw BK434
  replace HB:=qSh hw HB
  clear hw
  replace HO422:=qVw HO422
  replace HO425:=qVw HO425
  replace HO428:=qVw HO428
  replace HO431:=qVw HO431
  replace BK433:=qbd BK433
  replace BK434:=qbd BK434
  replace HB:=qsd HB
  refine start_ (n:=13) (S:=fun w' => True) (ds:=[]) #[false,false,false,false,false,false,false,false,false,false,false,false,false] (by kernel_rfl) rfl rfl trivial (fun hHeld => ?_);refine with_tabW sacristylaw01_lives.tab2 sacristylaw01_lives.bits2 (fun HT_ HW_ => ?_)
  generalize w59.drew = w60 at HO422 HO425 HO428 HO431 BK433 BK434 HB hHeld ⊢
  refine qP 0 11 HT_ ?_
  refine qP 1 12 HT_ ?_
  refine qP 2 13 HT_ ?_
  refine qU 3 14 HT_ ?_
  refine qU 4 15 HT_ ?_
  refine qU 5 16 HT_ ?_
  refine qP 6 17 HT_ ?_
  refine qP 7 18 HT_ ?_
  refine qU 8 19 HT_ ?_
  refine qU 9 20 HT_ ?_
  refine qU 10 21 HT_ ?_
  refine qP 11 22 HT_ ?_
  refine qP 12 0 HT_ ?_
  refine qD HT_ ?_
  try go_wp2
  (first|go_ret|(refine ⟨_,results_tmp rfl _ _ _,?_⟩))
  exact ⟨by first|rfl|(simp [errW_none,errW_some] <;> rfl)|(simp [*,errW_none,errW_some] <;> rfl),qS HB⟩
end Go.Proofs.Yteejcpbngnojkaa.P
end
section
namespace Go.Proofs.Yteejcpbngnojkaa.P
open Go.RowKit Go.Proofs.YteejcpbngnojkaaW.PrintWords Go.Proofs.YteejcpbngnojkaaW.PrintLast Go.Proofs.YteejcpbngnojkaaW.PrintMore
attribute [local go_sem] max2_int min2_int max_two min_two max_three min_three max_four min_four
set_option linter.unusedVariables false
set_option linter.unusedSimpArgs false
def nat_FromBytes.l0 : Nat → List Int → List Int → Int → Int → Option (List Int × Int)
 |0,_,_,_,_ => none
 |k + 1,x0,x4,x17,x18 => if x18 < x17 then (if 0 ≤ (wrap64 ((wrap64 ((x0.length : Int) - 1)) - x18)) then (if (wrap64 ((wrap64 ((x0.length : Int) - 1)) - x18)) < (x0.length : Int) then (if 0 ≤ (wrap64 (Int.tdiv x18 4)) then (if (wrap64 (Int.tdiv x18 4)) < (x4.length : Int) then (if 0 ≤ (wrap64 (8 * (Int.tmod x18 4))) then (nat_FromBytes.l0 k x0 (x4.set ((wrap64 (Int.tdiv x18 4)) : Int).toNat (Go.bits .or .u32 (rd x4 (wrap64 (Int.tdiv x18 4))) (shl .u32 ((rd x0 (wrap64 ((wrap64 ((x0.length : Int) - 1)) - x18))) % 4294967296) (wrap64 (8 * (Int.tmod x18 4)))))) x17 (wrap64 (x18 + 1))) else (none)) else (none)) else (none)) else (none)) else (none)) else ((nat_trim.f k x4).bind fun t450 => (some (t450,0)))
def nat_FromBytes.f (k : Nat) (l0 : List Int) : Option (List Int × Int):=if (l0.length : Int) > 128 then (some (([] : List Int),4)) else (if 0 ≤ (wrap64 (Int.tdiv (wrap64 ((l0.length : Int) + 3)) 4)) then (if (wrap64 (Int.tdiv (wrap64 ((l0.length : Int) + 3)) 4) : Int).toNat ≤ 70368744177664 then (nat_FromBytes.l0 k l0 (List.replicate (wrap64 (Int.tdiv (wrap64 ((l0.length : Int) + 3)) 4) : Int).toNat 0) (l0.length : Int) 0) else (none)) else (none))
theorem nat_FromBytes.mono_l : ∀ k,(∀ y0 y1 y2 y3,LeO (nat_FromBytes.l0 k y0 y1 y2 y3) (nat_FromBytes.l0 (k + 1) y0 y1 y2 y3))
 |0 => fun _ _ _ _ r h => by simp [nat_FromBytes.l0] at h
 |k + 1 => by
  have ih0:=nat_FromBytes.mono_l k
  ·intro y0 y1 y2 y3
   unfold nat_FromBytes.l0
   repeat' first
   |(with_reducible exact ih0 _ _ _ _)
   |(with_reducible exact nat_trim.mono _ _)
   |(with_reducible exact LeO.refl _)
   |(with_reducible exact LeO.none _)
   |(with_reducible refine LeO.ite ?_ ?_)
   |(with_reducible refine LeO.bind ?_ (fun _ => ?_))
   |exact ih0 _ _ _ _
   |exact nat_trim.mono _ _
   |exact LeO.none _
   |refine LeO.ite ?_ ?_
   |refine LeO.bind ?_ (fun _ => ?_)
theorem nat_FromBytes.mono : ∀ a0 k,LeO (nat_FromBytes.f k a0) (nat_FromBytes.f (k + 1) a0):=by
 intro a0 k
 have ih0:=nat_FromBytes.mono_l k
 unfold nat_FromBytes.f
 repeat' first
   |(with_reducible exact ih0 _ _ _ _)
   |(with_reducible exact nat_trim.mono _ _)
   |(with_reducible exact LeO.refl _)
   |(with_reducible exact LeO.none _)
   |(with_reducible refine LeO.ite ?_ ?_)
   |(with_reducible refine LeO.bind ?_ (fun _ => ?_))
   |exact ih0 _ _ _ _
   |exact nat_trim.mono _ _
   |exact LeO.none _
   |refine LeO.ite ?_ ?_
   |refine LeO.bind ?_ (fun _ => ?_)
def nat_FromBytes.T8 : Bool × List (List Nat × List Nat):=(true,[([],[]),([],[]),([1],[1]),([0,2],[0,2]),([3],[3]),([],[]),([5],[5]),([],[]),([7],[7]),([8],[8]),([6,9],[6,9]),([4,10],[4,10]),([0,2,0,1,2,3,4,5,6,7,8,9,10,11],[0,2]),([12,11,0,1,2,3,4,5,6,7,8,9,10,11],[11,12])])
def nat_FromBytes.B8 : List Nat:=[0,0,2,7,15,0,32,0,128,384,992,2047,4095,8191]
theorem nat_FromBytes.tab8 : rtab .any (opsOf Try.f35 8) = nat_FromBytes.T8:=by kernel_rfl
theorem nat_FromBytes.bits8 : waitsOk nat_FromBytes.T8.2 nat_FromBytes.B8 = true:=by kernel_rfl
set_option maxHeartbeats 8000000 in
set_option maxRecDepth 100000 in
theorem nat_FromBytes.calls (k : Nat) (A0 : Option Addr) (c0 : Nat) (l0 : List Int) (r1 : List Int) (r2 : Int) (w : World) (hr0 : Kd.C (Kd.int .u8) w A0 l0.length l0) (hc0 : l0.length ≤ c0) (h : nat_FromBytes.f k l0 = some (r1,r2)) :
  Calls Try.prog 35 #[.slice A0 l0.length c0] w fun e w' => ∃ v0_ : Value,e = .returned (.tuple #[.agg #[v0_],.int .i64 r2]) ∧ Kd.V (Kd.int .u32) 23 w' w.heap.size (fun k_ => (w.heap.size ≤ k_)) v0_ r1 ∧ Below w.heap.size w w':=by
 have hu38:=Try.underlying38
 have HR0:=Aside0.mk hr0
 have HC0:=Aside0.mk hc0
 clear hr0 hc0
 have HB:=Aside0.mk (Below.refl w.heap.size w)
 have H : (if (l0.length : Int) > 128 then (some (([] : List Int),4)) else (if 0 ≤ (wrap64 (Int.tdiv (wrap64 ((l0.length : Int) + 3)) 4)) then (if (wrap64 (Int.tdiv (wrap64 ((l0.length : Int) + 3)) 4) : Int).toNat ≤ 70368744177664 then (nat_FromBytes.l0 k l0 (List.replicate (wrap64 (Int.tdiv (wrap64 ((l0.length : Int) + 3)) 4) : Int).toNat 0) (l0.length : Int) 0) else (none)) else (none))) = some (r1,r2):=h
 clear h
 by_cases c2 : (l0.length : Int) > 128
 ·rw [if_pos c2] at H
  have c2b0 : decide (128 < (l0.length : Int)) = true:=decide_eq_true c2
  have c2b1 : decide (128 < l0.length) = true:=decide_eq_true (by omega)
  clear c2
  simp only [Option.some.injEq,Prod.mk.injEq] at H
  obtain ⟨rfl,rfl⟩:=H
  go_enter Try.func35,Try.ntmps35
  go_wp2_with (first|((with_reducible refine gate_dst (N:=2) rfl ?_);refine qX #[.slice none 0 0] 38 ?_;intro gb443 hg w3 hbox hb;have BK443:=Aside0.mk hbox;have GE443:=qh hg HB;replace HB:=qs HB hb;clear hb hbox hg;have hcz4_0:=bc BK443;have hfz4_0:=bz BK443))
  refine bodyPost_ret (results_ct rfl _ _ gb443 38 #[.slice none 0 0] (0,0) _ rfl (by (with_reducible repeat (first|refine blk_drewN ?_ _|refine blk_drew ?_|refine blk_alloc ?_ _));refine blk_put (cs:=#[.slice none 0 0]) ?_ 0 _ rfl;(with_reducible repeat (first|refine blk_drewN ?_ _|refine blk_drew ?_|refine blk_alloc ?_ _));exact BK443.out) Try.underlying38 rfl (by kernel_rfl)) rfl ?_
  exact ⟨_,by first|rfl|(simp [errW_none,errW_some] <;> rfl)|(simp [*,errW_none,errW_some] <;> rfl),Kd.V_nil _ _ _ _ _,qS HB⟩
 ·rw [if_neg c2] at H
  have c2b0 : decide (128 < (l0.length : Int)) = false:=decide_eq_false c2
  have c2b1 : decide (128 < l0.length) = false:=decide_eq_false (by omega)
  clear c2
  obtain ⟨ji5,hji5⟩ : ∃ j_ : Int,(wrap64 (Int.tdiv (wrap64 ((l0.length : Int) + 3)) 4)) = j_:=⟨_,rfl⟩
  (first|rw [hji5] at H|simp only [hji5] at H)
  have hji5w : (IntKind.i64.wrap (Int.tdiv (wrap64 ((l0.length : Int) + 3)) 4)) = ji5:=(i64_w _).trans hji5
  by_cases c6 : 0 ≤ (ji5)
  ·rw [if_pos c6] at H
   have c6b0:=eq_true c6
   have c6b1 : decide (0 ≤ (ji5)) = true:=decide_eq_true c6
   clear c6
   by_cases c7 : (ji5 : Int).toNat ≤ 70368744177664
   ·rw [if_pos c7] at H
    have c7b0:=eq_true c7
    have c7b1 : decide ((ji5 : Int).toNat ≤ 70368744177664) = true:=decide_eq_true c7
    clear c7
    obtain ⟨y444,hy444⟩ : ∃ y_ : List Int,y_ = (List.replicate (ji5 : Int).toNat 0):=⟨_,rfl⟩
    replace H : (nat_FromBytes.l0 k l0 y444 (l0.length : Int) 0) = some (r1,r2):=by first|(rw [hy444];with_reducible exact H)|(have H2_:=(Option.bind_some _ _).symm.trans H;rw [hy444];with_reducible exact H2_)|(have H2_:=(Option.bind_some _ _).symm.trans H;with_reducible exact H2_)|with_reducible exact H|(rw [hy444];exact H)|exact H
    have Ny444:=Aside0.mk hy444
    clear hy444
    have H':=Aside0.mk H
    clear H
    go_enter Try.func35,Try.ntmps35
    go_wp2_with (first|((with_reducible refine gate_dst (N:=2) rfl ?_);refine qX #[.slice none 0 0] 38 ?_;intro gb443 hg w8 hbox hb;have BK443:=Aside0.mk hbox;have GE443:=qh hg HB;replace HB:=qs HB hb;clear hb hbox hg)|((with_reducible refine gate_dst (N:=15) rfl ?_);refine Kd.R_make (Kd.int .u32) _ 23 rfl (N:=15) rfl 36 _ _ rfl ji5 rfl rfl Try.underlying36 (.int .u32 0) 4 info23 rfl (by decide) (by omega) 0 (ok:=fun _ => True) (okp:=fun _ => True) rfl (fun _ hk => hk) trivial (od) (Nat.le_trans (Nat.mul_le_mul_right _ (od : ji5.toNat ≤ 70368744177664)) (by omega)) (Below.refl _ _) (Nat.le_refl _) ?_;intro v445 w9 ho10 hb hg_ hnew_;clear hg_ hnew_;(first|rw [← Ny444.out] at ho10|(simp only [Int.reduceToNat] at ho10;rw [← Ny444.out] at ho10));have HO446:=Aside0.mk (Kd.R_lower (Kd.R_newM (M:=fun k_ => (w.heap.size ≤ k_)) ho10 (below_size (qS HB)) (fun k_ h_ => h_)) (below_size (qS HB)));replace BK443:=qb BK443 hb;replace HB:=qs HB hb;clear hb ho10))
    go_loopg [18] k (fun kq v18 w' => ∃ (x4_1 : List Int) (x18_1 : Int),v18 = .int .i64 x18_1 ∧ Aside0 (nat_FromBytes.l0 kq l0 x4_1 (l0.length : Int) x18_1 = some (r1,r2)) ∧ Aside0 (kq ≤ k) ∧ Aside0 (Kd.R (Kd.int .u32) 23 w' w.heap.size (fun k_ => (w.heap.size ≤ k_)) v445 x4_1) ∧ Aside0 (w'.heap[gb443]? = some (.cells #[(.slice none 0 0)] 38 (0,0))) ∧ Aside0 (Below w.heap.size w w'))
    case atStart => exact ⟨(y444),(0),(by first|rfl|(simp;done)|(simp [*];done)),H',⟨Nat.le_refl _⟩,⟨qRm HO446⟩,⟨qB BK443.out⟩,⟨qS HB⟩⟩
    case round =>
     clear H'
     try clear c2
     try clear c2b0
     try clear c2b1
     try clear p2
     try clear c3
     try clear c6
     try clear c6b0
     try clear c6b1
     try clear p6
     try clear c7
     try clear c7b0
     try clear c7b1
     try clear hcz4_0
     try clear hfz4_0
     obtain ⟨x4_1,x18_1,rfl,HA,HK1,HO_4,BK443,HB⟩:=hrel
     cases gk with
     |zero => exact absurd HA.out (by simp [nat_FromBytes.l0])
     |succ k1 =>
      have H:=HA.out
      clear HA
      simp only [nat_FromBytes.l0] at H
      by_cases c11 : x18_1 < (l0.length : Int)
      ·rw [if_pos c11] at H
       have c11b0 : decide (x18_1 < (l0.length : Int)) = true:=decide_eq_true c11
       clear c11
       obtain ⟨ji12,hji12⟩ : ∃ j_ : Int,(wrap64 ((wrap64 ((l0.length : Int) - 1)) - x18_1)) = j_:=⟨_,rfl⟩
       (first|rw [hji12] at H|simp only [hji12] at H)
       have hji12w : (IntKind.i64.wrap ((wrap64 ((l0.length : Int) - 1)) - x18_1)) = ji12:=(i64_w _).trans hji12
       by_cases c13 : 0 ≤ (ji12)
       ·rw [if_pos c13] at H
        have c13b0 : decide (0 ≤ (ji12)) = true:=decide_eq_true c13
        clear c13
        by_cases c14 : (ji12) < (l0.length : Int)
        ·rw [if_pos c14] at H
         have c14b0 : decide ((ji12) < (l0.length : Int)) = true:=decide_eq_true c14
         clear c14
         obtain ⟨ji15,hji15⟩ : ∃ j_ : Int,(wrap64 (Int.tdiv x18_1 4)) = j_:=⟨_,rfl⟩
         (first|rw [hji15] at H|simp only [hji15] at H)
         have hji15w : (IntKind.i64.wrap (Int.tdiv x18_1 4)) = ji15:=(i64_w _).trans hji15
         by_cases c16 : 0 ≤ (ji15)
         ·rw [if_pos c16] at H
          have c16b0 : decide (0 ≤ (ji15)) = true:=decide_eq_true c16
          clear c16
          by_cases c17 : (ji15) < (x4_1.length : Int)
          ·rw [if_pos c17] at H
           have c17b0 : decide ((ji15) < (x4_1.length : Int)) = true:=decide_eq_true c17
           clear c17
           obtain ⟨ji18,hji18⟩ : ∃ j_ : Int,(wrap64 (8 * (Int.tmod x18_1 4))) = j_:=⟨_,rfl⟩
           (first|rw [hji18] at H|simp only [hji18] at H)
           have hji18w : (IntKind.i64.wrap (8 * (Int.tmod x18_1 4))) = ji18:=(i64_w _).trans hji18
           by_cases c19 : 0 ≤ (ji18)
           ·rw [if_pos c19] at H
            have c19b0:=eq_true c19
            have c19b1 : decide (0 ≤ (ji18)) = true:=decide_eq_true c19
            clear c19
            obtain ⟨ji20,hji20⟩ : ∃ j_ : Int,(shl .u32 ((rd l0 (ji12)) % 4294967296) (ji18)) = j_:=⟨_,rfl⟩
            (first|rw [hji20] at H|simp only [hji20] at H)
            have hji20_ : (IntKind.u32.wrap (((rd l0 (ji12)) % 4294967296) * 2 ^ min (ji18).toNat 32)) = ji20:=hji20
            have hji20m : ((rd l0 (ji12)) % 4294967296) * 2 ^ min (ji18).toNat 32 % 4294967296 = ji20:=hji20_
            have hji20z : (ji18) ≤ 32 → (IntKind.u32.wrap (((rd l0 (ji12)) % 4294967296) * 2 ^ (ji18).toNat)) = ji20:=shl_small hji20
            obtain ⟨y449,hy449⟩ : ∃ y_ : List Int,y_ = (x4_1.set ((ji15) : Int).toNat (Go.bits .or .u32 (rd x4_1 (ji15)) (ji20))):=⟨_,rfl⟩
            replace H : (nat_FromBytes.l0 k1 l0 y449 (l0.length : Int) (wrap64 (x18_1 + 1))) = some (r1,r2):=by first|(rw [hy449];with_reducible exact H)|(have H2_:=(Option.bind_some _ _).symm.trans H;rw [hy449];with_reducible exact H2_)|(have H2_:=(Option.bind_some _ _).symm.trans H;with_reducible exact H2_)|with_reducible exact H|(rw [hy449];exact H)|exact H
            have Ny449:=Aside0.mk hy449
            clear hy449
            have H':=Aside0.mk H
            clear H
            have p447 : 0 ≤ ((ji12) : Int):=od
            have q447 : (ji12) < (l0.length : Int):=od
            obtain ⟨ad447,e447,hx447_0⟩:=Kd.at_int HR0.out (ji12) p447 q447
            cases e447
            replace hx447_0:=(HB.out.cell (World.block_lt_of_cell? w _ hx447_0)).trans hx447_0
            replace p447:=eq_true p447
            replace q447:=eq_true q447
            try go_wp2
            replace HO_4:=qRw HO_4
            replace BK443:=qbd BK443
            replace HB:=qsd HB
            obtain ⟨Ao23,co23,eo23⟩:=Kd.R_slice HO_4.out
            (first|subst eo23|(injection eo23 with f1_ f2_ f3_;have f4_:=f1_.symm;have f5_:=f3_.symm;clear f1_ f2_ f3_;subst f4_;subst f5_))
            have p448 : 0 ≤ ((ji15) : Int):=od
            have q448 : (ji15) < (x4_1.length : Int):=od
            obtain ⟨ad448,e448,hx448_0⟩:=Kd.at_int (Kd.R_reads' HO_4.out).2.2 (ji15) p448 q448
            cases e448
            replace p448:=eq_true p448
            replace q448:=eq_true q448
            have p21 : 0 ≤ ((ji15) : Int):=od
            have q21 : ((ji15) : Int) < ((x4_1.length : Int) : Int):=od
            obtain ⟨go21,co21,eo21,gb21,gl21,cl21,HG21⟩:=Kd.R_form HO_4.out (by omega)
            (first|cases eo21|(injection eo21 with ea_ en_ ec_;(first|subst ea_|(injection ea_ with ea_;subst ea_));subst ec_;clear en_))
            have GB21:=Aside0.mk gb21
            have GG21:=Aside0.mk HG21
            clear gb21 gl21 HG21
            (first|simp only [add_plain] at hx448_0|skip)
            obtain ⟨hx21_0,hf21_0⟩:=Kd.R_celln 0 HO_4.out ((ji15) : Int) p21 q21
            replace p21:=eq_true p21
            replace q21:=eq_true q21
            have HP24:=Kd.R_putn HO_4.out ((ji15) : Int) (Go.bits .or .u32 (rd x4_1 (ji15)) (ji20))
            rw [← Ny449.out] at HP24
            have HQ24:=Aside0.mk HP24
            clear HP24
            refine start_ (n:=14) (S:=fun w' => w'.cell? ⟨go21,((ji15)).toNat,none⟩ = some (.int .u32 (rd x4_1 (ji15)))) (ds:=[13]) #[false,false,false,false,false,false,false,false,false,false,false,false,false,false] (by kernel_rfl) rfl rfl (hx448_0) (fun hHeld => ?_);refine with_tabW nat_FromBytes.tab8 nat_FromBytes.bits8 (fun HT_ HW_ => ?_)
            generalize wr.drew = w22 at HO_4 BK443 HB GG21 HQ24 hf21_0 hx21_0 hx448_0 hHeld ⊢
            refine qP 0 29 HT_ ?_
            refine qP 1 30 HT_ ?_
            refine qP 2 31 HT_ ?_
            refine qP 3 32 HT_ ?_
            refine qP 5 34 HT_ ?_
            refine qP 6 35 HT_ ?_
            refine qP 7 36 HT_ ?_
            refine qP 8 37 HT_ ?_
            refine qP 9 38 HT_ ?_
            refine qP 10 39 HT_ ?_
            refine qT 4 33 HT_ HW_ hHeld ?_
            refine qP 11 40 HT_ ?_
            refine qP 12 41 HT_ ?_
            refine last_ (i:=13) (N:=none) #[true,true,true,true,true,true,true,true,true,true,true,true,true,true] rfl rfl (one_of HT_.out (by kernel_rfl)) (by decide) (fun K hK => ?_)
            refine skip_ (w1:=?_) (by rfl) rfl ?_ ?_
            rotate_left
            ·go_simp
             rfl
            refine hK.out _ _ ?_
            clear hK K
            refine qD HT_ ?_
            try go_wp2
            go_roundg k1
            case measure => have:=HK1.out;omega
            case rel => exact ⟨(y449),(wrap64 (x18_1 + 1)),(by first|rfl|(simp;done)|(simp [*];done)),H',⟨by have:=HK1.out;omega⟩,⟨by (with_reducible repeat (first|apply Kd.R_alloc|apply Kd.R_drewN|apply Kd.R_drew));(first|exact HQ24.out|(rw [hji20m];exact HQ24.out))⟩,⟨by (with_reducible repeat (first|refine blk_drewN ?_ _|refine blk_drew ?_|refine blk_alloc ?_ _));refine blk_far ?_ (by have h_:=Kd.R_ne HO_4.out BK443.out (by decide);intro e_;exact h_ (by rw [e_];rfl)) _;(with_reducible repeat (first|refine blk_drewN ?_ _|refine blk_drew ?_|refine blk_alloc ?_ _));exact BK443.out⟩,⟨qS HB⟩⟩
           ·rw [if_neg c19] at H
            exact absurd H (by simp)
          ·rw [if_neg c17] at H
           exact absurd H (by simp)
         ·rw [if_neg c16] at H
          exact absurd H (by simp)
        ·rw [if_neg c14] at H
         exact absurd H (by simp)
       ·rw [if_neg c13] at H
        exact absurd H (by simp)
      ·rw [if_neg c11] at H
       have c11b0 : decide (x18_1 < (l0.length : Int)) = false:=decide_eq_false c11
       clear c11
       obtain ⟨t450,A25,H⟩:=qH H
       simp only [Option.some.injEq,Prod.mk.injEq] at H
       obtain ⟨rfl,rfl⟩:=H
       obtain ⟨Ao26,co26,eo26⟩:=Kd.R_slice HO_4.out
       subst eo26
       go_wp2_with (first|((with_reducible refine gate_callee (f:=100) rfl ?_);refine gL (some 44) Try.func100 #[.slice Ao26 x4_1.length co26] ?_;(with_reducible refine (nat_trim.calls k1 (fun k_ => some k_ = (.slice Ao26 x4_1.length co26 : Value).ownBlock) _ _ x4_1 t450 _ ?side1 A25.out).mono ?_);(case side1 => exact Kd.R_V (Kd.R_tight rfl (Kd.R_types (HO_4.out) BK443.out (by decide))));rintro e w27 ⟨v451,rfl,ho0,hb⟩;refine ⟨_,rfl,?_⟩;have HO452:=Aside0.mk (Kd.V_lower (Kd.V_mono (ok':=fun k_ => (w.heap.size ≤ k_) ∧ k_ ≠ gb443) ho0 (fun k_ hk_ => ⟨Or.elim hk_ (fun hs_ => ((Kd.R_types (HO_4.out) BK443.out (by decide)).1 k_ hs_.symm).1) (fun hn_ => (Nat.le_trans (below_size (qS HB)) hn_)),Or.elim hk_ (fun hs_ => ((Kd.R_types (HO_4.out) BK443.out (by decide)).1 k_ hs_.symm).2) (fun hn_ => (Kd.freshB (qB BK443.out) k_ hn_))⟩)) (below_size (qS HB)));replace HO_4:=qRb HO_4 hb;replace BK443:=qb BK443 hb;replace HB:=qs HB hb;clear hb ho0;obtain ⟨Ao28,co28,eo28⟩:=Kd.V_slice HO452.out;subst eo28;have hcz29_0:=bc BK443;have hfz29_0:=bz BK443))
       refine bodyPost_ret (results_ct rfl _ _ gb443 38 #[.slice Ao28 t450.length co28] (0,0) _ rfl (by (with_reducible repeat (first|refine blk_drewN ?_ _|refine blk_drew ?_|refine blk_alloc ?_ _));refine blk_put (cs:=#[.slice none 0 0]) ?_ 0 _ rfl;(with_reducible repeat (first|refine blk_drewN ?_ _|refine blk_drew ?_|refine blk_alloc ?_ _));exact BK443.out) Try.underlying38 rfl (by kernel_rfl)) rfl ?_
       exact ⟨_,by first|rfl|(simp [errW_none,errW_some] <;> rfl)|(simp only [← hji5];first|rfl|(simp [errW_none,errW_some] <;> rfl))|(simp [*,errW_none,errW_some] <;> rfl),qVm HO452,qS HB⟩
   ·rw [if_neg c7] at H
    exact absurd H (by simp)
  ·rw [if_neg c6] at H
   exact absurd H (by simp)
end Go.Proofs.Yteejcpbngnojkaa.P
end
section
namespace Go.Proofs.Yteejcpbngnojkaa.P
open Go.RowKit Go.Proofs.YteejcpbngnojkaaW.PrintWords Go.Proofs.YteejcpbngnojkaaW.PrintLast Go.Proofs.YteejcpbngnojkaaW.PrintMore
attribute [local go_sem] max2_int min2_int max_two min_two max_three min_three max_four min_four
set_option linter.unusedVariables false
set_option linter.unusedSimpArgs false
def sacristylaw01_Num.f (k : Nat) (l0 : List Int) : Option (List Int):=if 0 ≤ (mn (l0.length : Int) 48) then (if (mn (l0.length : Int) 48) ≤ (l0.length : Int) then ((nat_FromBytes.f k (l0.take ((mn (l0.length : Int) 48) : Int).toNat)).bind fun bt506 => (some bt506.1)) else (none)) else (none)
theorem sacristylaw01_Num.mono : ∀ a0 k,LeO (sacristylaw01_Num.f k a0) (sacristylaw01_Num.f (k + 1) a0):=by
 intro a0 k
 unfold sacristylaw01_Num.f
 repeat' first
   |(with_reducible exact nat_FromBytes.mono _ _)
   |(with_reducible exact LeO.refl _)
   |(with_reducible exact LeO.none _)
   |(with_reducible refine LeO.ite ?_ ?_)
   |(with_reducible refine LeO.bind ?_ (fun _ => ?_))
   |exact nat_FromBytes.mono _ _
   |exact LeO.none _
   |refine LeO.ite ?_ ?_
   |refine LeO.bind ?_ (fun _ => ?_)
set_option maxHeartbeats 8000000 in
set_option maxRecDepth 100000 in
theorem sacristylaw01_Num.calls (k : Nat) (A0 : Option Addr) (c0 : Nat) (l0 : List Int) (r : List Int) (w : World) (hr0 : Kd.C (Kd.int .u8) w A0 l0.length l0) (hc0 : l0.length ≤ c0) (h : sacristylaw01_Num.f k l0 = some r) :
  Calls Try.prog 40 #[.slice A0 l0.length c0] w fun e w' => ∃ v0_ : Value,e = .returned (.agg #[v0_]) ∧ Kd.V (Kd.int .u32) 23 w' w.heap.size (fun k_ => (w.heap.size ≤ k_)) v0_ r ∧ Below w.heap.size w w':=by
 have hu38:=Try.underlying38
 have HR0:=Aside0.mk hr0
 have HC0:=Aside0.mk hc0
 clear hr0 hc0
 have HB:=Aside0.mk (Below.refl w.heap.size w)
 have H : (if 0 ≤ (mn (l0.length : Int) 48) then (if (mn (l0.length : Int) 48) ≤ (l0.length : Int) then ((nat_FromBytes.f k (l0.take ((mn (l0.length : Int) 48) : Int).toNat)).bind fun bt506 => (some bt506.1)) else (none)) else (none)) = some r:=h
 clear h
 obtain ⟨ji2,hji2⟩ : ∃ j_ : Int,(mn (l0.length : Int) 48) = j_:=⟨_,rfl⟩
 (first|rw [hji2] at H|simp only [hji2] at H)
 (try (have hji2h : ji2 ≤ 48:=by (rw [← hji2];unfold mn;(repeat' split) <;> omega)))
 (try (have hji2g : ji2 ≤ 64:=by omega))
 (try (have hji2l : 0 ≤ ji2:=by (rw [← hji2];unfold mn;(repeat' split) <;> omega)))
 (try (have hji2m : 0 ≤ ji2:=by omega))
 have hji2_ : (if 48 < (l0.length : Int) then 48 else (l0.length : Int)) = ji2:=hji2
 by_cases c3 : 0 ≤ (ji2)
 ·rw [if_pos c3] at H
  have c3b0:=eq_true c3
  have c3b1 : decide (0 ≤ (ji2)) = true:=decide_eq_true c3
  clear c3
  by_cases c4 : (ji2) ≤ (l0.length : Int)
  ·rw [if_pos c4] at H
   have c4b0:=eq_true c4
   have c4b1 : decide ((ji2) ≤ (l0.length : Int)) = true:=decide_eq_true c4
   clear c4
   obtain ⟨⟨t506,t509⟩,A5,H⟩:=qH H
   dsimp only at H
   obtain rfl:=Option.some.inj H
   go_enter Try.func40,Try.ntmps40
   go_wp2_with (first|((with_reducible refine gate_dst (N:=2) rfl ?_);refine qX #[.slice none 0 0] 38 ?_;intro gb504 hg w6 hbox hb;have BK504:=Aside0.mk hbox;have GE504:=qh hg HB;replace HB:=qs HB hb;clear hb hbox hg;obtain ⟨i07,hi07,_,hsz7,_⟩:=info_parts info5;obtain ⟨hcut7,hA7,hC7⟩:=print_take_of (P:=Try.prog) (Value.int .u8) 0 22 5 .i64 Try.underlying22 hi07 hsz7 A0 c0 l0 (ji2) (od) (od) HC0.out;have HR505:=Aside0.mk (Kd.C_of_reads (h1:=fun _ => rfl) (hA7 _ (Kd.reads_of_C HR0.out)));have HC505:=Aside0.mk hC7;clear hA7 hC7 hi07 hsz7)|((with_reducible refine gate_callee (f:=35) rfl ?_);refine goesL_ (some 11) rfl rfl Try.func35 (by kernel_rfl) rfl #[.slice A0 (l0.take ((ji2) : Int).toNat).length c0] rfl (by (try simp only [List.map_toArray,List.map_cons,List.map_nil]);first|done|(rw [show (l0.take ((ji2) : Int).toNat).length = (ji2).toNat from (by rw [List.length_take];have h_ : ((ji2) : Int) ≤ (l0.length : Int):=od;omega)] <;> rfl)|(simp only [hji2];rfl)|rfl|(simp only [List.length_drop,List.length_take];rfl)) ?_;(with_reducible refine (nat_FromBytes.calls k _ _ (l0.take ((ji2) : Int).toNat) t506 t509 _ ?side1 ?side2 A5.out).mono ?_);(case side1 => exact qCB HR505 HB);(case side2 => exact HC505.out);rintro e w8 ⟨v507,rfl,ho0,hb⟩;refine ⟨_,rfl,?_⟩;have HO508:=Aside0.mk (Kd.V_lower (Kd.V_mono (ok':=fun k_ => (w.heap.size ≤ k_) ∧ k_ ≠ gb504) ho0 (fun k_ hk_ => ⟨(Nat.le_trans (below_size (qS HB)) hk_),(Kd.freshB (qB BK504.out) k_ hk_)⟩)) (below_size (qS HB)));replace BK504:=qb BK504 hb;replace HB:=qs HB hb;clear hb ho0)|((with_reducible refine gate_dst (N:=3) rfl ?_);refine qX #[.slice none 0 0] 38 ?_;intro gb510 hg w9 hbox hb;replace HO508:=qVe HO508 hb hg;have BK510:=Aside0.mk hbox;have GE510:=qh hg HB;replace HB:=qs HB hb;have NB504_510:=ql hg BK504;have NB510_504:=qg hg BK504;replace BK504:=qb BK504 hb;clear hb hbox hg;obtain ⟨Ao10,co10,eo10⟩:=Kd.V_slice HO508.out;subst eo10;have hnb11:=NB510_504.out;have hnc11:=NB504_510.out;have hcz12_0:=bc BK510;have hfz12_0:=bz BK510;have hcz13_0:=bc BK504;have hfz13_0:=bz BK504))
   refine bodyPost_ret (results_cell_row rfl _ _ gb504 38 #[.slice Ao10 t506.length co10] (0,0) _ rfl (by (with_reducible repeat (first|refine blk_drewN ?_ _|refine blk_drew ?_|refine blk_alloc ?_ _));refine blk_put (cs:=#[.slice none 0 0]) ?_ 0 _ rfl;(with_reducible repeat (first|refine blk_drewN ?_ _|refine blk_drew ?_|refine blk_alloc ?_ _));refine blk_far ?_ NB504_510.out _;(with_reducible repeat (first|refine blk_drewN ?_ _|refine blk_drew ?_|refine blk_alloc ?_ _));exact BK504.out) Try.underlying38 rfl (by kernel_rfl)) rfl ?_
   exact ⟨_,by first|rfl|(simp [errW_none,errW_some] <;> rfl)|(simp only [← hji2];first|rfl|(simp [errW_none,errW_some] <;> rfl))|(simp [*,errW_none,errW_some] <;> rfl),qVm HO508,qS HB⟩
  ·rw [if_neg c4] at H
   exact absurd H (by simp)
 ·rw [if_neg c3] at H
  exact absurd H (by simp)
end Go.Proofs.Yteejcpbngnojkaa.P
end
section
namespace Go.Proofs.Yteejcpbngnojkaa.P
open Go.RowKit Go.Proofs.YteejcpbngnojkaaW.PrintWords Go.Proofs.YteejcpbngnojkaaW.PrintLast Go.Proofs.YteejcpbngnojkaaW.PrintMore
attribute [local go_sem] max2_int min2_int max_two min_two max_three min_three max_four min_four
set_option linter.unusedVariables false
set_option linter.unusedSimpArgs false
section
variable {ops : Array Oper} {rest : List Oper} {o : Oper} {a : Act} {Q : Exit → Act → World → Prop}
theorem make_op {P : Program} {W w1 : World} {v : Value} {x y : Operand} {t : TypeId} {m c : Value} (ho : o.op = .makeSlice t x y) (hx : a.eval x = m) (hy : a.eval y = c) (hr : (Instr.makeSlice t m c).run P W = .ok v w1) : (execOp a.eval o).run P W = .ok (.value v) w1 := by
  simp [execOp, ho, hx, hy, hr]
theorem make0 {W : World} (base : Nat) (hgd : o.guard = none) (x y : Operand) (ho : o.op = .makeSlice 36 x y) (c : Nat) (hx : a.eval x = .int .i64 0) (hy : a.eval y = .int .i64 (c : Int)) (hc : c ≤ 70368744177664) (hbase : base ≤ W.heap.size) {ok : Nat → Prop} (hok : ok W.heap.size)
    (h : ∀ g w1, Kd.R (Kd.int .u32) 23 w1 base ok (.slice (some ⟨g, 0, none⟩) 0 c) [] → Below W.heap.size W w1 → wpList Try.prog ops Q rest (a.put o.dst (.slice (some ⟨g, 0, none⟩) 0 c)) w1) : wpList Try.prog ops Q (o :: rest) a W := by
  have hr := make32 W 0 c (Nat.zero_le _) hc
  refine Kd.event_run hgd ?_ (h W.heap.size (W.alloc (.cells (nums .u32 (List.replicate c 0)).toArray 23)) ?_ (below_alloc (Below.refl _ _) _))
  · exact make_op ho hx hy hr
  · exact Kd.R_of_own ⟨by simp [encs], .inr ⟨W.heap.size, c, (nums .u32 (List.replicate c 0)).toArray, rfl, hbase, blk_new W _, Nat.zero_le _, by simp only [maxLen]; omega, by simp [nums], by simp [encs]⟩⟩ (fun k hk => by cases hk; exact hok)
end
def nat_Nat_Add.l0 : Nat → List Int → Int → List Int → Int → Int → List Int → Option (List Int)
  | 0, _, _, _, _, _, _ => none
  | k + 1, x5, x6, x24, x25, x26, x296000 => if x26 < x25 then (if 0 ≤ x26 then (if x26 < (x24.length : Int) then (if x26 < (x296000.length : Int) then (if x5.length < 35184372088832 then (nat_Nat_Add.l0 k (x5 ++ [(IntKind.u64.wrap ((IntKind.u64.wrap (x6 + (IntKind.u64.wrap (rd x24 x26)))) + (IntKind.u64.wrap (rd x296000 x26)))) % 4294967296]) ((IntKind.u64.wrap ((IntKind.u64.wrap (x6 + (IntKind.u64.wrap (rd x24 x26)))) + (IntKind.u64.wrap (rd x296000 x26)))) / 4294967296) x24 x25 (wrap64 (x26 + 1)) x296000) else (none)) else (if x5.length < 35184372088832 then (nat_Nat_Add.l0 k (x5 ++ [(IntKind.u64.wrap (x6 + (IntKind.u64.wrap (rd x24 x26)))) % 4294967296]) ((IntKind.u64.wrap (x6 + (IntKind.u64.wrap (rd x24 x26)))) / 4294967296) x24 x25 (wrap64 (x26 + 1)) x296000) else (none))) else (none)) else (none)) else (if x5.length < 35184372088832 then ((nat_trim.f k (x5 ++ [(x6) % 4294967296])).bind fun t311 => (some t311)) else (none))
set_option maxHeartbeats 8000000 in
set_option maxRecDepth 100000 in
theorem nat_Nat_Add.calls_s (sw : Bool) (k : Nat) (A0_0 : Option Addr) (c0_0 : Nat) (l0_0 : List Int) (A1_0 : Option Addr) (c1_0 : Nat) (l1_0 : List Int) (r : List Int) (w : World) (hr0_0 : Kd.C (Kd.int .u32) w A0_0 l0_0.length l0_0) (hc0_0 : l0_0.length ≤ c0_0) (hr1_0 : Kd.C (Kd.int .u32) w A1_0 l1_0.length l1_0) (hc1_0 : l1_0.length ≤ c1_0)
    (hb_ : l0_0.length < 1000) (hle_ : l1_0.length ≤ l0_0.length) (hs_ : sw = true → l1_0.length < l0_0.length) (h : nat_Nat_Add.l0 k [] 0 l0_0 (l0_0.length : Int) 0 l1_0 = some r) :
    Calls Try.prog 60 (bif sw then #[.agg #[.slice A1_0 l1_0.length c1_0], .agg #[.slice A0_0 l0_0.length c0_0]] else #[.agg #[.slice A0_0 l0_0.length c0_0], .agg #[.slice A1_0 l1_0.length c1_0]]) w fun e w' => ∃ v0_ : Value, e = .returned (.agg #[v0_]) ∧ Kd.V (Kd.int .u32) 23 w' w.heap.size (fun k_ => (w.heap.size ≤ k_)) v0_ r ∧ Below w.heap.size w w' := by
  have hu38 := Try.underlying38
  have HR0_0 := Aside0.mk hr0_0
  have HC0_0 := Aside0.mk hc0_0
  clear hr0_0 hc0_0
  have HR1_0 := Aside0.mk hr1_0
  have HC1_0 := Aside0.mk hc1_0
  clear hr1_0 hc1_0
  have HB := Aside0.mk (Below.refl w.heap.size w)
  have H' := Aside0.mk h
  clear h
  cases sw
  case' false =>
    clear hs_
    have t1_ : decide (l0_0.length < l1_0.length) = false := decide_eq_false (by omega)
    have t2_ : decide ((l0_0.length : Int) < (l1_0.length : Int)) = false := decide_eq_false (by omega)
    show Calls Try.prog 60 #[.agg #[.slice A0_0 l0_0.length c0_0], .agg #[.slice A1_0 l1_0.length c1_0]] w _
    go_enter Try.func60, Try.ntmps60
    go_wp2_with (first | ((with_reducible refine gate_dst (N := 2) rfl ?_); refine qX #[.slice A0_0 l0_0.length c0_0] 38 ?_; intro gb294 hg w4 hbox hb; have BK294 := Aside0.mk hbox; have GE294 := qh hg HB; replace HB := qs HB hb; clear hb hbox hg) | ((with_reducible refine gate_dst (N := 3) rfl ?_); refine qX #[.slice A1_0 l1_0.length c1_0] 38 ?_; intro gb295 hg w5 hbox hb; have BK295 := Aside0.mk hbox; have GE295 := qh hg HB; replace HB := qs HB hb; have NB294_295 := ql hg BK294; have NB295_294 := qg hg BK294; replace BK294 := qb BK294 hb; clear hb hbox hg) | ((with_reducible refine gate_dst (N := 4) rfl ?_); refine qX #[.slice none 0 0] 38 ?_; intro gb296 hg w6 hbox hb; have BK296 := Aside0.mk hbox; have GE296 := qh hg HB; replace HB := qs HB hb; have NB294_296 := ql hg BK294; have NB296_294 := qg hg BK294; replace BK294 := qb BK294 hb; have NB295_296 := ql hg BK295; have NB296_295 := qg hg BK295; replace BK295 := qb BK295 hb; clear hb hbox hg; have hnb7 := NB294_295.out; have hnc7 := NB295_294.out; have hnb8 := NB294_296.out; have hnc8 := NB296_294.out; have hcz9_0 := bc BK294; have hfz9_0 := bz BK294; have hnb10 := NB295_296.out; have hnc10 := NB296_295.out; have hcz11_0 := bc BK295; have hfz11_0 := bz BK295) | ((with_reducible refine gate_dst (N := 22) rfl ?_); refine make0 w.heap.size rfl _ _ rfl (l0_0.length + 1) rfl (by first | rfl | (simp; done)) (by omega) (below_size (qS HB)) (ok := fun k_ => w.heap.size ≤ k_) (below_size (qS HB)) ?_; intro g298 w12 ho13 hb; have HO299 := Aside0.mk ho13; replace BK294 := qb BK294 hb; replace BK295 := qb BK295 hb; replace BK296 := qb BK296 hb; replace HB := qs HB hb; clear hb ho13; have hcz14_0 := bc BK294; have hfz14_0 := bz BK294))
  case' true =>
    have t0_ : l1_0.length < l0_0.length := hs_ rfl
    clear hs_
    have t1_ : decide (l1_0.length < l0_0.length) = true := decide_eq_true t0_
    have t2_ : decide ((l1_0.length : Int) < (l0_0.length : Int)) = true := decide_eq_true (by omega)
    clear t0_
    show Calls Try.prog 60 #[.agg #[.slice A1_0 l1_0.length c1_0], .agg #[.slice A0_0 l0_0.length c0_0]] w _
    go_enter Try.func60, Try.ntmps60
    go_wp2_with (first | ((with_reducible refine gate_dst (N := 2) rfl ?_); refine qX #[.slice A1_0 l1_0.length c1_0] 38 ?_; intro gb294 hg w4 hbox hb; have BK294 := Aside0.mk hbox; have GE294 := qh hg HB; replace HB := qs HB hb; clear hb hbox hg) | ((with_reducible refine gate_dst (N := 3) rfl ?_); refine qX #[.slice A0_0 l0_0.length c0_0] 38 ?_; intro gb295 hg w5 hbox hb; have BK295 := Aside0.mk hbox; have GE295 := qh hg HB; replace HB := qs HB hb; have NB294_295 := ql hg BK294; have NB295_294 := qg hg BK294; replace BK294 := qb BK294 hb; clear hb hbox hg) | ((with_reducible refine gate_dst (N := 4) rfl ?_); refine qX #[.slice none 0 0] 38 ?_; intro gb296 hg w6 hbox hb; have BK296 := Aside0.mk hbox; have GE296 := qh hg HB; replace HB := qs HB hb; have NB294_296 := ql hg BK294; have NB296_294 := qg hg BK294; replace BK294 := qb BK294 hb; have NB295_296 := ql hg BK295; have NB296_295 := qg hg BK295; replace BK295 := qb BK295 hb; clear hb hbox hg; have hnb7 := NB294_295.out; have hnc7 := NB295_294.out; have hnb8 := NB294_296.out; have hnc8 := NB296_294.out; have hcz9_0 := bc BK294; have hfz9_0 := bz BK294; have hnb10 := NB295_296.out; have hnc10 := NB296_295.out; have hcz11_0 := bc BK295; have hfz11_0 := bz BK295) | ((with_reducible refine gate_store (t := 38) (p := 2) rfl ?_); refine qSt (w6.setCell ⟨gb294, 0, none⟩ (.slice A0_0 l0_0.length c0_0)) ?_; intro w7 hw; replace BK294 := qBp hw BK294; replace BK295 := qBh hw BK295; replace BK296 := qBh hw BK296; replace HB := qSh hw HB; clear hw; have hcz12_0 := bc BK295; have hfz12_0 := bz BK295; have hcz13_0 := bc BK294; have hfz13_0 := bz BK294) | ((with_reducible refine gate_store (t := 38) (p := 3) rfl ?_); refine qSt (w7.setCell ⟨gb295, 0, none⟩ (.slice A1_0 l1_0.length c1_0)) ?_; intro w8 hw; replace BK294 := qBh hw BK294; replace BK295 := qBp hw BK295; replace BK296 := qBh hw BK296; replace HB := qSh hw HB; clear hw; have hcz16_0 := bc BK294; have hfz16_0 := bz BK294) | ((with_reducible refine gate_dst (N := 22) rfl ?_); refine make0 w.heap.size rfl _ _ rfl (l0_0.length + 1) rfl (by first | rfl | (simp; done)) (by omega) (below_size (qS HB)) (ok := fun k_ => w.heap.size ≤ k_) (below_size (qS HB)) ?_; intro g298 w12 ho13 hb; have HO299 := Aside0.mk ho13; replace BK294 := qb BK294 hb; replace BK295 := qb BK295 hb; replace BK296 := qb BK296 hb; replace HB := qs HB hb; clear hb ho13; have hcz14_0 := bc BK294; have hfz14_0 := bz BK294))
  all_goals
    go_loopg [5, 6, 26] k (fun kq v5 v6 v26 w' => ∃ (x5_1 : List Int) (x6_1 : Int) (x26_1 : Int), v6 = .int .u64 x6_1 ∧ v26 = .int .i64 x26_1 ∧ Aside0 (nat_Nat_Add.l0 kq x5_1 x6_1 l0_0 (l0_0.length : Int) x26_1 l1_0 = some r) ∧ Aside0 (kq ≤ k) ∧ Aside0 (Kd.R (Kd.int .u32) 23 w' w.heap.size (fun k_ => (w.heap.size ≤ k_)) v5 x5_1) ∧ Aside0 (w'.heap[gb294]? = some (.cells #[(.slice A0_0 l0_0.length c0_0)] 38 (0, 0))) ∧ Aside0 (w'.heap[gb295]? = some (.cells #[(.slice A1_0 l1_0.length c1_0)] 38 (0, 0))) ∧ Aside0 (w'.heap[gb296]? = some (.cells #[(.slice none 0 0)] 38 (0, 0))) ∧ Aside0 (Below w.heap.size w w'))
    case atStart => exact ⟨([] : List Int), (0), (0), (by first | rfl | (simp; done) | (simp [*]; done)), (by first | rfl | (simp; done) | (simp [*]; done)), H', ⟨Nat.le_refl _⟩, ⟨qRm HO299⟩, ⟨qB BK294.out⟩, ⟨qB BK295.out⟩, ⟨qB BK296.out⟩, ⟨qS HB⟩⟩
    case round =>
      clear H'
      try clear c1
      try clear p2
      try clear c3
      try clear c3b0
      try clear c3b1
      try clear c6
      try clear c7
      try clear c8
      try clear c10
      try clear hcz11_0
      try clear hcz14_0
      try clear hcz9_0
      try clear hfz11_0
      try clear hfz14_0
      try clear hfz9_0
      obtain ⟨x5_1, x6_1, x26_1, rfl, rfl, HA, HK1, HO_5, BK294, BK295, BK296, HB⟩ := hrel
      cases gk with
      | zero => exact absurd HA.out (by simp [nat_Nat_Add.l0])
      | succ k1 =>
        have H := HA.out
        clear HA
        simp only [nat_Nat_Add.l0] at H
        by_cases c15 : x26_1 < (l0_0.length : Int)
        · rw [if_pos c15] at H
          have c15b0 : decide (x26_1 < (l0_0.length : Int)) = true := decide_eq_true c15
          clear c15
          by_cases c16 : 0 ≤ x26_1
          · rw [if_pos c16] at H
            have c16b0 : decide (0 ≤ x26_1) = true := decide_eq_true c16
            clear c16
            by_cases c17 : x26_1 < (l0_0.length : Int)
            · rw [if_pos c17] at H
              have c17b0 : decide (x26_1 < (l0_0.length : Int)) = true := decide_eq_true c17
              clear c17
              by_cases c18 : x26_1 < (l1_0.length : Int)
              · rw [if_pos c18] at H
                have c18b0 : decide (x26_1 < (l1_0.length : Int)) = true := decide_eq_true c18
                clear c18
                by_cases c19 : x5_1.length < 35184372088832
                · rw [if_pos c19] at H
                  have LMc19 := Aside0.mk c19
                  clear c19
                  obtain ⟨y302, hy302⟩ : ∃ y_ : List Int, y_ = (x5_1 ++ [(IntKind.u64.wrap ((IntKind.u64.wrap (x6_1 + (IntKind.u64.wrap (rd l0_0 x26_1)))) + (IntKind.u64.wrap (rd l1_0 x26_1)))) % 4294967296]) := ⟨_, rfl⟩
                  replace H : (nat_Nat_Add.l0 k1 y302 ((IntKind.u64.wrap ((IntKind.u64.wrap (x6_1 + (IntKind.u64.wrap (rd l0_0 x26_1)))) + (IntKind.u64.wrap (rd l1_0 x26_1)))) / 4294967296) l0_0 (l0_0.length : Int) (wrap64 (x26_1 + 1)) l1_0) = some r := by first | (rw [hy302]; with_reducible exact H) | (have H2_ := (Option.bind_some _ _).symm.trans H; rw [hy302]; with_reducible exact H2_) | (have H2_ := (Option.bind_some _ _).symm.trans H; with_reducible exact H2_) | with_reducible exact H | (rw [hy302]; exact H) | exact H
                  have Ny302 := Aside0.mk hy302
                  clear hy302
                  have H' := Aside0.mk H
                  clear H
                  have p300 : 0 ≤ (x26_1 : Int) := od
                  have q300 : x26_1 < (l0_0.length : Int) := od
                  obtain ⟨ad300, e300, hx300_0⟩ := Kd.at_int HR0_0.out x26_1 p300 q300
                  cases e300
                  replace hx300_0 := (HB.out.cell (World.block_lt_of_cell? w _ hx300_0)).trans hx300_0
                  replace p300 := eq_true p300
                  replace q300 := eq_true q300
                  have hnb20 := NB295_294.out
                  have hnc20 := NB294_295.out
                  have hnb21 := NB295_296.out
                  have hnc21 := NB296_295.out
                  have hcz22_0 : wr.cell? ⟨gb295, 0, none⟩ = some (.slice A1_0 l1_0.length c1_0) := bc BK295
                  have hfz22_0 := bz BK295
                  have p301 : 0 ≤ (x26_1 : Int) := od
                  have q301 : x26_1 < (l1_0.length : Int) := od
                  obtain ⟨ad301, e301, hx301_0⟩ := Kd.at_int HR1_0.out x26_1 p301 q301
                  cases e301
                  replace hx301_0 := (HB.out.cell (World.block_lt_of_cell? w _ hx301_0)).trans hx301_0
                  replace p301 := eq_true p301
                  replace q301 := eq_true q301
                  go_wp2_with (first | ((with_reducible refine gate_builtin (b := .append) (xs := #[.tmp 48, .tmp 51]) rfl ?_); at_builtin; refine Kd.R_append (Kd.int .u32) (w0 := w) w.heap.size rfl (.tmp 48) (.tmp 51) 36 23 (.int .u32 0) 4 rfl Try.underlying36 info23 rfl (by decide) (by omega) u5 x5_1 ((IntKind.u64.wrap ((IntKind.u64.wrap (x6_1 + (IntKind.u64.wrap (rd l0_0 x26_1)))) + (IntKind.u64.wrap (rd l1_0 x26_1)))) % 4294967296) [.int .u32 ((IntKind.u64.wrap ((IntKind.u64.wrap (x6_1 + (IntKind.u64.wrap (rd l0_0 x26_1)))) + (IntKind.u64.wrap (rd l1_0 x26_1)))) % 4294967296)] (fun k_ => (w.heap.size ≤ k_)) (fun _ => False) rfl rfl ?aP (fun _ hk => hk.elim) ?aF ?aO ?aB ?aS ?aL ?_; (case aP => exact rfl); (case aB => exact (qS HB)); (case aF => exact (fun k_ hk => (Nat.le_trans (below_size (qS HB)) hk))); (case aO => exact (qRm HO_5)); (case aS => exact (below_size (qS HB))); (case aL => have := LMc19.out; omega); intro v303 w23 ho hb hg hat; rw [← Ny302.out] at ho; replace BK294 := Aside0.mk (blk_grown (g := gb294) (o := .cells #[.slice (some ad300) l0_0.length c0_0] 38 (0, 0)) (qB BK294.out) hg (Kd.R_ne HO_5.out BK294.out (by decide))); replace BK295 := Aside0.mk (blk_grown (g := gb295) (o := .cells #[.slice (some ad301) l1_0.length c1_0] 38 (0, 0)) (qB BK295.out) hg (Kd.R_ne HO_5.out BK295.out (by decide))); replace BK296 := Aside0.mk (blk_grown (g := gb296) (o := .cells #[.slice none 0 0] 38 (0, 0)) (qB BK296.out) hg (Kd.R_ne HO_5.out BK296.out (by decide))); replace HB := Aside0.mk (hb); have HO304 := Aside0.mk (ho); (try clear HO_5); clear ho hb hg hat))
                  go_roundg k1
                  case measure => have := HK1.out; omega
                  case rel => exact ⟨(y302), ((IntKind.u64.wrap ((IntKind.u64.wrap (x6_1 + (IntKind.u64.wrap (rd l0_0 x26_1)))) + (IntKind.u64.wrap (rd l1_0 x26_1)))) / 4294967296), (wrap64 (x26_1 + 1)), (by first | rfl | (simp; done) | (simp [*]; done)), (by first | rfl | (simp; done) | (simp [*]; done)), H', ⟨by have := HK1.out; omega⟩, ⟨qRm HO304⟩, ⟨qB BK294.out⟩, ⟨qB BK295.out⟩, ⟨qB BK296.out⟩, ⟨qS HB⟩⟩
                · rw [if_neg c19] at H
                  exact absurd H (by simp)
              · rw [if_neg c18] at H
                have c18b0 : decide (x26_1 < (l1_0.length : Int)) = false := decide_eq_false c18
                clear c18
                by_cases c24 : x5_1.length < 35184372088832
                · rw [if_pos c24] at H
                  have LMc24 := Aside0.mk c24
                  clear c24
                  obtain ⟨y305, hy305⟩ : ∃ y_ : List Int, y_ = (x5_1 ++ [(IntKind.u64.wrap (x6_1 + (IntKind.u64.wrap (rd l0_0 x26_1)))) % 4294967296]) := ⟨_, rfl⟩
                  replace H : (nat_Nat_Add.l0 k1 y305 ((IntKind.u64.wrap (x6_1 + (IntKind.u64.wrap (rd l0_0 x26_1)))) / 4294967296) l0_0 (l0_0.length : Int) (wrap64 (x26_1 + 1)) l1_0) = some r := by first | (rw [hy305]; with_reducible exact H) | (have H2_ := (Option.bind_some _ _).symm.trans H; rw [hy305]; with_reducible exact H2_) | (have H2_ := (Option.bind_some _ _).symm.trans H; with_reducible exact H2_) | with_reducible exact H | (rw [hy305]; exact H) | exact H
                  have Ny305 := Aside0.mk hy305
                  clear hy305
                  have H' := Aside0.mk H
                  clear H
                  have p300 : 0 ≤ (x26_1 : Int) := od
                  have q300 : x26_1 < (l0_0.length : Int) := od
                  obtain ⟨ad300, e300, hx300_0⟩ := Kd.at_int HR0_0.out x26_1 p300 q300
                  cases e300
                  replace hx300_0 := (HB.out.cell (World.block_lt_of_cell? w _ hx300_0)).trans hx300_0
                  replace p300 := eq_true p300
                  replace q300 := eq_true q300
                  have hnb25 := NB295_294.out
                  have hnc25 := NB294_295.out
                  have hnb26 := NB295_296.out
                  have hnc26 := NB296_295.out
                  have hcz27_0 : wr.cell? ⟨gb295, 0, none⟩ = some (.slice A1_0 l1_0.length c1_0) := bc BK295
                  have hfz27_0 := bz BK295
                  go_wp2_with (first | ((with_reducible refine gate_builtin (b := .append) (xs := #[.tmp 48, .tmp 51]) rfl ?_); at_builtin; refine Kd.R_append (Kd.int .u32) (w0 := w) w.heap.size rfl (.tmp 48) (.tmp 51) 36 23 (.int .u32 0) 4 rfl Try.underlying36 info23 rfl (by decide) (by omega) u5 x5_1 ((IntKind.u64.wrap (x6_1 + (IntKind.u64.wrap (rd l0_0 x26_1)))) % 4294967296) [.int .u32 ((IntKind.u64.wrap (x6_1 + (IntKind.u64.wrap (rd l0_0 x26_1)))) % 4294967296)] (fun k_ => (w.heap.size ≤ k_)) (fun _ => False) rfl rfl ?aP (fun _ hk => hk.elim) ?aF ?aO ?aB ?aS ?aL ?_; (case aP => exact rfl); (case aB => exact (qS HB)); (case aF => exact (fun k_ hk => (Nat.le_trans (below_size (qS HB)) hk))); (case aO => exact (qRm HO_5)); (case aS => exact (below_size (qS HB))); (case aL => have := LMc24.out; omega); intro v306 w28 ho hb hg hat; rw [← Ny305.out] at ho; replace BK294 := Aside0.mk (blk_grown (g := gb294) (o := .cells #[.slice (some ad300) l0_0.length c0_0] 38 (0, 0)) (qB BK294.out) hg (Kd.R_ne HO_5.out BK294.out (by decide))); replace BK295 := Aside0.mk (blk_grown (g := gb295) (o := .cells #[.slice A1_0 l1_0.length c1_0] 38 (0, 0)) (qB BK295.out) hg (Kd.R_ne HO_5.out BK295.out (by decide))); replace BK296 := Aside0.mk (blk_grown (g := gb296) (o := .cells #[.slice none 0 0] 38 (0, 0)) (qB BK296.out) hg (Kd.R_ne HO_5.out BK296.out (by decide))); replace HB := Aside0.mk (hb); have HO307 := Aside0.mk (ho); (try clear HO_5); clear ho hb hg hat))
                  go_roundg k1
                  case measure => have := HK1.out; omega
                  case rel => exact ⟨(y305), ((IntKind.u64.wrap (x6_1 + (IntKind.u64.wrap (rd l0_0 x26_1)))) / 4294967296), (wrap64 (x26_1 + 1)), (by first | rfl | (simp; done) | (simp [*]; done)), (by first | rfl | (simp; done) | (simp [*]; done)), H', ⟨by have := HK1.out; omega⟩, ⟨qRm HO307⟩, ⟨qB BK294.out⟩, ⟨qB BK295.out⟩, ⟨qB BK296.out⟩, ⟨qS HB⟩⟩
                · rw [if_neg c24] at H
                  exact absurd H (by simp)
            · rw [if_neg c17] at H
              exact absurd H (by simp)
          · rw [if_neg c16] at H
            exact absurd H (by simp)
        · rw [if_neg c15] at H
          have c15b0 : decide (x26_1 < (l0_0.length : Int)) = false := decide_eq_false c15
          clear c15
          by_cases c29 : x5_1.length < 35184372088832
          · rw [if_pos c29] at H
            have LMc29 := Aside0.mk c29
            clear c29
            obtain ⟨y308, hy308⟩ : ∃ y_ : List Int, y_ = (x5_1 ++ [(x6_1) % 4294967296]) := ⟨_, rfl⟩
            replace H : ((nat_trim.f k1 y308).bind fun t311 => (some t311)) = some r := by first | (rw [hy308]; with_reducible exact H) | (have H2_ := (Option.bind_some _ _).symm.trans H; rw [hy308]; with_reducible exact H2_) | (have H2_ := (Option.bind_some _ _).symm.trans H; with_reducible exact H2_) | with_reducible exact H | (rw [hy308]; exact H) | exact H
            have Ny308 := Aside0.mk hy308
            clear hy308
            obtain ⟨t311, A30, H⟩ := qH H
            obtain rfl := Option.some.inj H
            go_wp2_with (first | ((with_reducible refine gate_builtin (b := .append) (xs := #[.tmp 56, .tmp 59]) rfl ?_); at_builtin; refine Kd.R_append (Kd.int .u32) (w0 := w) w.heap.size rfl (.tmp 56) (.tmp 59) 36 23 (.int .u32 0) 4 rfl Try.underlying36 info23 rfl (by decide) (by omega) u5 x5_1 ((x6_1) % 4294967296) [.int .u32 ((x6_1) % 4294967296)] (fun k_ => (w.heap.size ≤ k_)) (fun _ => False) rfl rfl ?aP (fun _ hk => hk.elim) ?aF ?aO ?aB ?aS ?aL ?_; (case aP => exact rfl); (case aB => exact (qS HB)); (case aF => exact (fun k_ hk => (Nat.le_trans (below_size (qS HB)) hk))); (case aO => exact (qRm HO_5)); (case aS => exact (below_size (qS HB))); (case aL => have := LMc29.out; omega); intro v309 w31 ho hb hg hat; rw [← Ny308.out] at ho; replace BK294 := Aside0.mk (blk_grown (g := gb294) (o := .cells #[.slice A0_0 l0_0.length c0_0] 38 (0, 0)) (qB BK294.out) hg (Kd.R_ne HO_5.out BK294.out (by decide))); replace BK295 := Aside0.mk (blk_grown (g := gb295) (o := .cells #[.slice A1_0 l1_0.length c1_0] 38 (0, 0)) (qB BK295.out) hg (Kd.R_ne HO_5.out BK295.out (by decide))); replace BK296 := Aside0.mk (blk_grown (g := gb296) (o := .cells #[.slice none 0 0] 38 (0, 0)) (qB BK296.out) hg (Kd.R_ne HO_5.out BK296.out (by decide))); replace HB := Aside0.mk (hb); have HO310 := Aside0.mk (ho); (try clear HO_5); clear ho hb hg hat; obtain ⟨Ao32, co32, eo32⟩ := Kd.R_slice HO310.out; subst eo32) | ((with_reducible refine gate_callee (f := 100) rfl ?_); refine gL (some 61) Try.func100 #[.slice Ao32 y308.length co32] ?_; (with_reducible refine (nat_trim.calls k1 (fun k_ => some k_ = (.slice Ao32 y308.length co32 : Value).ownBlock) _ _ y308 t311 _ ?side1 A30.out).mono ?_); (case side1 => exact Kd.R_V (Kd.R_tight rfl (Kd.R_types (Kd.R_types (Kd.R_types (HO310.out) BK294.out (by decide)) BK295.out (by decide)) BK296.out (by decide)))); rintro e w33 ⟨v312, rfl, ho0, hb⟩; refine ⟨_, rfl, ?_⟩; have HO313 := Aside0.mk (Kd.V_lower (Kd.V_mono (ok' := fun k_ => (w.heap.size ≤ k_) ∧ k_ ≠ gb294 ∧ k_ ≠ gb295 ∧ k_ ≠ gb296) ho0 (fun k_ hk_ => ⟨Or.elim hk_ (fun hs_ => ((Kd.R_types (Kd.R_types (Kd.R_types (HO310.out) BK294.out (by decide)) BK295.out (by decide)) BK296.out (by decide)).1 k_ hs_.symm).1.1.1) (fun hn_ => (Nat.le_trans (below_size (qS HB)) hn_)), Or.elim hk_ (fun hs_ => ((Kd.R_types (Kd.R_types (Kd.R_types (HO310.out) BK294.out (by decide)) BK295.out (by decide)) BK296.out (by decide)).1 k_ hs_.symm).1.1.2) (fun hn_ => (Kd.freshB (qB BK294.out) k_ hn_)), Or.elim hk_ (fun hs_ => ((Kd.R_types (Kd.R_types (Kd.R_types (HO310.out) BK294.out (by decide)) BK295.out (by decide)) BK296.out (by decide)).1 k_ hs_.symm).1.2) (fun hn_ => (Kd.freshB (qB BK295.out) k_ hn_)), Or.elim hk_ (fun hs_ => ((Kd.R_types (Kd.R_types (Kd.R_types (HO310.out) BK294.out (by decide)) BK295.out (by decide)) BK296.out (by decide)).1 k_ hs_.symm).2) (fun hn_ => (Kd.freshB (qB BK296.out) k_ hn_))⟩)) (below_size (qS HB))); replace HO310 := qRb HO310 hb; replace BK294 := qb BK294 hb; replace BK295 := qb BK295 hb; replace BK296 := qb BK296 hb; replace HB := qs HB hb; clear hb ho0; obtain ⟨Ao34, co34, eo34⟩ := Kd.V_slice HO313.out; subst eo34; have hnb35 := NB296_294.out; have hnc35 := NB294_296.out; have hnb36 := NB296_295.out; have hnc36 := NB295_296.out; have hcz37_0 := bc BK296; have hfz37_0 := bz BK296))
            refine bodyPost_ret (results_cell_row rfl _ _ gb296 38 #[.slice Ao34 t311.length co34] (0, 0) _ rfl (by (with_reducible repeat (first | refine blk_drewN ?_ _ | refine blk_drew ?_ | refine blk_alloc ?_ _)); refine blk_put (cs := #[.slice none 0 0]) ?_ 0 _ rfl; (with_reducible repeat (first | refine blk_drewN ?_ _ | refine blk_drew ?_ | refine blk_alloc ?_ _)); exact BK296.out) Try.underlying38 rfl (by kernel_rfl)) rfl ?_
            exact ⟨_, by first | rfl | (simp [errW_none, errW_some] <;> rfl) | (simp [*, errW_none, errW_some] <;> rfl), qVm HO313, qS HB⟩
          · rw [if_neg c29] at H
            exact absurd H (by simp)
end Go.Proofs.Yteejcpbngnojkaa.P
end
section
namespace Go.Proofs.Yteejcpbngnojkaa.P
open Go.RowKit Go.Proofs.YteejcpbngnojkaaW.PrintWords Go.Proofs.YteejcpbngnojkaaW.PrintLast Go.Proofs.YteejcpbngnojkaaW.PrintMore
open Go.Proofs.Yteejcpbngnojkaa.Num
set_option linter.unusedVariables false
theorem valW_snocA (l : List Int) (j : Nat) : valW (l.take (j + 1)) = valW (l.take j) + pw j * (gw l j).toNat := by
  by_cases h : j < l.length
  · exact valW_snoc h
  · rw [List.take_of_length_le (by omega), List.take_of_length_le (by omega), gw_out (by omega)]; simp
theorem add_eq {A B O P x y c s : Nat} (h : O + P * c = A + B) (he : s = c + x + y) : O + P * (s % 4294967296) + P * 4294967296 * (s / 4294967296) = A + P * x + (B + P * y) := by
  have h1 := Nat.mod_add_div s 4294967296
  have h2 : P * (s % 4294967296) + P * 4294967296 * (s / 4294967296) = P * s := by rw [Nat.mul_assoc, ← Nat.mul_add, h1]
  have h3 : P * s = P * c + P * x + P * y := by rw [he, Nat.mul_add, Nat.mul_add]
  omega
theorem add_w (x y c : Nat) (hx : x < 4294967296) (hy : y < 4294967296) (hc : c ≤ 1) : IntKind.u64.wrap (x : Int) = (x : Int) ∧ IntKind.u64.wrap (y : Int) = (y : Int) ∧ IntKind.u64.wrap ((c : Int) + (x : Int)) = ((c + x : Nat) : Int) ∧ IntKind.u64.wrap (((c + x : Nat) : Int) + (y : Int)) = ((c + x + y : Nat) : Int) := by
  refine ⟨wu64 (by omega) (by omega), wu64 (by omega) (by omega), ?_, ?_⟩
  · rw [← Int.natCast_add]; exact wu64 (by omega) (by omega)
  · rw [← Int.natCast_add]; exact wu64 (by omega) (by omega)
theorem add_round (l m out : List Int) (i c x y : Nat) (hx : gw l i = (x : Int)) (hy : gw m i = (y : Int)) (hx4 : x < 4294967296) (hy4 : y < 4294967296) (hc : c ≤ 1) (hi : i < l.length) (hll : l.length < 1000) (hol : out.length = i) (k : Nat) :
    nat_Nat_Add.l0 (k + 1) out (c : Int) l (l.length : Int) (i : Int) m = nat_Nat_Add.l0 k (out ++ [(((c + x + y) % 4294967296 : Nat) : Int)]) (((c + x + y) / 4294967296 : Nat) : Int) l (l.length : Int) ((i + 1 : Nat) : Int) m := by
  have c1 : (i : Int) < (l.length : Int) := by omega
  have c2 : (0 : Int) ≤ (i : Int) := by omega
  have c3 : out.length < 35184372088832 := by omega
  have hyo : ¬ (i : Int) < (m.length : Int) → y = 0 := fun h => by
    rw [gw_out (by omega)] at hy; omega
  have hw : wrap64 ((i : Int) + 1) = ((i + 1 : Nat) : Int) := by rw [w64 (by omega) (by omega)]; omega
  obtain ⟨e1, e2, e3, e4⟩ := add_w x y c hx4 hy4 hc
  have m1 : ((c + x + y : Nat) : Int) % 4294967296 = (((c + x + y) % 4294967296 : Nat) : Int) := rfl
  have m2 : ((c + x + y : Nat) : Int) / 4294967296 = (((c + x + y) / 4294967296 : Nat) : Int) := rfl
  simp only [nat_Nat_Add.l0]
  rw [if_pos c1, if_pos c2, if_pos c1, rd_gw, rd_gw, hx, hy, e1, e2, e3, e4, hw]
  by_cases hm : (i : Int) < (m.length : Int)
  · rw [if_pos hm, if_pos c3, m1, m2]
  · rw [if_neg hm]
    have h0 := hyo hm
    subst h0
    have ez : c + x + 0 = c + x := Nat.add_zero _
    rw [ez] at m1 m2 ⊢
    rw [if_pos c3, m1, m2]
theorem add_loop (l m : List Int) (hl : Sized l) (hm : Sized m) (hll : l.length < 1000) (hmm : m.length ≤ l.length) (d : Nat) : ∀ (i c : Nat) (out : List Int), i + d = l.length → out.length = i → Sized out → c ≤ 1 →
    valW out + pw i * c = valW (l.take i) + valW (m.take i) → Ev (fun k => nat_Nat_Add.l0 k out (c : Int) l (l.length : Int) (i : Int) m) (toW (valW l + valW m)) := by
  induction d with
  | zero =>
    intro i c out hi hol hos hc he
    obtain rfl : i = l.length := by omega
    have hs : Sized (out ++ [(c : Int)]) := fun z hz => by
      rcases List.mem_append.1 hz with h | h
      · exact hos z h
      · rw [List.mem_singleton.1 h]; omega
    have ht := trim_ev (out ++ [(c : Int)]) hs (by rw [List.length_append, List.length_singleton]; omega)
    rw [List.take_length, List.take_of_length_le (l := m) hmm] at he
    have hv : valW (out ++ [(c : Int)]) = valW l + valW m := by rw [valW_append, valW_one, hol, Int.toNat_natCast]; exact he
    rw [hv] at ht
    have c1 : ¬ ((l.length : Nat) : Int) < (l.length : Int) := by omega
    have c3 : out.length < 35184372088832 := by omega
    have ec : (c : Int) % 4294967296 = (c : Int) := by omega
    refine Ev.step (fun k => ?_) (Ev.bind (f := fun _ t => some t) ht (Ev.now _))
    simp only [nat_Nat_Add.l0]
    rw [if_neg c1, if_pos c3, ec]
  | succ d ih =>
    intro i c out hi hol hos hc he
    have gx := hl.gw i
    have gy := hm.gw i
    obtain ⟨x, hx⟩ := Int.eq_ofNat_of_zero_le gx.1
    obtain ⟨y, hy⟩ := Int.eq_ofNat_of_zero_le gy.1
    rw [hx] at gx
    rw [hy] at gy
    have hx4 : x < 4294967296 := by omega
    have hy4 : y < 4294967296 := by omega
    have hil : i < l.length := by omega
    have hcc : (c + x + y) / 4294967296 ≤ 1 := by omega
    have ex := valW_snocA l i
    have ey := valW_snocA m i
    rw [hx, Int.toNat_natCast] at ex
    rw [hy, Int.toNat_natCast] at ey
    have hs : Sized (out ++ [(((c + x + y) % 4294967296 : Nat) : Int)]) := fun z hz => by
      rcases List.mem_append.1 hz with h | h
      · exact hos z h
      · rw [List.mem_singleton.1 h]; omega
    refine Ev.step (fun k => add_round l m out i c x y hx hy hx4 hy4 hc hil hll hol k) (ih (i + 1) ((c + x + y) / 4294967296) _ (by omega) (by rw [List.length_append, List.length_singleton, hol]) hs hcc ?_)
    rw [ex, ey, valW_append, valW_one, hol, Int.toNat_natCast, pw_succ]
    exact add_eq he rfl
theorem add_ev (l m : List Int) (hl : Sized l) (hm : Sized m) (hll : l.length < 1000) (hmm : m.length ≤ l.length) : Ev (fun k => nat_Nat_Add.l0 k [] 0 l (l.length : Int) 0 m) (toW (valW l + valW m)) :=
  add_loop l m hl hm hll hmm l.length 0 0 [] (by omega) rfl (fun z hz => by cases hz) (by omega) (by simp [valW_nil])
end Go.Proofs.Yteejcpbngnojkaa.P
end
section
namespace Go.Proofs.Yteejcpbngnojkaa.P
open Go.RowKit Go.Shelf Go.Proofs.YteejcpbngnojkaaW.PrintWords Go.Proofs.YteejcpbngnojkaaW.PrintLast Go.Proofs.YteejcpbngnojkaaW.PrintMore
open Go.Proofs.Yteejcpbngnojkaa.Num
set_option linter.unusedVariables false
def nat_Nat_Add.f (_k : Nat) (l0_0 : List Int) (l1_0 : List Int) : Option (List Int) :=
  if canonB l0_0 && canonB l1_0 && decide (l0_0.length < 1000) && decide (l1_0.length < 1000) then some (toW (valW l0_0 + valW l1_0)) else none
theorem nat_Nat_Add.mono : ∀ a0 a1 k, LeO (nat_Nat_Add.f k a0 a1) (nat_Nat_Add.f (k + 1) a0 a1) := fun _ _ _ => LeO.refl _
theorem Add_toW (k a b : Nat) (ha : (toW a).length < 1000) (hb : (toW b).length < 1000) : nat_Nat_Add.f k (toW a) (toW b) = some (toW (a + b)) := by
  unfold nat_Nat_Add.f
  rw [if_pos (by rw [canonB_toW, canonB_toW]; simp [ha, hb]), valW_toW, valW_toW]
theorem nat_Nat_Add.calls (k : Nat) (A0_0 : Option Addr) (c0_0 : Nat) (l0_0 : List Int) (A1_0 : Option Addr) (c1_0 : Nat) (l1_0 : List Int) (r : List Int) (w : World) (hr0_0 : Kd.C (Kd.int .u32) w A0_0 l0_0.length l0_0) (hc0_0 : l0_0.length ≤ c0_0) (hr1_0 : Kd.C (Kd.int .u32) w A1_0 l1_0.length l1_0) (hc1_0 : l1_0.length ≤ c1_0) (h : nat_Nat_Add.f k l0_0 l1_0 = some r) :
    Calls Try.prog 60 #[.agg #[.slice A0_0 l0_0.length c0_0], .agg #[.slice A1_0 l1_0.length c1_0]] w fun e w' => ∃ v0_ : Value, e = .returned (.agg #[v0_]) ∧ Kd.V (Kd.int .u32) 23 w' w.heap.size (fun k_ => (w.heap.size ≤ k_)) v0_ r ∧ Below w.heap.size w w' := by
  unfold nat_Nat_Add.f at h
  split at h
  case isFalse => cases h
  case isTrue hc =>
    simp only [Bool.and_eq_true, decide_eq_true_eq] at hc
    obtain ⟨⟨⟨q0, q1⟩, n0⟩, n1⟩ := hc
    obtain rfl := Option.some.inj h
    have s0 : Sized l0_0 := canonB_sized q0
    have s1 : Sized l1_0 := canonB_sized q1
    by_cases hlt : l0_0.length < l1_0.length
    · obtain ⟨k2, hk⟩ := Ev.rounds (add_ev l1_0 l0_0 s1 s0 n1 (Nat.le_of_lt hlt))
      rw [Nat.add_comm] at hk
      exact nat_Nat_Add.calls_s true k2 A1_0 c1_0 l1_0 A0_0 c0_0 l0_0 _ w hr1_0 hc1_0 hr0_0 hc0_0 n1 (Nat.le_of_lt hlt) (fun _ => hlt) hk
    · obtain ⟨k2, hk⟩ := Ev.rounds (add_ev l0_0 l1_0 s0 s1 n0 (Nat.not_lt.1 hlt))
      exact nat_Nat_Add.calls_s false k2 A0_0 c0_0 l0_0 A1_0 c1_0 l1_0 _ w hr0_0 hc0_0 hr1_0 hc1_0 n0 (Nat.not_lt.1 hlt) (fun e => by cases e) hk
end Go.Proofs.Yteejcpbngnojkaa.P
end
section
namespace Go.Proofs.Yteejcpbngnojkaa.P
open Go.RowKit Go.Proofs.YteejcpbngnojkaaW.PrintWords Go.Proofs.YteejcpbngnojkaaW.PrintLast Go.Proofs.YteejcpbngnojkaaW.PrintMore
attribute [local go_sem] max2_int min2_int max_two min_two max_three min_three max_four min_four
set_option linter.unusedVariables false
set_option linter.unusedSimpArgs false
mutual
def nat_Nat_Mul.l0 : Nat → List Int → List Int → Int → Int → List Int → Option (List Int)
 |0,_,_,_,_,_ => none
 |k + 1,x5,x20,x21,x22,x565000 => if x22 < x21 then (if 0 ≤ x22 then (if x22 < (x20.length : Int) then (nat_Nat_Mul.l1 k x5 x22 (rd x20 x22) 0 x20 x21 x22 x565000 (x565000.length : Int) 0 x565000) else (none)) else (none)) else ((nat_trim.f k x5).bind fun t569 => (some t569))
def nat_Nat_Mul.l1 : Nat → List Int → Int → Int → Int → List Int → Int → Int → List Int → Int → Int → List Int → Option (List Int)
 |0,_,_,_,_,_,_,_,_,_,_,_ => none
 |k + 1,x5,x6,x7,x8,x20,x21,x22,x28,x29,x30,x565000 => if x30 < x29 then (if 0 ≤ x30 then (if x30 < (x28.length : Int) then (if 0 ≤ (wrap64 (x6 + x30)) then (if (wrap64 (x6 + x30)) < (x5.length : Int) then (nat_Nat_Mul.l1 k (x5.set ((wrap64 (x6 + x30)) : Int).toNat ((IntKind.u64.wrap (x8 + (IntKind.u64.wrap ((IntKind.u64.wrap ((IntKind.u64.wrap (x7)) * (IntKind.u64.wrap (rd x28 x30)))) + (IntKind.u64.wrap (rd x5 (wrap64 (x6 + x30)))))))) % 4294967296)) x6 x7 ((IntKind.u64.wrap (x8 + (IntKind.u64.wrap ((IntKind.u64.wrap ((IntKind.u64.wrap (x7)) * (IntKind.u64.wrap (rd x28 x30)))) + (IntKind.u64.wrap (rd x5 (wrap64 (x6 + x30)))))))) / 4294967296) x20 x21 x22 x28 x29 (wrap64 (x30 + 1)) x565000) else (none)) else (none)) else (none)) else (none)) else (if 0 ≤ (wrap64 (x6 + (x565000.length : Int))) then (if (wrap64 (x6 + (x565000.length : Int))) < (x5.length : Int) then (nat_Nat_Mul.l0 k (x5.set ((wrap64 (x6 + (x565000.length : Int))) : Int).toNat ((x8) % 4294967296)) x20 x21 (wrap64 (x22 + 1)) x565000) else (none)) else (none))
end
def nat_Nat_Mul.f (k : Nat) (l0_0 : List Int) (l1_0 : List Int) : Option (List Int):=if 0 ≤ (wrap64 ((l0_0.length : Int) + (l1_0.length : Int))) then (if (wrap64 ((l0_0.length : Int) + (l1_0.length : Int)) : Int).toNat ≤ 70368744177664 then (nat_Nat_Mul.l0 k (List.replicate (wrap64 ((l0_0.length : Int) + (l1_0.length : Int)) : Int).toNat 0) l0_0 (l0_0.length : Int) 0 l1_0) else (none)) else (none)
theorem nat_Nat_Mul.mono_l : ∀ k,(∀ y0 y1 y2 y3 y4,LeO (nat_Nat_Mul.l0 k y0 y1 y2 y3 y4) (nat_Nat_Mul.l0 (k + 1) y0 y1 y2 y3 y4)) ∧ (∀ y0 y1 y2 y3 y4 y5 y6 y7 y8 y9 y10,LeO (nat_Nat_Mul.l1 k y0 y1 y2 y3 y4 y5 y6 y7 y8 y9 y10) (nat_Nat_Mul.l1 (k + 1) y0 y1 y2 y3 y4 y5 y6 y7 y8 y9 y10))
 |0 => ⟨fun _ _ _ _ _ r h => by simp [nat_Nat_Mul.l0] at h,fun _ _ _ _ _ _ _ _ _ _ _ r h => by simp [nat_Nat_Mul.l1] at h⟩
 |k + 1 => by
  obtain ⟨ih0,ih1⟩:=nat_Nat_Mul.mono_l k
  refine ⟨?_,?_⟩
  ·intro y0 y1 y2 y3 y4
   unfold nat_Nat_Mul.l0
   repeat' first
   |(with_reducible exact ih0 _ _ _ _ _)
   |(with_reducible exact ih1 _ _ _ _ _ _ _ _ _ _ _)
   |(with_reducible exact nat_trim.mono _ _)
   |(with_reducible exact LeO.refl _)
   |(with_reducible exact LeO.none _)
   |(with_reducible refine LeO.ite ?_ ?_)
   |(with_reducible refine LeO.bind ?_ (fun _ => ?_))
   |exact ih0 _ _ _ _ _
   |exact ih1 _ _ _ _ _ _ _ _ _ _ _
   |exact nat_trim.mono _ _
   |exact LeO.none _
   |refine LeO.ite ?_ ?_
   |refine LeO.bind ?_ (fun _ => ?_)
  ·intro y0 y1 y2 y3 y4 y5 y6 y7 y8 y9 y10
   unfold nat_Nat_Mul.l1
   repeat' first
   |(with_reducible exact ih0 _ _ _ _ _)
   |(with_reducible exact ih1 _ _ _ _ _ _ _ _ _ _ _)
   |(with_reducible exact nat_trim.mono _ _)
   |(with_reducible exact LeO.refl _)
   |(with_reducible exact LeO.none _)
   |(with_reducible refine LeO.ite ?_ ?_)
   |(with_reducible refine LeO.bind ?_ (fun _ => ?_))
   |exact ih0 _ _ _ _ _
   |exact ih1 _ _ _ _ _ _ _ _ _ _ _
   |exact nat_trim.mono _ _
   |exact LeO.none _
   |refine LeO.ite ?_ ?_
   |refine LeO.bind ?_ (fun _ => ?_)
theorem nat_Nat_Mul.mono : ∀ a0 a1 k,LeO (nat_Nat_Mul.f k a0 a1) (nat_Nat_Mul.f (k + 1) a0 a1):=by
 intro a0 a1 k
 obtain ⟨ih0,ih1⟩:=nat_Nat_Mul.mono_l k
 unfold nat_Nat_Mul.f
 repeat' first
   |(with_reducible exact ih0 _ _ _ _ _)
   |(with_reducible exact ih1 _ _ _ _ _ _ _ _ _ _ _)
   |(with_reducible exact nat_trim.mono _ _)
   |(with_reducible exact LeO.refl _)
   |(with_reducible exact LeO.none _)
   |(with_reducible refine LeO.ite ?_ ?_)
   |(with_reducible refine LeO.bind ?_ (fun _ => ?_))
   |exact ih0 _ _ _ _ _
   |exact ih1 _ _ _ _ _ _ _ _ _ _ _
   |exact nat_trim.mono _ _
   |exact LeO.none _
   |refine LeO.ite ?_ ?_
   |refine LeO.bind ?_ (fun _ => ?_)
set_option maxHeartbeats 8000000 in
set_option maxRecDepth 100000 in
theorem nat_Nat_Mul.calls (k : Nat) (A0_0 : Option Addr) (c0_0 : Nat) (l0_0 : List Int) (A1_0 : Option Addr) (c1_0 : Nat) (l1_0 : List Int) (r : List Int) (w : World) (hr0_0 : Kd.C (Kd.int .u32) w A0_0 l0_0.length l0_0) (hc0_0 : l0_0.length ≤ c0_0) (hr1_0 : Kd.C (Kd.int .u32) w A1_0 l1_0.length l1_0) (hc1_0 : l1_0.length ≤ c1_0) (h : nat_Nat_Mul.f k l0_0 l1_0 = some r) :
  Calls Try.prog 57 #[.agg #[.slice A0_0 l0_0.length c0_0],.agg #[.slice A1_0 l1_0.length c1_0]] w fun e w' => ∃ v0_ : Value,e = .returned (.agg #[v0_]) ∧ Kd.V (Kd.int .u32) 23 w' w.heap.size (fun k_ => (w.heap.size ≤ k_)) v0_ r ∧ Below w.heap.size w w':=by
 have hu38:=Try.underlying38
 have HR0_0:=Aside0.mk hr0_0
 have HC0_0:=Aside0.mk hc0_0
 clear hr0_0 hc0_0
 have HR1_0:=Aside0.mk hr1_0
 have HC1_0:=Aside0.mk hc1_0
 clear hr1_0 hc1_0
 have HB:=Aside0.mk (Below.refl w.heap.size w)
 have H : (if 0 ≤ (wrap64 ((l0_0.length : Int) + (l1_0.length : Int))) then (if (wrap64 ((l0_0.length : Int) + (l1_0.length : Int)) : Int).toNat ≤ 70368744177664 then (nat_Nat_Mul.l0 k (List.replicate (wrap64 ((l0_0.length : Int) + (l1_0.length : Int)) : Int).toNat 0) l0_0 (l0_0.length : Int) 0 l1_0) else (none)) else (none)) = some r:=h
 clear h
 obtain ⟨ji3,hji3⟩ : ∃ j_ : Int,(wrap64 ((l0_0.length : Int) + (l1_0.length : Int))) = j_:=⟨_,rfl⟩
 (first|rw [hji3] at H|simp only [hji3] at H)
 have hji3w : (IntKind.i64.wrap ((l0_0.length : Int) + (l1_0.length : Int))) = ji3:=(i64_w _).trans hji3
 by_cases c4 : 0 ≤ (ji3)
 ·rw [if_pos c4] at H
  have c4b0:=eq_true c4
  have c4b1 : decide (0 ≤ (ji3)) = true:=decide_eq_true c4
  clear c4
  by_cases c5 : (ji3 : Int).toNat ≤ 70368744177664
  ·rw [if_pos c5] at H
   have c5b0:=eq_true c5
   have c5b1 : decide ((ji3 : Int).toNat ≤ 70368744177664) = true:=decide_eq_true c5
   clear c5
   obtain ⟨y566,hy566⟩ : ∃ y_ : List Int,y_ = (List.replicate (ji3 : Int).toNat 0):=⟨_,rfl⟩
   replace H : (nat_Nat_Mul.l0 k y566 l0_0 (l0_0.length : Int) 0 l1_0) = some r:=by first|(rw [hy566];with_reducible exact H)|(have H2_:=(Option.bind_some _ _).symm.trans H;rw [hy566];with_reducible exact H2_)|(have H2_:=(Option.bind_some _ _).symm.trans H;with_reducible exact H2_)|with_reducible exact H|(rw [hy566];exact H)|exact H
   have Ny566:=Aside0.mk hy566
   clear hy566
   have H':=Aside0.mk H
   clear H
   go_enter Try.func57,Try.ntmps57
   go_wp2_with (first|((with_reducible refine gate_dst (N:=2) rfl ?_);refine qX #[.slice A0_0 l0_0.length c0_0] 38 ?_;intro gb563 hg w6 hbox hb;have BK563:=Aside0.mk hbox;have GE563:=qh hg HB;replace HB:=qs HB hb;clear hb hbox hg)|((with_reducible refine gate_dst (N:=3) rfl ?_);refine qX #[.slice A1_0 l1_0.length c1_0] 38 ?_;intro gb564 hg w7 hbox hb;have BK564:=Aside0.mk hbox;have GE564:=qh hg HB;replace HB:=qs HB hb;have NB563_564:=ql hg BK563;have NB564_563:=qg hg BK563;replace BK563:=qb BK563 hb;clear hb hbox hg)|((with_reducible refine gate_dst (N:=4) rfl ?_);refine qX #[.slice none 0 0] 38 ?_;intro gb565 hg w8 hbox hb;have BK565:=Aside0.mk hbox;have GE565:=qh hg HB;replace HB:=qs HB hb;have NB563_565:=ql hg BK563;have NB565_563:=qg hg BK563;replace BK563:=qb BK563 hb;have NB564_565:=ql hg BK564;have NB565_564:=qg hg BK564;replace BK564:=qb BK564 hb;clear hb hbox hg;have hnb9:=NB563_564.out;have hnc9:=NB564_563.out;have hnb10:=NB563_565.out;have hnc10:=NB565_563.out;have hcz11_0:=bc BK563;have hfz11_0:=bz BK563;have hnb12:=NB564_565.out;have hnc12:=NB565_564.out;have hcz13_0:=bc BK564;have hfz13_0:=bz BK564)|((with_reducible refine gate_dst (N:=18) rfl ?_);refine Kd.R_make (Kd.int .u32) _ 23 rfl (N:=18) rfl 36 _ _ rfl ji3 rfl rfl Try.underlying36 (.int .u32 0) 4 info23 rfl (by decide) (by omega) 0 (ok:=fun _ => True) (okp:=fun _ => True) rfl (fun _ hk => hk) trivial (od) (Nat.le_trans (Nat.mul_le_mul_right _ (od : ji3.toNat ≤ 70368744177664)) (by omega)) (Below.refl _ _) (Nat.le_refl _) ?_;intro v567 w14 ho15 hb hg_ hnew_;clear hg_ hnew_;(first|rw [← Ny566.out] at ho15|(simp only [Int.reduceToNat] at ho15;rw [← Ny566.out] at ho15));have HO568:=Aside0.mk (Kd.R_lower (Kd.R_newM (M:=fun k_ => (w.heap.size ≤ k_)) ho15 (below_size (qS HB)) (fun k_ h_ => h_)) (below_size (qS HB)));replace BK563:=qb BK563 hb;replace BK564:=qb BK564 hb;replace BK565:=qb BK565 hb;replace HB:=qs HB hb;clear hb ho15;have hcz16_0:=bc BK563;have hfz16_0:=bz BK563))
   go_loopg [22] k (fun kq v22 w' => ∃ (x5_1 : List Int) (x22_1 : Int),v22 = .int .i64 x22_1 ∧ Aside0 (nat_Nat_Mul.l0 kq x5_1 l0_0 (l0_0.length : Int) x22_1 l1_0 = some r) ∧ Aside0 (kq ≤ k) ∧ Aside0 (Kd.R (Kd.int .u32) 23 w' w.heap.size (fun k_ => (w.heap.size ≤ k_)) v567 x5_1) ∧ Aside0 (w'.heap[gb563]? = some (.cells #[(.slice A0_0 l0_0.length c0_0)] 38 (0,0))) ∧ Aside0 (w'.heap[gb564]? = some (.cells #[(.slice A1_0 l1_0.length c1_0)] 38 (0,0))) ∧ Aside0 (w'.heap[gb565]? = some (.cells #[(.slice none 0 0)] 38 (0,0))) ∧ Aside0 (Below w.heap.size w w'))
   case atStart => exact ⟨(y566),(0),(by first|rfl|(simp;done)|(simp [*];done)),H',⟨Nat.le_refl _⟩,⟨qRm HO568⟩,⟨qB BK563.out⟩,⟨qB BK564.out⟩,⟨qB BK565.out⟩,⟨qS HB⟩⟩
   case round =>
    clear H'
    try clear c1
    try clear p2
    try clear c4
    try clear c4b0
    try clear c4b1
    try clear c5
    try clear c5b0
    try clear c5b1
    try clear p6
    try clear c9
    try clear c10
    try clear c12
    try clear hcz11_0
    try clear hcz13_0
    try clear hcz16_0
    try clear hfz11_0
    try clear hfz13_0
    try clear hfz16_0
    obtain ⟨x5_1,x22_1,rfl,HA,HK1,HO_5,BK563,BK564,BK565,HB⟩:=hrel
    cases gk with
    |zero => exact absurd HA.out (by simp [nat_Nat_Mul.l0])
    |succ k1 =>
     have H:=HA.out
     clear HA
     simp only [nat_Nat_Mul.l0] at H
     by_cases c17 : x22_1 < (l0_0.length : Int)
     ·rw [if_pos c17] at H
      have c17b0 : decide (x22_1 < (l0_0.length : Int)) = true:=decide_eq_true c17
      clear c17
      by_cases c18 : 0 ≤ x22_1
      ·rw [if_pos c18] at H
       have c18b0 : decide (0 ≤ x22_1) = true:=decide_eq_true c18
       clear c18
       by_cases c19 : x22_1 < (l0_0.length : Int)
       ·rw [if_pos c19] at H
        have c19b0 : decide (x22_1 < (l0_0.length : Int)) = true:=decide_eq_true c19
        clear c19
        have H':=Aside0.mk H
        clear H
        have p572 : 0 ≤ (x22_1 : Int):=od
        have q572 : x22_1 < (l0_0.length : Int):=od
        obtain ⟨ad572,e572,hx572_0⟩:=Kd.at_int HR0_0.out x22_1 p572 q572
        cases e572
        replace hx572_0:=(HB.out.cell (World.block_lt_of_cell? w _ hx572_0)).trans hx572_0
        replace p572:=eq_true p572
        replace q572:=eq_true q572
        have hnb20:=NB564_563.out
        have hnc20:=NB563_564.out
        have hnb21:=NB564_565.out
        have hnc21:=NB565_564.out
        have hcz22_0 : wr.cell? ⟨gb564,0,none⟩ = some (.slice A1_0 l1_0.length c1_0):=bc BK564
        have hfz22_0:=bz BK564
        go_wp2
        go_loopg [8,30] k1 (fun kq v8 v30 w' => ∃ (x5_2 : List Int) (x8_2 : Int) (x30_2 : Int),v8 = .int .u64 x8_2 ∧ v30 = .int .i64 x30_2 ∧ Aside0 (nat_Nat_Mul.l1 kq x5_2 x22_1 (rd l0_0 x22_1) x8_2 l0_0 (l0_0.length : Int) x22_1 l1_0 (l1_0.length : Int) x30_2 l1_0 = some r) ∧ Aside0 (kq ≤ k1) ∧ Aside0 (Kd.R (Kd.int .u32) 23 w' w.heap.size (fun k_ => (w.heap.size ≤ k_)) v567 x5_2) ∧ Aside0 (w'.heap[gb563]? = some (.cells #[(.slice (some ad572) l0_0.length c0_0)] 38 (0,0))) ∧ Aside0 (w'.heap[gb564]? = some (.cells #[(.slice A1_0 l1_0.length c1_0)] 38 (0,0))) ∧ Aside0 (w'.heap[gb565]? = some (.cells #[(.slice none 0 0)] 38 (0,0))) ∧ Aside0 (Below w.heap.size w w'))
        case atStart => exact ⟨(x5_1),(0),(0),(by first|rfl|(simp;done)|(simp [*];done)),(by first|rfl|(simp;done)|(simp [*];done)),H',⟨Nat.le_refl _⟩,⟨qRm HO_5⟩,⟨qB BK563.out⟩,⟨qB BK564.out⟩,⟨qB BK565.out⟩,⟨qS HB⟩⟩
        case round =>
         clear H'
         try clear c1
         try clear c2
         try clear p2
         try clear c4
         try clear c4b0
         try clear c4b1
         try clear c5
         try clear c5b0
         try clear c5b1
         try clear p5
         try clear q5
         try clear hx5
         try clear p6
         try clear c9
         try clear c10
         try clear c12
         try clear c17
         try clear c17b0
         try clear c18
         try clear c18b0
         try clear c19
         try clear c19b0
         try clear c20
         try clear c21
         try clear hcz11_0
         try clear hcz13_0
         try clear hcz16_0
         try clear hcz22_0
         try clear hfz11_0
         try clear hfz13_0
         try clear hfz16_0
         try clear hfz22_0
         try clear hx572_0
         try clear p2
         try clear p572
         try clear p6
         try clear q572
         obtain ⟨x5_2,x8_2,x30_2,rfl,rfl,HA,HK2,HO_5,BK563,BK564,BK565,HB⟩:=hrel
         cases gk with
         |zero => exact absurd HA.out (by simp [nat_Nat_Mul.l1])
         |succ k2 =>
          have H:=HA.out
          clear HA
          simp only [nat_Nat_Mul.l1] at H
          by_cases c23 : x30_2 < (l1_0.length : Int)
          ·rw [if_pos c23] at H
           have c23b0 : decide (x30_2 < (l1_0.length : Int)) = true:=decide_eq_true c23
           clear c23
           by_cases c24 : 0 ≤ x30_2
           ·rw [if_pos c24] at H
            have c24b0 : decide (0 ≤ x30_2) = true:=decide_eq_true c24
            clear c24
            by_cases c25 : x30_2 < (l1_0.length : Int)
            ·rw [if_pos c25] at H
             have c25b0 : decide (x30_2 < (l1_0.length : Int)) = true:=decide_eq_true c25
             clear c25
             obtain ⟨ji26,hji26⟩ : ∃ j_ : Int,(wrap64 (x22_1 + x30_2)) = j_:=⟨_,rfl⟩
             (first|rw [hji26] at H|simp only [hji26] at H)
             have hji26w : (IntKind.i64.wrap (x22_1 + x30_2)) = ji26:=(i64_w _).trans hji26
             by_cases c27 : 0 ≤ (ji26)
             ·rw [if_pos c27] at H
              have c27b0 : decide (0 ≤ (ji26)) = true:=decide_eq_true c27
              clear c27
              by_cases c28 : (ji26) < (x5_2.length : Int)
              ·rw [if_pos c28] at H
               have c28b0 : decide ((ji26) < (x5_2.length : Int)) = true:=decide_eq_true c28
               clear c28
               obtain ⟨y575,hy575⟩ : ∃ y_ : List Int,y_ = (x5_2.set ((ji26) : Int).toNat ((IntKind.u64.wrap (x8_2 + (IntKind.u64.wrap ((IntKind.u64.wrap ((IntKind.u64.wrap ((rd l0_0 x22_1))) * (IntKind.u64.wrap (rd l1_0 x30_2)))) + (IntKind.u64.wrap (rd x5_2 (ji26))))))) % 4294967296)):=⟨_,rfl⟩
               replace H : (nat_Nat_Mul.l1 k2 y575 x22_1 (rd l0_0 x22_1) ((IntKind.u64.wrap (x8_2 + (IntKind.u64.wrap ((IntKind.u64.wrap ((IntKind.u64.wrap ((rd l0_0 x22_1))) * (IntKind.u64.wrap (rd l1_0 x30_2)))) + (IntKind.u64.wrap (rd x5_2 (ji26))))))) / 4294967296) l0_0 (l0_0.length : Int) x22_1 l1_0 (l1_0.length : Int) (wrap64 (x30_2 + 1)) l1_0) = some r:=by first|(rw [hy575];with_reducible exact H)|(have H2_:=(Option.bind_some _ _).symm.trans H;rw [hy575];with_reducible exact H2_)|(have H2_:=(Option.bind_some _ _).symm.trans H;with_reducible exact H2_)|with_reducible exact H|(rw [hy575];exact H)|exact H
               have Ny575:=Aside0.mk hy575
               clear hy575
               have H':=Aside0.mk H
               clear H
               have p573 : 0 ≤ (x30_2 : Int):=od
               have q573 : x30_2 < (l1_0.length : Int):=od
               obtain ⟨ad573,e573,hx573_0⟩:=Kd.at_int HR1_0.out x30_2 p573 q573
               cases e573
               replace hx573_0:=(HB.out.cell (World.block_lt_of_cell? w _ hx573_0)).trans hx573_0
               replace p573:=eq_true p573
               replace q573:=eq_true q573
               obtain ⟨Ao30,co30,eo30⟩:=Kd.R_slice HO_5.out
               subst eo30
               have p574 : 0 ≤ ((ji26) : Int):=od
               have q574 : (ji26) < (x5_2.length : Int):=od
               obtain ⟨ad574,e574,hx574_0⟩:=Kd.at_int (Kd.R_reads' HO_5.out).2.2 (ji26) p574 q574
               cases e574
               replace p574:=eq_true p574
               replace q574:=eq_true q574
               have p29 : 0 ≤ ((ji26) : Int):=od
               have q29 : ((ji26) : Int) < ((x5_2.length : Int) : Int):=od
               obtain ⟨go29,co29,eo29,gb29,gl29,cl29,HG29⟩:=Kd.R_form HO_5.out (by omega)
               (first|cases eo29|(injection eo29 with ea_ en_ ec_;(first|subst ea_|(injection ea_ with ea_;subst ea_));subst ec_;clear en_))
               have GB29:=Aside0.mk gb29
               have GG29:=Aside0.mk HG29
               clear gb29 gl29 HG29
               (first|simp only [add_plain] at hx574_0|skip)
               obtain ⟨hx29_0,hf29_0⟩:=Kd.R_celln 0 HO_5.out ((ji26) : Int) p29 q29
               replace p29:=eq_true p29
               replace q29:=eq_true q29
               have HP31:=Kd.R_putg HO_5.out ((ji26) : Int) ((IntKind.u64.wrap (x8_2 + (IntKind.u64.wrap ((IntKind.u64.wrap ((IntKind.u64.wrap ((rd l0_0 x22_1))) * (IntKind.u64.wrap (rd l1_0 x30_2)))) + (IntKind.u64.wrap (rd x5_2 (ji26))))))) % 4294967296)
               go_wp2_with (first|((with_reducible refine gate_store (t:=23) (p:=56) rfl ?_);refine qSt (wr.setCell ⟨go29,((ji26) : Int).toNat,none⟩ (.int .u32 ((IntKind.u64.wrap (x8_2 + (IntKind.u64.wrap ((IntKind.u64.wrap ((IntKind.u64.wrap ((rd l0_0 x22_1))) * (IntKind.u64.wrap (rd l1_0 x30_2)))) + (IntKind.u64.wrap (rd x5_2 (ji26))))))) % 4294967296))) ?_;intro w32 hw;have hg : wr.grownBy w32 (some go29):=(by rw [hw];exact HP31.2);have hp_ : Kd.R (Kd.int .u32) 23 w32 w.heap.size (fun k_ => (w.heap.size ≤ k_)) (.slice (some ⟨go29,0,none⟩) x5_2.length co30) y575:=(by rw [hw,Ny575.out];exact HP31.1);clear HP31;replace BK563:=Aside0.mk (blk_grown (g:=gb563) (o:=.cells #[.slice (some ad572) l0_0.length c0_0] 38 (0,0)) (qB BK563.out) hg (Kd.R_ne HO_5.out BK563.out (by decide)));replace BK564:=Aside0.mk (blk_grown (g:=gb564) (o:=.cells #[.slice (some ad573) l1_0.length c1_0] 38 (0,0)) (qB BK564.out) hg (Kd.R_ne HO_5.out BK564.out (by decide)));replace BK565:=Aside0.mk (blk_grown (g:=gb565) (o:=.cells #[.slice none 0 0] 38 (0,0)) (qB BK565.out) hg (Kd.R_ne HO_5.out BK565.out (by decide)));replace HO_5:=Aside0.mk (hp_);replace HB:=Aside0.mk ((by rw [hw];exact below_set (HB.out) GB29.out : Below w.heap.size w w32));clear hg hw hp_))
               go_roundg k2
               case measure => have:=HK1.out;have:=HK2.out;omega
               case rel => exact ⟨(y575),((IntKind.u64.wrap (x8_2 + (IntKind.u64.wrap ((IntKind.u64.wrap ((IntKind.u64.wrap ((rd l0_0 x22_1))) * (IntKind.u64.wrap (rd l1_0 x30_2)))) + (IntKind.u64.wrap (rd x5_2 (ji26))))))) / 4294967296),(wrap64 (x30_2 + 1)),(by first|rfl|(simp;done)|(simp only [← hji26] <;> (first|rfl|simp))|(simp [*];done)),(by first|rfl|(simp;done)|(simp [*];done)),H',⟨by have:=HK1.out;have:=HK2.out;omega⟩,⟨qRm HO_5⟩,⟨qB BK563.out⟩,⟨qB BK564.out⟩,⟨qB BK565.out⟩,⟨qS HB⟩⟩
              ·rw [if_neg c28] at H
               exact absurd H (by simp)
             ·rw [if_neg c27] at H
              exact absurd H (by simp)
            ·rw [if_neg c25] at H
             exact absurd H (by simp)
           ·rw [if_neg c24] at H
            exact absurd H (by simp)
          ·rw [if_neg c23] at H
           have c23b0 : decide (x30_2 < (l1_0.length : Int)) = false:=decide_eq_false c23
           clear c23
           obtain ⟨ji33,hji33⟩ : ∃ j_ : Int,(wrap64 (x22_1 + (l1_0.length : Int))) = j_:=⟨_,rfl⟩
           (first|rw [hji33] at H|simp only [hji33] at H)
           have hji33w : (IntKind.i64.wrap (x22_1 + (l1_0.length : Int))) = ji33:=(i64_w _).trans hji33
           by_cases c34 : 0 ≤ (ji33)
           ·rw [if_pos c34] at H
            have c34b0 : decide (0 ≤ (ji33)) = true:=decide_eq_true c34
            clear c34
            by_cases c35 : (ji33) < (x5_2.length : Int)
            ·rw [if_pos c35] at H
             have c35b0 : decide ((ji33) < (x5_2.length : Int)) = true:=decide_eq_true c35
             clear c35
             obtain ⟨y576,hy576⟩ : ∃ y_ : List Int,y_ = (x5_2.set ((ji33) : Int).toNat ((x8_2) % 4294967296)):=⟨_,rfl⟩
             replace H : (nat_Nat_Mul.l0 k2 y576 l0_0 (l0_0.length : Int) (wrap64 (x22_1 + 1)) l1_0) = some r:=by first|(rw [hy576];with_reducible exact H)|(have H2_:=(Option.bind_some _ _).symm.trans H;rw [hy576];with_reducible exact H2_)|(have H2_:=(Option.bind_some _ _).symm.trans H;with_reducible exact H2_)|with_reducible exact H|(rw [hy576];exact H)|exact H
             have Ny576:=Aside0.mk hy576
             clear hy576
             have H':=Aside0.mk H
             clear H
             have hnb37:=NB564_563.out
             have hnc37:=NB563_564.out
             have hnb38:=NB564_565.out
             have hnc38:=NB565_564.out
             have hcz39_0 : wr.cell? ⟨gb564,0,none⟩ = some (.slice A1_0 l1_0.length c1_0):=bc BK564
             have hfz39_0:=bz BK564
             have p36 : 0 ≤ ((ji33) : Int):=od
             have q36 : ((ji33) : Int) < ((x5_2.length : Int) : Int):=od
             obtain ⟨go36,co36,eo36,gb36,gl36,cl36,HG36⟩:=Kd.R_form HO_5.out (by omega)
             (first|cases eo36|(injection eo36 with ea_ en_ ec_;(first|subst ea_|(injection ea_ with ea_;subst ea_));subst ec_;clear en_))
             have GB36:=Aside0.mk gb36
             have GG36:=Aside0.mk HG36
             clear gb36 gl36 HG36
             obtain ⟨hx36_0,hf36_0⟩:=Kd.R_celln 0 HO_5.out ((ji33) : Int) p36 q36
             replace p36:=eq_true p36
             replace q36:=eq_true q36
             have HP40:=Kd.R_putg HO_5.out ((ji33) : Int) ((x8_2) % 4294967296)
             go_wp2_with (first|((with_reducible refine gate_store (t:=23) (p:=68) rfl ?_);refine qSt (wr.setCell ⟨go36,((ji33) : Int).toNat,none⟩ (.int .u32 ((x8_2) % 4294967296))) ?_;intro w41 hw;have hg : wr.grownBy w41 (some go36):=(by rw [hw];exact HP40.2);have hp_ : Kd.R (Kd.int .u32) 23 w41 w.heap.size (fun k_ => (w.heap.size ≤ k_)) (.slice (some ⟨go36,0,none⟩) x5_2.length co36) y576:=(by rw [hw,Ny576.out];exact HP40.1);clear HP40;replace BK563:=Aside0.mk (blk_grown (g:=gb563) (o:=.cells #[.slice (some ad572) l0_0.length c0_0] 38 (0,0)) (qB BK563.out) hg (Kd.R_ne HO_5.out BK563.out (by decide)));replace BK564:=Aside0.mk (blk_grown (g:=gb564) (o:=.cells #[.slice A1_0 l1_0.length c1_0] 38 (0,0)) (qB BK564.out) hg (Kd.R_ne HO_5.out BK564.out (by decide)));replace BK565:=Aside0.mk (blk_grown (g:=gb565) (o:=.cells #[.slice none 0 0] 38 (0,0)) (qB BK565.out) hg (Kd.R_ne HO_5.out BK565.out (by decide)));replace HO_5:=Aside0.mk (hp_);replace HB:=Aside0.mk ((by rw [hw];exact below_set (HB.out) GB36.out : Below w.heap.size w w41));clear hg hw hp_))
             go_roundg k2
             case measure => have:=HK1.out;have:=HK2.out;omega
             case rel => exact ⟨(y576),(wrap64 (x22_1 + 1)),(by first|rfl|(simp;done)|(simp [*];done)),H',⟨by have:=HK1.out;have:=HK2.out;omega⟩,⟨qRm HO_5⟩,⟨qB BK563.out⟩,⟨qB BK564.out⟩,⟨qB BK565.out⟩,⟨qS HB⟩⟩
            ·rw [if_neg c35] at H
             exact absurd H (by simp)
           ·rw [if_neg c34] at H
            exact absurd H (by simp)
       ·rw [if_neg c19] at H
        exact absurd H (by simp)
      ·rw [if_neg c18] at H
       exact absurd H (by simp)
     ·rw [if_neg c17] at H
      have c17b0 : decide (x22_1 < (l0_0.length : Int)) = false:=decide_eq_false c17
      clear c17
      obtain ⟨t569,A42,H⟩:=qH H
      obtain rfl:=Option.some.inj H
      obtain ⟨Ao43,co43,eo43⟩:=Kd.R_slice HO_5.out
      subst eo43
      go_wp2_with (first|((with_reducible refine gate_callee (f:=100) rfl ?_);refine gL (some 71) Try.func100 #[.slice Ao43 x5_1.length co43] ?_;(with_reducible refine (nat_trim.calls k1 (fun k_ => some k_ = (.slice Ao43 x5_1.length co43 : Value).ownBlock) _ _ x5_1 t569 _ ?side1 A42.out).mono ?_);(case side1 => exact Kd.R_V (Kd.R_tight rfl (Kd.R_types (Kd.R_types (Kd.R_types (HO_5.out) BK563.out (by decide)) BK564.out (by decide)) BK565.out (by decide))));rintro e w44 ⟨v570,rfl,ho0,hb⟩;refine ⟨_,rfl,?_⟩;have HO571:=Aside0.mk (Kd.V_lower (Kd.V_mono (ok':=fun k_ => (w.heap.size ≤ k_) ∧ k_ ≠ gb563 ∧ k_ ≠ gb564 ∧ k_ ≠ gb565) ho0 (fun k_ hk_ => ⟨Or.elim hk_ (fun hs_ => ((Kd.R_types (Kd.R_types (Kd.R_types (HO_5.out) BK563.out (by decide)) BK564.out (by decide)) BK565.out (by decide)).1 k_ hs_.symm).1.1.1) (fun hn_ => (Nat.le_trans (below_size (qS HB)) hn_)),Or.elim hk_ (fun hs_ => ((Kd.R_types (Kd.R_types (Kd.R_types (HO_5.out) BK563.out (by decide)) BK564.out (by decide)) BK565.out (by decide)).1 k_ hs_.symm).1.1.2) (fun hn_ => (Kd.freshB (qB BK563.out) k_ hn_)),Or.elim hk_ (fun hs_ => ((Kd.R_types (Kd.R_types (Kd.R_types (HO_5.out) BK563.out (by decide)) BK564.out (by decide)) BK565.out (by decide)).1 k_ hs_.symm).1.2) (fun hn_ => (Kd.freshB (qB BK564.out) k_ hn_)),Or.elim hk_ (fun hs_ => ((Kd.R_types (Kd.R_types (Kd.R_types (HO_5.out) BK563.out (by decide)) BK564.out (by decide)) BK565.out (by decide)).1 k_ hs_.symm).2) (fun hn_ => (Kd.freshB (qB BK565.out) k_ hn_))⟩)) (below_size (qS HB)));replace HO_5:=qRb HO_5 hb;replace BK563:=qb BK563 hb;replace BK564:=qb BK564 hb;replace BK565:=qb BK565 hb;replace HB:=qs HB hb;clear hb ho0;obtain ⟨Ao45,co45,eo45⟩:=Kd.V_slice HO571.out;subst eo45;have hnb46:=NB565_563.out;have hnc46:=NB563_565.out;have hnb47:=NB565_564.out;have hnc47:=NB564_565.out;have hcz48_0:=bc BK565;have hfz48_0:=bz BK565))
      refine bodyPost_ret (results_cell_row rfl _ _ gb565 38 #[.slice Ao45 t569.length co45] (0,0) _ rfl (by (with_reducible repeat (first|refine blk_drewN ?_ _|refine blk_drew ?_|refine blk_alloc ?_ _));refine blk_put (cs:=#[.slice none 0 0]) ?_ 0 _ rfl;(with_reducible repeat (first|refine blk_drewN ?_ _|refine blk_drew ?_|refine blk_alloc ?_ _));exact BK565.out) Try.underlying38 rfl (by kernel_rfl)) rfl ?_
      exact ⟨_,by first|rfl|(simp [errW_none,errW_some] <;> rfl)|(simp only [← hji3];first|rfl|(simp [errW_none,errW_some] <;> rfl))|(simp [*,errW_none,errW_some] <;> rfl),qVm HO571,qS HB⟩
  ·rw [if_neg c5] at H
   exact absurd H (by simp)
 ·rw [if_neg c4] at H
  exact absurd H (by simp)
end Go.Proofs.Yteejcpbngnojkaa.P
end
section
namespace Go.Proofs.Yteejcpbngnojkaa.P
open Go.RowKit Go.Proofs.YteejcpbngnojkaaW.PrintWords Go.Proofs.YteejcpbngnojkaaW.PrintLast Go.Proofs.YteejcpbngnojkaaW.PrintMore
attribute [local go_sem] max2_int min2_int max_two min_two max_three min_three max_four min_four
set_option linter.unusedVariables false
set_option linter.unusedSimpArgs false
mutual
def sacristylaw01_NatOrders.j0 : Nat → Bool → List Int → List Int → List Int → Option (Bool)
 |0,_,_,_,_ => none
 |k + 1,x39,x976000,x977000,x978000 => if x39 = true then (none) else ((nat_Nat_Add.f k x976000 x978000).bind fun t987 => ((nat_Nat_Add.f k x977000 x978000).bind fun t990 => ((nat_Nat_Cmp.f k t987 t990).bind fun t993 => ((nat_Nat_Cmp.f k x976000 x977000).bind fun t994 => (if t993 = t994 then ((nat_Nat_Zero.f x978000).bind fun t995 => (if t995 = true then (sacristylaw01_NatOrders.j1 k false x976000 x977000 x978000) else ((nat_Nat_Mul.f k x976000 x978000).bind fun t996 => ((nat_Nat_Mul.f k x977000 x978000).bind fun t999 => ((nat_Nat_Cmp.f k t996 t999).bind fun t1002 => ((nat_Nat_Cmp.f k x976000 x977000).bind fun t1003 => (sacristylaw01_NatOrders.j1 k (t1002 != t1003) x976000 x977000 x978000))))))) else (sacristylaw01_NatOrders.j1 k true x976000 x977000 x978000))))))
def sacristylaw01_NatOrders.j1 : Nat → Bool → List Int → List Int → List Int → Option (Bool)
 |0,_,_,_,_ => none
 |k + 1,x68,x976000,x977000,x978000 => if x68 = true then (none) else ((nat_New.f k 1).bind fun t1004 => ((nat_Nat_Add.f k x976000 t1004).bind fun t1007 => ((nat_Nat_Cmp.f k t1007 x976000).bind fun t1010 => (if t1010 = 1 then ((nat_Nat_Cmp.f k x976000 x977000).bind fun t1011 => (if t1011 > 0 then (some true) else ((nat_Nat_Cmp.f k x977000 x978000).bind fun t1012 => (if t1012 > 0 then (some true) else ((nat_Nat_Cmp.f k x976000 x978000).bind fun t1013 => (some (decide (t1013 ≤ 0)))))))) else (none)))))
end
def sacristylaw01_NatOrders.f (k : Nat) (l0 : List Int) (l1 : List Int) (l2 : List Int) : Option (Bool):=(sacristylaw01_lives.f k).bind fun t965 => (if t965 = true then ((sacristylaw01_Num.f k l0).bind fun t966 => ((sacristylaw01_Num.f k l1).bind fun t969 => ((sacristylaw01_Num.f k l2).bind fun t972 => ((nat_Nat_Cmp.f k t966 t969).bind fun t978 => ((nat_Nat_Cmp.f k t969 t966).bind fun t979 => (if t978 = (wrap64 (-t979)) then ((nat_Nat_Cmp.f k t966 t969).bind fun t980 => ((nat_Nat_Least.f k t966).bind fun t981 => ((nat_Nat_Least.f k t969).bind fun t984 => (sacristylaw01_NatOrders.j0 k ((t980 == 0) != ((strOfNums t981).toList == (strOfNums t984).toList)) t966 t969 t972)))) else (sacristylaw01_NatOrders.j0 k true t966 t969 t972))))))) else (none))
theorem sacristylaw01_NatOrders.mono_l : ∀ k,(∀ y0 y1 y2 y3,LeO (sacristylaw01_NatOrders.j0 k y0 y1 y2 y3) (sacristylaw01_NatOrders.j0 (k + 1) y0 y1 y2 y3)) ∧ (∀ y0 y1 y2 y3,LeO (sacristylaw01_NatOrders.j1 k y0 y1 y2 y3) (sacristylaw01_NatOrders.j1 (k + 1) y0 y1 y2 y3))
 |0 => ⟨fun _ _ _ _ r h => by simp [sacristylaw01_NatOrders.j0] at h,fun _ _ _ _ r h => by simp [sacristylaw01_NatOrders.j1] at h⟩
 |k + 1 => by
  obtain ⟨ih0,ih1⟩:=sacristylaw01_NatOrders.mono_l k
  refine ⟨?_,?_⟩
  ·intro y0 y1 y2 y3
   unfold sacristylaw01_NatOrders.j0
   repeat' first
   |(with_reducible exact ih0 _ _ _ _)
   |(with_reducible exact ih1 _ _ _ _)
   |(with_reducible exact nat_Nat_Add.mono _ _ _)
   |(with_reducible exact nat_Nat_Cmp.mono _ _ _)
   |(with_reducible exact nat_Nat_Least.mono _ _)
   |(with_reducible exact nat_Nat_Mul.mono _ _ _)
   |(with_reducible exact nat_New.mono _ _)
   |(with_reducible exact sacristylaw01_Num.mono _ _)
   |(with_reducible exact sacristylaw01_lives.mono _)
   |(with_reducible exact LeO.refl _)
   |(with_reducible exact LeO.none _)
   |(with_reducible refine LeO.ite ?_ ?_)
   |(with_reducible refine LeO.bind ?_ (fun _ => ?_))
   |exact ih0 _ _ _ _
   |exact ih1 _ _ _ _
   |exact nat_Nat_Add.mono _ _ _
   |exact nat_Nat_Cmp.mono _ _ _
   |exact nat_Nat_Least.mono _ _
   |exact nat_Nat_Mul.mono _ _ _
   |exact nat_New.mono _ _
   |exact sacristylaw01_Num.mono _ _
   |exact sacristylaw01_lives.mono _
   |exact LeO.none _
   |refine LeO.ite ?_ ?_
   |refine LeO.bind ?_ (fun _ => ?_)
  ·intro y0 y1 y2 y3
   unfold sacristylaw01_NatOrders.j1
   repeat' first
   |(with_reducible exact ih0 _ _ _ _)
   |(with_reducible exact ih1 _ _ _ _)
   |(with_reducible exact nat_Nat_Add.mono _ _ _)
   |(with_reducible exact nat_Nat_Cmp.mono _ _ _)
   |(with_reducible exact nat_Nat_Least.mono _ _)
   |(with_reducible exact nat_Nat_Mul.mono _ _ _)
   |(with_reducible exact nat_New.mono _ _)
   |(with_reducible exact sacristylaw01_Num.mono _ _)
   |(with_reducible exact sacristylaw01_lives.mono _)
   |(with_reducible exact LeO.refl _)
   |(with_reducible exact LeO.none _)
   |(with_reducible refine LeO.ite ?_ ?_)
   |(with_reducible refine LeO.bind ?_ (fun _ => ?_))
   |exact ih0 _ _ _ _
   |exact ih1 _ _ _ _
   |exact nat_Nat_Add.mono _ _ _
   |exact nat_Nat_Cmp.mono _ _ _
   |exact nat_Nat_Least.mono _ _
   |exact nat_Nat_Mul.mono _ _ _
   |exact nat_New.mono _ _
   |exact sacristylaw01_Num.mono _ _
   |exact sacristylaw01_lives.mono _
   |exact LeO.none _
   |refine LeO.ite ?_ ?_
   |refine LeO.bind ?_ (fun _ => ?_)
theorem sacristylaw01_NatOrders.mono : ∀ a0 a1 a2 k,LeO (sacristylaw01_NatOrders.f k a0 a1 a2) (sacristylaw01_NatOrders.f (k + 1) a0 a1 a2):=by
 intro a0 a1 a2 k
 obtain ⟨ih0,ih1⟩:=sacristylaw01_NatOrders.mono_l k
 unfold sacristylaw01_NatOrders.f
 repeat' first
   |(with_reducible exact ih0 _ _ _ _)
   |(with_reducible exact ih1 _ _ _ _)
   |(with_reducible exact nat_Nat_Add.mono _ _ _)
   |(with_reducible exact nat_Nat_Cmp.mono _ _ _)
   |(with_reducible exact nat_Nat_Least.mono _ _)
   |(with_reducible exact nat_Nat_Mul.mono _ _ _)
   |(with_reducible exact nat_New.mono _ _)
   |(with_reducible exact sacristylaw01_Num.mono _ _)
   |(with_reducible exact sacristylaw01_lives.mono _)
   |(with_reducible exact LeO.refl _)
   |(with_reducible exact LeO.none _)
   |(with_reducible refine LeO.ite ?_ ?_)
   |(with_reducible refine LeO.bind ?_ (fun _ => ?_))
   |exact ih0 _ _ _ _
   |exact ih1 _ _ _ _
   |exact nat_Nat_Add.mono _ _ _
   |exact nat_Nat_Cmp.mono _ _ _
   |exact nat_Nat_Least.mono _ _
   |exact nat_Nat_Mul.mono _ _ _
   |exact nat_New.mono _ _
   |exact sacristylaw01_Num.mono _ _
   |exact sacristylaw01_lives.mono _
   |exact LeO.none _
   |refine LeO.ite ?_ ?_
   |refine LeO.bind ?_ (fun _ => ?_)
def sacristylaw01_NatOrders.T4 : Bool × List (List Nat × List Nat):=(true,[([],[]),([],[]),([0,1],[0,1]),([],[]),([],[]),([3,4,2],[3,4]),([5],[5]),([2,6],[2,6]),([7,5],[7]),([8],[8]),([8],[8]),([9,10,8,8],[8,9,10]),([11,8],[8,11]),([8],[8]),([13,11,8],[8,13]),([14,8],[8,14]),([8],[8]),([16,14,8],[8,16]),([17,8],[8,17]),([15,18,8],[8,15,18]),([12,19,8],[8,12,19]),([8,20],[8,20])])
def sacristylaw01_NatOrders.B4 : List Nat:=[0,0,3,0,0,31,63,127,255,511,511,2047,4095,511,12287,28671,511,94207,225279,520191,1048575,2097151]
theorem sacristylaw01_NatOrders.tab4 : rtab .any (opsOf Try.f15 4) = sacristylaw01_NatOrders.T4:=by kernel_rfl
theorem sacristylaw01_NatOrders.bits4 : waitsOk sacristylaw01_NatOrders.T4.2 sacristylaw01_NatOrders.B4 = true:=by kernel_rfl
def sacristylaw01_NatOrders.T6 : Bool × List (List Nat × List Nat):=(true,[([],[]),([],[]),([0,1],[0,1]),([],[]),([],[]),([3,4,2],[3,4]),([2,5,5],[2,5]),([],[]),([],[]),([7,8,6],[7,8]),([6,9],[6,9]),([10,9],[10]),([11],[11]),([12,11,11],[11,12]),([13,11],[11,13]),([14,13,11],[11,14]),([15],[15]),([15],[15]),([16,17,15,15],[15,16,17]),([15],[15]),([15],[15]),([19,20,18,15],[15,19,20]),([18,21,21,15],[15,18,21]),([15],[15]),([15],[15]),([23,24,22,15],[15,23,24]),([22,25,15],[15,22,25]),([15,26,11],[11,15,26]),([11,27],[11,27])])
def sacristylaw01_NatOrders.B6 : List Nat:=[0,0,3,0,0,31,63,0,0,511,1023,2047,4095,8191,16383,32767,65535,65535,262143,65535,65535,2097151,4194303,65535,65535,33554431,67108863,134217727,268435455]
theorem sacristylaw01_NatOrders.tab6 : rtab .any (opsOf Try.f15 6) = sacristylaw01_NatOrders.T6:=by kernel_rfl
theorem sacristylaw01_NatOrders.bits6 : waitsOk sacristylaw01_NatOrders.T6.2 sacristylaw01_NatOrders.B6 = true:=by kernel_rfl
def sacristylaw01_NatOrders.T8 : Bool × List (List Nat × List Nat):=(true,[([],[]),([],[]),([0,1,1],[0,1]),([],[]),([2,3,2],[2,3]),([4],[4]),([5,4],[5]),([6],[6]),([6],[6]),([7,8,6,6],[6,7,8]),([9,6],[6,9]),([10,9,6],[6,10]),([11],[11]),([11],[11]),([12,13,11,11],[11,12,13]),([14,11],[11,14]),([11,15,6],[6,11,15]),([16,14,6],[6,16]),([17],[17]),([17],[17]),([18,19,17,17],[17,18,19]),([20,17],[17,20]),([17,21,6],[6,17,21]),([6,22],[6,22]),([23,20,0,1,2,3,4,5,6,7,8,9,10,11,12,13,14,15,16,17,18,19,20,21,22,23],[23])])
def sacristylaw01_NatOrders.B8 : List Nat:=[0,0,3,0,15,31,63,127,127,511,1023,2047,4095,4095,16383,32767,65535,131071,262143,262143,1048575,2097151,4194303,8388607,16777215]
theorem sacristylaw01_NatOrders.tab8 : rtab .any (opsOf Try.f15 8) = sacristylaw01_NatOrders.T8:=by kernel_rfl
theorem sacristylaw01_NatOrders.bits8 : waitsOk sacristylaw01_NatOrders.T8.2 sacristylaw01_NatOrders.B8 = true:=by kernel_rfl
set_option maxHeartbeats 8000000 in
set_option maxRecDepth 100000 in
theorem sacristylaw01_NatOrders.calls (k : Nat) (A0 : Option Addr) (c0 : Nat) (l0 : List Int) (A1 : Option Addr) (c1 : Nat) (l1 : List Int) (A2 : Option Addr) (c2 : Nat) (l2 : List Int) (r : Bool) (w : World) (hr0 : Kd.C (Kd.int .u8) w A0 l0.length l0) (hc0 : l0.length ≤ c0) (hr1 : Kd.C (Kd.int .u8) w A1 l1.length l1) (hc1 : l1.length ≤ c1) (hr2 : Kd.C (Kd.int .u8) w A2 l2.length l2) (hc2 : l2.length ≤ c2) (h : sacristylaw01_NatOrders.f k l0 l1 l2 = some r) :
  Calls Try.prog 15 #[.slice A0 l0.length c0,.slice A1 l1.length c1,.slice A2 l2.length c2] w fun e w' => e = .returned (.bool r) ∧ Below w.heap.size w w':=by
 have hu38:=Try.underlying38
 have HR0:=Aside0.mk hr0
 have HC0:=Aside0.mk hc0
 clear hr0 hc0
 have HR1:=Aside0.mk hr1
 have HC1:=Aside0.mk hc1
 clear hr1 hc1
 have HR2:=Aside0.mk hr2
 have HC2:=Aside0.mk hc2
 clear hr2 hc2
 have HB:=Aside0.mk (Below.refl w.heap.size w)
 have H : ((sacristylaw01_lives.f k).bind fun t965 => (if t965 = true then ((sacristylaw01_Num.f k l0).bind fun t966 => ((sacristylaw01_Num.f k l1).bind fun t969 => ((sacristylaw01_Num.f k l2).bind fun t972 => ((nat_Nat_Cmp.f k t966 t969).bind fun t978 => ((nat_Nat_Cmp.f k t969 t966).bind fun t979 => (if t978 = (wrap64 (-t979)) then ((nat_Nat_Cmp.f k t966 t969).bind fun t980 => ((nat_Nat_Least.f k t966).bind fun t981 => ((nat_Nat_Least.f k t969).bind fun t984 => (sacristylaw01_NatOrders.j0 k ((t980 == 0) != ((strOfNums t981).toList == (strOfNums t984).toList)) t966 t969 t972)))) else (sacristylaw01_NatOrders.j0 k true t966 t969 t972))))))) else (none))) = some r:=h
 clear h
 obtain ⟨t965,A4,H⟩:=qH H
 by_cases c5 : t965 = true
 ·subst c5
  rw [if_pos rfl] at H
  obtain ⟨t966,A6,H⟩:=qH H
  obtain ⟨t969,A7,H⟩:=qH H
  obtain ⟨t972,A8,H⟩:=qH H
  have HC9:=Aside0.mk H
  clear H
  go_enter Try.func15,Try.ntmps15
  go_upto_region 4 with (first|((with_reducible refine gate_callee (f:=34) rfl ?_);refine gL (some 10) Try.func34 #[] ?_;(with_reducible refine (sacristylaw01_lives.calls k  true _ A4.out).mono ?_);rintro e w10 ⟨rfl,hb⟩;refine ⟨_,rfl,?_⟩;replace HB:=qs HB hb;clear hb)|((with_reducible refine gate_callee (f:=40) rfl ?_);refine gL (some 13) Try.func40 #[.slice A0 l0.length c0] ?_;(with_reducible refine (sacristylaw01_Num.calls k _ _ l0 t966 _ ?side1 ?side2 A6.out).mono ?_);(case side1 => exact qCB HR0 HB);(case side2 => exact HC0.out);rintro e w11 ⟨v967,rfl,ho0,hb⟩;refine ⟨_,rfl,?_⟩;have HO968:=Aside0.mk (Kd.V_lower (Kd.V_mono (ok':=fun k_ => True) ho0 (fun k_ hk_ => trivial)) (below_size (qS HB)));replace HB:=qs HB hb;clear hb ho0)|((with_reducible refine gate_callee (f:=40) rfl ?_);refine gL (some 15) Try.func40 #[.slice A1 l1.length c1] ?_;(with_reducible refine (sacristylaw01_Num.calls k _ _ l1 t969 _ ?side1 ?side2 A7.out).mono ?_);(case side1 => exact qCB HR1 HB);(case side2 => exact HC1.out);rintro e w12 ⟨v970,rfl,ho0,hb⟩;refine ⟨_,rfl,?_⟩;replace HO968:=qVb HO968 hb;have HO971:=Aside0.mk (Kd.V_lower (Kd.V_mono (ok':=fun k_ => True) ho0 (fun k_ hk_ => trivial)) (below_size (qS HB)));replace HB:=qs HB hb;clear hb ho0)|((with_reducible refine gate_callee (f:=40) rfl ?_);refine gL (some 17) Try.func40 #[.slice A2 l2.length c2] ?_;(with_reducible refine (sacristylaw01_Num.calls k _ _ l2 t972 _ ?side1 ?side2 A8.out).mono ?_);(case side1 => exact qCB HR2 HB);(case side2 => exact HC2.out);rintro e w13 ⟨v973,rfl,ho0,hb⟩;refine ⟨_,rfl,?_⟩;replace HO968:=qVb HO968 hb;replace HO971:=qVb HO971 hb;have HO974:=Aside0.mk (Kd.V_lower (Kd.V_mono (ok':=fun k_ => True) ho0 (fun k_ hk_ => trivial)) (below_size (qS HB)));replace HB:=qs HB hb;clear hb ho0)|((with_reducible refine gate_dst (N:=7) rfl ?_);refine qX #[.slice none 0 0] 38 ?_;intro gb975 hg w14 hbox hb;replace HO968:=qVe HO968 hb hg;replace HO971:=qVe HO971 hb hg;replace HO974:=qVe HO974 hb hg;have BK975:=Aside0.mk hbox;have GE975:=qh hg HB;replace HB:=qs HB hb;clear hb hbox hg)|((with_reducible refine gate_dst (N:=8) rfl ?_);refine qX #[.slice none 0 0] 38 ?_;intro gb976 hg w15 hbox hb;replace HO968:=qVe HO968 hb hg;replace HO971:=qVe HO971 hb hg;replace HO974:=qVe HO974 hb hg;have BK976:=Aside0.mk hbox;have GE976:=qh hg HB;replace HB:=qs HB hb;have NB975_976:=ql hg BK975;have NB976_975:=qg hg BK975;replace BK975:=qb BK975 hb;clear hb hbox hg)|((with_reducible refine gate_dst (N:=9) rfl ?_);refine qX #[.slice none 0 0] 38 ?_;intro gb977 hg w16 hbox hb;replace HO968:=qVe HO968 hb hg;replace HO971:=qVe HO971 hb hg;replace HO974:=qVe HO974 hb hg;have BK977:=Aside0.mk hbox;have GE977:=qh hg HB;replace HB:=qs HB hb;have NB975_977:=ql hg BK975;have NB977_975:=qg hg BK975;replace BK975:=qb BK975 hb;have NB976_977:=ql hg BK976;have NB977_976:=qg hg BK976;replace BK976:=qb BK976 hb;clear hb hbox hg;obtain ⟨Ao17,co17,eo17⟩:=Kd.V_slice HO968.out;subst eo17;have hnb18:=NB975_976.out;have hnc18:=NB976_975.out;have hnb19:=NB975_977.out;have hnc19:=NB977_975.out;have hcz20_0:=bc BK975;have hfz20_0:=bz BK975;obtain ⟨Ao21,co21,eo21⟩:=Kd.V_slice HO971.out;subst eo21;have hnb22:=NB976_977.out;have hnc22:=NB977_976.out;have hcz23_0:=bc BK976;have hfz23_0:=bz BK976;obtain ⟨Ao24,co24,eo24⟩:=Kd.V_slice HO974.out;subst eo24;have hcz25_0:=bc BK977;have hfz25_0:=bz BK977))
  (try simp only [Act.put,List.setIfInBounds_toArray,List.set_cons_zero,List.set_cons_succ])
  go_cut [39] (fun v39 wc => ∃ (kq : Nat) (x39_8 : Bool),v39 = .bool x39_8 ∧ Aside0 (sacristylaw01_NatOrders.j0 kq x39_8 t966 t969 t972 = some r) ∧ Aside0 (kq ≤ k) ∧ Aside0 (Kd.V (Kd.int .u32) 23 wc w.heap.size (fun k_ => k_ ≠ gb975 ∧ k_ ≠ gb976 ∧ k_ ≠ gb977) (.slice Ao17 t966.length co17) t966) ∧ Aside0 (Kd.V (Kd.int .u32) 23 wc w.heap.size (fun k_ => k_ ≠ gb975 ∧ k_ ≠ gb976 ∧ k_ ≠ gb977) (.slice Ao21 t969.length co21) t969) ∧ Aside0 (Kd.V (Kd.int .u32) 23 wc w.heap.size (fun k_ => k_ ≠ gb975 ∧ k_ ≠ gb976 ∧ k_ ≠ gb977) (.slice Ao24 t972.length co24) t972) ∧ Aside0 (wc.heap[gb975]? = some (.cells #[(.slice Ao17 t966.length co17)] 38 (0,0))) ∧ Aside0 (wc.heap[gb976]? = some (.cells #[(.slice Ao21 t969.length co21)] 38 (0,0))) ∧ Aside0 (wc.heap[gb977]? = some (.cells #[(.slice Ao24 t972.length co24)] 38 (0,0))) ∧ Aside0 (Below w.heap.size w wc))
  case first =>
   have H:=HC9.out
   clear HC9
   obtain ⟨t978,A26,H⟩:=qH H
   obtain ⟨t979,A27,H⟩:=qH H
   by_cases c28 : t978 = (wrap64 (-t979))
   ·rw [if_pos c28] at H
    have c28b0 : (t978 == (wrap64 (-t979))) = true:=beq_iff_eq.mpr c28
    have c28b1 : (t978 != (wrap64 (-t979))) = false:=bne_eq_false_iff_eq.mpr c28
    clear c28
    (first|rw [c28b0]|(simp only [i64_w,i32_w];rw [c28b0])|skip)
    obtain ⟨t980,A29,H⟩:=qH H
    obtain ⟨t981,A30,H⟩:=qH H
    obtain ⟨t984,A31,H⟩:=qH H
    have H':=Aside0.mk H
    clear H
    try go_wp2
    generalize hw : (((w16.setCell ⟨gb975,0,none⟩ (.slice Ao17 t966.length co17)).setCell ⟨gb976,0,none⟩ (.slice Ao21 t969.length co21)).setCell ⟨gb977,0,none⟩ (.slice Ao24 t972.length co24)) = w32
    replace hw:=hw.symm
    replace HO968:=qVh hw HO968
    replace HO971:=qVh hw HO971
    replace HO974:=qVh hw HO974
    replace BK975:=qBp hw BK975
    replace BK976:=qBp hw BK976
    replace BK977:=qBp hw BK977
    replace HB:=qSh hw HB
    clear hw
    replace HO968:=qVw HO968
    replace HO971:=qVw HO971
    replace HO974:=qVw HO974
    replace BK975:=qbd BK975
    replace BK976:=qbd BK976
    replace BK977:=qbd BK977
    replace HB:=qsd HB
    refine start_ (n:=22) (S:=fun w' => w'.cell? ⟨gb975,0,none⟩ = some (.slice Ao17 t966.length co17) ∧ w'.cell? ⟨gb976,0,none⟩ = some (.slice Ao21 t969.length co21)) (ds:=[]) #[false,false,false,false,false,false,false,false,false,false,false,false,false,false,false,false,false,false,false,false,false,false] (by kernel_rfl) rfl rfl ⟨bc BK975,bc BK976⟩ (fun hHeld => ?_);refine with_tabW sacristylaw01_NatOrders.tab4 sacristylaw01_NatOrders.bits4 (fun HT_ HW_ => ?_)
    generalize w32.drew = w33 at HO968 HO971 HO974 BK975 BK976 BK977 HB hHeld ⊢
    refine qT 0 18 HT_ HW_ hHeld ?_
    refine qT 1 19 HT_ HW_ hHeld ?_
    refine qT 3 21 HT_ HW_ hHeld ?_
    refine qT 4 22 HT_ HW_ hHeld ?_
    refine q1 2 (some 20) HT_ rfl (fun K hK => ?_)
    refine g_ Try.func45 #[.agg #[.slice Ao17 t966.length co17],.agg #[.slice Ao21 t969.length co21]] ?_
    with_reducible refine (nat_Nat_Cmp.calls k _ _ t966 _ _ t969 t978 _ ?side1 ?side2 ?side3 ?side4 A26.out).mono ?_
    (case side1 => exact qCV HO968)
    (case side2 => exact qL HO968)
    (case side3 => exact qCV HO971)
    (case side4 => exact qL HO971)
    rintro e w34 ⟨rfl,hb⟩
    refine ⟨_,rfl,?_⟩
    replace HO968:=qVb HO968 hb
    replace HO971:=qVb HO971 hb
    replace HO974:=qVb HO974 hb
    replace BK975:=qb BK975 hb
    replace BK976:=qb BK976 hb
    replace BK977:=qb BK977 hb
    replace HB:=qs HB hb
    clear hb
    refine hK.out _ _ ⟨bc BK975,bc BK976⟩ (fun hHeld => ?_)
    clear hK K
    refine qO 20 ?_
    refine q1 5 (some 23) HT_ rfl (fun K hK => ?_)
    refine g_ Try.func45 #[.agg #[.slice Ao21 t969.length co21],.agg #[.slice Ao17 t966.length co17]] ?_
    with_reducible refine (nat_Nat_Cmp.calls k _ _ t969 _ _ t966 t979 _ ?side1 ?side2 ?side3 ?side4 A27.out).mono ?_
    (case side1 => exact qCV HO971)
    (case side2 => exact qL HO971)
    (case side3 => exact qCV HO968)
    (case side4 => exact qL HO968)
    rintro e w35 ⟨rfl,hb⟩
    refine ⟨_,rfl,?_⟩
    replace HO968:=qVb HO968 hb
    replace HO971:=qVb HO971 hb
    replace HO974:=qVb HO974 hb
    replace BK975:=qb BK975 hb
    replace BK976:=qb BK976 hb
    replace BK977:=qb BK977 hb
    replace HB:=qs HB hb
    clear hb
    refine hK.out _ _ ⟨bc BK975,bc BK976⟩ (fun hHeld => ?_)
    clear hK K
    refine qO 23 ?_
    refine qP 6 24 HT_ ?_
    refine qP 7 25 HT_ ?_
    refine qP 8 26 HT_ ?_
    refine qT 9 27 HT_ HW_ hHeld ?_
    refine qT 10 28 HT_ HW_ hHeld ?_
    refine qT 13 31 HT_ HW_ hHeld ?_
    refine qT 16 34 HT_ HW_ hHeld ?_
    refine q1 11 (some 29) HT_ rfl (fun K hK => ?_)
    refine g_ Try.func45 #[.agg #[.slice Ao17 t966.length co17],.agg #[.slice Ao21 t969.length co21]] ?_
    with_reducible refine (nat_Nat_Cmp.calls k _ _ t966 _ _ t969 t980 _ ?side1 ?side2 ?side3 ?side4 A29.out).mono ?_
    (case side1 => exact qCV HO968)
    (case side2 => exact qL HO968)
    (case side3 => exact qCV HO971)
    (case side4 => exact qL HO971)
    rintro e w36 ⟨rfl,hb⟩
    refine ⟨_,rfl,?_⟩
    replace HO968:=qVb HO968 hb
    replace HO971:=qVb HO971 hb
    replace HO974:=qVb HO974 hb
    replace BK975:=qb BK975 hb
    replace BK976:=qb BK976 hb
    replace BK977:=qb BK977 hb
    replace HB:=qs HB hb
    clear hb
    refine hK.out _ _ ⟨bc BK975,bc BK976⟩ (fun hHeld => ?_)
    clear hK K
    refine qO 29 ?_
    refine qP 12 30 HT_ ?_
    refine q1 14 (some 32) HT_ rfl (fun K hK => ?_)
    refine g_ Try.func61 #[.agg #[.slice Ao17 t966.length co17]] ?_
    with_reducible refine (nat_Nat_Least.calls k _ _ t966 t981 _ ?side1 ?side2 A30.out).mono ?_
    (case side1 => exact qCV HO968)
    (case side2 => exact qL HO968)
    rintro e w37 ⟨v982,rfl,ho0,hb⟩
    refine ⟨_,rfl,?_⟩
    replace HO968:=qVd HO968 ho0 hb
    replace HO971:=qVd HO971 ho0 hb
    replace HO974:=qVd HO974 ho0 hb
    have HO983:=Aside0.mk (Kd.R_lower ho0 (below_size (qS HB)))
    replace BK975:=qb BK975 hb
    replace BK976:=qb BK976 hb
    replace BK977:=qb BK977 hb
    replace HB:=qs HB hb
    clear hb ho0
    refine hK.out _ _ ⟨bc BK975,bc BK976⟩ (fun hHeld => ?_)
    clear hK K
    refine qO 32 ?_
    refine join_ (σ:=Value) 3 #[true,true,true,true,true,true,true,true,true,true,true,true,true,true,true,true,true,true,true,false,false,false] (fun s_ => [(33,.string (strOfNums t981)),(35,s_),(36,.string (strOfNums t984))]) (fun s_ w' => (w'.cell? ⟨gb975,0,none⟩ = some (.slice Ao17 t966.length co17) ∧ w'.cell? ⟨gb976,0,none⟩ = some (.slice Ao21 t969.length co21)) ∧ (Kd.V (Kd.int .u32) 23 w' w.heap.size (fun k_ => some k_ ≠ (v982 : Value).ownBlock ∧ some k_ ≠ (s_ : Value).ownBlock ∧ k_ ≠ gb975 ∧ k_ ≠ gb976 ∧ k_ ≠ gb977) (.slice Ao17 t966.length co17) t966) ∧ (Kd.V (Kd.int .u32) 23 w' w.heap.size (fun k_ => some k_ ≠ (v982 : Value).ownBlock ∧ some k_ ≠ (s_ : Value).ownBlock ∧ k_ ≠ gb975 ∧ k_ ≠ gb976 ∧ k_ ≠ gb977) (.slice Ao21 t969.length co21) t969) ∧ (Kd.V (Kd.int .u32) 23 w' w.heap.size (fun k_ => some k_ ≠ (v982 : Value).ownBlock ∧ some k_ ≠ (s_ : Value).ownBlock ∧ k_ ≠ gb975 ∧ k_ ≠ gb976 ∧ k_ ≠ gb977) (.slice Ao24 t972.length co24) t972) ∧ (Kd.R (Kd.int .u8) 5 w' w.heap.size (fun k_ => some k_ ≠ (s_ : Value).ownBlock) v982 t981) ∧ (Kd.R (Kd.int .u8) 5 w' w.heap.size (fun k_ => some k_ ≠ (v982 : Value).ownBlock) s_ t984) ∧ (w'.heap[gb975]? = some (.cells #[.slice Ao17 t966.length co17] 38 (0,0))) ∧ (w'.heap[gb976]? = some (.cells #[.slice Ao21 t969.length co21] 38 (0,0))) ∧ (w'.heap[gb977]? = some (.cells #[.slice Ao24 t972.length co24] 38 (0,0))) ∧ (Below w.heap.size w w')) ?_ ?_
    rotate_left
    ·intro hCont
     refine q2 15 17 (some 33) (some 35) HT_ rfl rfl (fun K hK => ?_) (fun K hK => ?_)
     ·skip
      have hcv38:=own_string (P:=Try.prog) Try.underlying22 Try.underlying5 Try.underlying9 (Kd.own_of_R HO983.out)
      refine value_ (w1:=?_) (v:=?_) (by rfl) rfl ?_ ?_
      rotate_left 2
      ·go_simp
       constructor
       ·rfl
       ·rfl
      clear hcv38
      refine hK.out _ _ ⟨bc BK975,bc BK976⟩ (fun hHeld => ?_)
      clear hK K
      refine qO 33 ?_
      refine q1 17 (some 35) HT_ rfl (fun K hK => ?_)
      refine g_ Try.func61 #[.agg #[.slice Ao21 t969.length co21]] ?_
      with_reducible refine (nat_Nat_Least.calls k _ _ t969 t984 _ ?side1 ?side2 A31.out).mono ?_
      (case side1 => exact qCV HO971)
      (case side2 => exact qL HO971)
      rintro e w39 ⟨v985,rfl,ho0,hb⟩
      refine ⟨_,rfl,?_⟩
      replace HO968:=qVd HO968 ho0 hb
      replace HO971:=qVd HO971 ho0 hb
      replace HO974:=qVd HO974 ho0 hb
      have HO986:=Aside0.mk (Kd.R_lower (Kd.R_new' ho0 (Kd.R_lt (qRm HO983))) (below_size (qS HB)))
      replace HO983:=qRd HO983 ho0 hb
      replace BK975:=qb BK975 hb
      replace BK976:=qb BK976 hb
      replace BK977:=qb BK977 hb
      replace HB:=qs HB hb
      clear hb ho0
      refine hK.out _ _ ⟨bc BK975,bc BK976⟩ (fun hHeld => ?_)
      clear hK K
      refine qO 35 ?_
      refine q1 18 (some 36) HT_ rfl (fun K hK => ?_)
      have hcv40:=own_string (P:=Try.prog) Try.underlying22 Try.underlying5 Try.underlying9 (Kd.own_of_R HO986.out)
      refine value_ (w1:=?_) (v:=?_) (by rfl) rfl ?_ ?_
      rotate_left 2
      ·go_simp
       constructor
       ·rfl
       ·rfl
      clear hcv40
      refine hK.out _ _ ⟨bc BK975,bc BK976⟩ (fun hHeld => ?_)
      clear hK K
      refine qO 36 ?_
      exact norm_ (by simp only [putAll,Act.put,List.setIfInBounds_toArray,List.set_cons_zero,List.set_cons_succ]) (hCont (v985) _ ⟨hHeld,(qVm HO968),(qVm HO971),(qVm HO974),(qRm HO983),(qRm HO986),(qB BK975.out),(qB BK976.out),(qB BK977.out),(qS HB)⟩)
     ·skip
      refine g_ Try.func61 #[.agg #[.slice Ao21 t969.length co21]] ?_
      with_reducible refine (nat_Nat_Least.calls k _ _ t969 t984 _ ?side1 ?side2 A31.out).mono ?_
      (case side1 => exact qCV HO971)
      (case side2 => exact qL HO971)
      rintro e w38 ⟨v985,rfl,ho0,hb⟩
      refine ⟨_,rfl,?_⟩
      replace HO968:=qVd HO968 ho0 hb
      replace HO971:=qVd HO971 ho0 hb
      replace HO974:=qVd HO974 ho0 hb
      have HO986:=Aside0.mk (Kd.R_lower (Kd.R_new' ho0 (Kd.R_lt (qRm HO983))) (below_size (qS HB)))
      replace HO983:=qRd HO983 ho0 hb
      replace BK975:=qb BK975 hb
      replace BK976:=qb BK976 hb
      replace BK977:=qb BK977 hb
      replace HB:=qs HB hb
      clear hb ho0
      refine hK.out _ _ ⟨bc BK975,bc BK976⟩ (fun hHeld => ?_)
      clear hK K
      refine qO 35 ?_
      refine q2 15 18 (some 33) (some 36) HT_ rfl rfl (fun K hK => ?_) (fun K hK => ?_)
      ·skip
       have hcv39:=own_string (P:=Try.prog) Try.underlying22 Try.underlying5 Try.underlying9 (Kd.own_of_R HO983.out)
       refine value_ (w1:=?_) (v:=?_) (by rfl) rfl ?_ ?_
       rotate_left 2
       ·go_simp
        constructor
        ·rfl
        ·rfl
       clear hcv39
       refine hK.out _ _ ⟨bc BK975,bc BK976⟩ (fun hHeld => ?_)
       clear hK K
       refine qO 33 ?_
       refine q1 18 (some 36) HT_ rfl (fun K hK => ?_)
       have hcv40:=own_string (P:=Try.prog) Try.underlying22 Try.underlying5 Try.underlying9 (Kd.own_of_R HO986.out)
       refine value_ (w1:=?_) (v:=?_) (by rfl) rfl ?_ ?_
       rotate_left 2
       ·go_simp
        constructor
        ·rfl
        ·rfl
       clear hcv40
       refine hK.out _ _ ⟨bc BK975,bc BK976⟩ (fun hHeld => ?_)
       clear hK K
       refine qO 36 ?_
       exact norm_ (by simp only [putAll,Act.put,List.setIfInBounds_toArray,List.set_cons_zero,List.set_cons_succ]) (hCont (v985) _ ⟨hHeld,(qVm HO968),(qVm HO971),(qVm HO974),(qRm HO983),(qRm HO986),(qB BK975.out),(qB BK976.out),(qB BK977.out),(qS HB)⟩)
      ·skip
       have hcv39:=own_string (P:=Try.prog) Try.underlying22 Try.underlying5 Try.underlying9 (Kd.own_of_R HO986.out)
       refine value_ (w1:=?_) (v:=?_) (by rfl) rfl ?_ ?_
       rotate_left 2
       ·go_simp
        constructor
        ·rfl
        ·rfl
       clear hcv39
       refine hK.out _ _ ⟨bc BK975,bc BK976⟩ (fun hHeld => ?_)
       clear hK K
       refine qO 36 ?_
       refine q1 15 (some 33) HT_ rfl (fun K hK => ?_)
       have hcv40:=own_string (P:=Try.prog) Try.underlying22 Try.underlying5 Try.underlying9 (Kd.own_of_R HO983.out)
       refine value_ (w1:=?_) (v:=?_) (by rfl) rfl ?_ ?_
       rotate_left 2
       ·go_simp
        constructor
        ·rfl
        ·rfl
       clear hcv40
       refine hK.out _ _ ⟨bc BK975,bc BK976⟩ (fun hHeld => ?_)
       clear hK K
       refine qO 33 ?_
       exact norm_ (by simp only [putAll,Act.put,List.setIfInBounds_toArray,List.set_cons_zero,List.set_cons_succ]) (hCont (v985) _ ⟨hHeld,(qVm HO968),(qVm HO971),(qVm HO974),(qRm HO983),(qRm HO986),(qB BK975.out),(qB BK976.out),(qB BK977.out),(qS HB)⟩)
    rintro v985 w41 ⟨hS_,h0_,h1_,h2_,h3_,h4_,h5_,h6_,h7_,h8_⟩
    have n0_ : Aside0 (Kd.V (Kd.int .u32) 23 w41 w.heap.size (fun k_ => some k_ ≠ (v982 : Value).ownBlock ∧ some k_ ≠ (v985 : Value).ownBlock ∧ k_ ≠ gb975 ∧ k_ ≠ gb976 ∧ k_ ≠ gb977) (.slice Ao17 t966.length co17) t966):=⟨h0_⟩
    have n1_ : Aside0 (Kd.V (Kd.int .u32) 23 w41 w.heap.size (fun k_ => some k_ ≠ (v982 : Value).ownBlock ∧ some k_ ≠ (v985 : Value).ownBlock ∧ k_ ≠ gb975 ∧ k_ ≠ gb976 ∧ k_ ≠ gb977) (.slice Ao21 t969.length co21) t969):=⟨h1_⟩
    have n2_ : Aside0 (Kd.V (Kd.int .u32) 23 w41 w.heap.size (fun k_ => some k_ ≠ (v982 : Value).ownBlock ∧ some k_ ≠ (v985 : Value).ownBlock ∧ k_ ≠ gb975 ∧ k_ ≠ gb976 ∧ k_ ≠ gb977) (.slice Ao24 t972.length co24) t972):=⟨h2_⟩
    have n3_ : Aside0 (Kd.R (Kd.int .u8) 5 w41 w.heap.size (fun k_ => some k_ ≠ (v985 : Value).ownBlock) v982 t981):=⟨h3_⟩
    have n4_ : Aside0 (Kd.R (Kd.int .u8) 5 w41 w.heap.size (fun k_ => some k_ ≠ (v982 : Value).ownBlock) v985 t984):=⟨h4_⟩
    have n5_ : Aside0 (w41.heap[gb975]? = some (.cells #[.slice Ao17 t966.length co17] 38 (0,0))):=⟨h5_⟩
    have n6_ : Aside0 (w41.heap[gb976]? = some (.cells #[.slice Ao21 t969.length co21] 38 (0,0))):=⟨h6_⟩
    have n7_ : Aside0 (w41.heap[gb977]? = some (.cells #[.slice Ao24 t972.length co24] 38 (0,0))):=⟨h7_⟩
    have n8_ : Aside0 (Below w.heap.size w w41):=⟨h8_⟩
    clear HO968
    clear HO971
    clear HO974
    clear BK975
    clear BK976
    clear BK977
    clear HB
    clear h0_ h1_ h2_ h3_ h4_ h5_ h6_ h7_ h8_
    have HO968:=n0_
    have HO971:=n1_
    have HO974:=n2_
    have HO983:=n3_
    have HO986:=n4_
    have BK975:=n5_
    have BK976:=n6_
    have BK977:=n7_
    have HB:=n8_
    clear n0_ n1_ n2_ n3_ n4_ n5_ n6_ n7_ n8_
    have hHeld : w41.cell? ⟨gb975,0,none⟩ = some (.slice Ao17 t966.length co17) ∧ w41.cell? ⟨gb976,0,none⟩ = some (.slice Ao21 t969.length co21):=hS_
    refine norm_ (a':=?_) ?_ ?_
    rotate_left
    ·simp only [putAll,Act.put,List.setIfInBounds_toArray,List.set_cons_zero,List.set_cons_succ]
     rfl
    refine qP 19 37 HT_ ?_
    refine qP 20 38 HT_ ?_
    refine qP 21 39 HT_ ?_
    refine qD HT_ ?_
    try go_wp2
    go_meet
    case rel => exact ⟨_,(((t980 == 0) != ((strOfNums t981).toList == (strOfNums t984).toList))),(by first|rfl|(simp;done)|(simp [*];done)),H',⟨by first|omega|exact Nat.le_refl _⟩,⟨qVm HO968⟩,⟨qVm HO971⟩,⟨qVm HO974⟩,⟨qB BK975.out⟩,⟨qB BK976.out⟩,⟨qB BK977.out⟩,⟨qS HB⟩⟩
   ·rw [if_neg c28] at H
    have c28b0 : (t978 == (wrap64 (-t979))) = false:=beq_eq_false_iff_ne.mpr c28
    have c28b1 : (t978 != (wrap64 (-t979))) = true:=bne_iff_ne.mpr c28
    (first|rw [c28b0]|(simp only [i64_w,i32_w];rw [c28b0])|skip)
    have H':=Aside0.mk H
    clear H
    try go_wp2
    generalize hw : (((w16.setCell ⟨gb975,0,none⟩ (.slice Ao17 t966.length co17)).setCell ⟨gb976,0,none⟩ (.slice Ao21 t969.length co21)).setCell ⟨gb977,0,none⟩ (.slice Ao24 t972.length co24)) = w42
    replace hw:=hw.symm
    replace HO968:=qVh hw HO968
    replace HO971:=qVh hw HO971
    replace HO974:=qVh hw HO974
    replace BK975:=qBp hw BK975
    replace BK976:=qBp hw BK976
    replace BK977:=qBp hw BK977
    replace HB:=qSh hw HB
    clear hw
    replace HO968:=qVw HO968
    replace HO971:=qVw HO971
    replace HO974:=qVw HO974
    replace BK975:=qbd BK975
    replace BK976:=qbd BK976
    replace BK977:=qbd BK977
    replace HB:=qsd HB
    refine start_ (n:=22) (S:=fun w' => w'.cell? ⟨gb975,0,none⟩ = some (.slice Ao17 t966.length co17) ∧ w'.cell? ⟨gb976,0,none⟩ = some (.slice Ao21 t969.length co21)) (ds:=[]) #[false,false,false,false,false,false,false,false,false,false,false,false,false,false,false,false,false,false,false,false,false,false] (by kernel_rfl) rfl rfl ⟨bc BK975,bc BK976⟩ (fun hHeld => ?_);refine with_tabW sacristylaw01_NatOrders.tab4 sacristylaw01_NatOrders.bits4 (fun HT_ HW_ => ?_)
    generalize w42.drew = w43 at HO968 HO971 HO974 BK975 BK976 BK977 HB hHeld ⊢
    refine qT 0 18 HT_ HW_ hHeld ?_
    refine qT 1 19 HT_ HW_ hHeld ?_
    refine qT 3 21 HT_ HW_ hHeld ?_
    refine qT 4 22 HT_ HW_ hHeld ?_
    refine q1 2 (some 20) HT_ rfl (fun K hK => ?_)
    refine g_ Try.func45 #[.agg #[.slice Ao17 t966.length co17],.agg #[.slice Ao21 t969.length co21]] ?_
    with_reducible refine (nat_Nat_Cmp.calls k _ _ t966 _ _ t969 t978 _ ?side1 ?side2 ?side3 ?side4 A26.out).mono ?_
    (case side1 => exact qCV HO968)
    (case side2 => exact qL HO968)
    (case side3 => exact qCV HO971)
    (case side4 => exact qL HO971)
    rintro e w44 ⟨rfl,hb⟩
    refine ⟨_,rfl,?_⟩
    replace HO968:=qVb HO968 hb
    replace HO971:=qVb HO971 hb
    replace HO974:=qVb HO974 hb
    replace BK975:=qb BK975 hb
    replace BK976:=qb BK976 hb
    replace BK977:=qb BK977 hb
    replace HB:=qs HB hb
    clear hb
    refine hK.out _ _ ⟨bc BK975,bc BK976⟩ (fun hHeld => ?_)
    clear hK K
    refine qO 20 ?_
    refine q1 5 (some 23) HT_ rfl (fun K hK => ?_)
    refine g_ Try.func45 #[.agg #[.slice Ao21 t969.length co21],.agg #[.slice Ao17 t966.length co17]] ?_
    with_reducible refine (nat_Nat_Cmp.calls k _ _ t969 _ _ t966 t979 _ ?side1 ?side2 ?side3 ?side4 A27.out).mono ?_
    (case side1 => exact qCV HO971)
    (case side2 => exact qL HO971)
    (case side3 => exact qCV HO968)
    (case side4 => exact qL HO968)
    rintro e w45 ⟨rfl,hb⟩
    refine ⟨_,rfl,?_⟩
    replace HO968:=qVb HO968 hb
    replace HO971:=qVb HO971 hb
    replace HO974:=qVb HO974 hb
    replace BK975:=qb BK975 hb
    replace BK976:=qb BK976 hb
    replace BK977:=qb BK977 hb
    replace HB:=qs HB hb
    clear hb
    refine hK.out _ _ ⟨bc BK975,bc BK976⟩ (fun hHeld => ?_)
    clear hK K
    refine qO 23 ?_
    refine qP 6 24 HT_ ?_
    refine qP 7 25 HT_ ?_
    refine qP 8 26 HT_ ?_
    refine qU 9 27 HT_ ?_
    refine qU 10 28 HT_ ?_
    refine qU 11 29 HT_ ?_
    refine qU 12 30 HT_ ?_
    refine qU 13 31 HT_ ?_
    refine qU 14 32 HT_ ?_
    refine qU 15 33 HT_ ?_
    refine qU 16 34 HT_ ?_
    refine qU 17 35 HT_ ?_
    refine qU 18 36 HT_ ?_
    refine qU 19 37 HT_ ?_
    refine qU 20 38 HT_ ?_
    refine qP 21 39 HT_ ?_
    refine qD HT_ ?_
    try go_wp2
    go_meet
    case rel => exact ⟨_,(true),(by first|rfl|(simp;done)|(simp [*];done)),H',⟨by first|omega|exact Nat.le_refl _⟩,⟨qVm HO968⟩,⟨qVm HO971⟩,⟨qVm HO974⟩,⟨qB BK975.out⟩,⟨qB BK976.out⟩,⟨qB BK977.out⟩,⟨qS HB⟩⟩
  case rest =>
   clear HC9
   try clear c2
   try clear p2
   try clear hcv3
   try clear c4
   try clear hcv4
   try clear c6
   try clear p6
   try clear c28
   try clear c28b0
   try clear c28b1
   try clear hcv38
   try clear hcv39
   try clear hcv40
   try clear c45
   obtain ⟨kq,x39_8,rfl,HA,HJ8,HO_976000,HO_977000,HO_978000,BK975,BK976,BK977,HB⟩:=hcut
   cases kq with
   |zero => exact absurd HA.out (by simp [sacristylaw01_NatOrders.j0])
   |succ kj8 =>
    have H:=HA.out
    clear HA
    simp only [sacristylaw01_NatOrders.j0] at H
    by_cases c46 : x39_8 = true
    ·subst c46
     rw [if_pos rfl] at H
     exact absurd H (by simp)
    ·replace c46:=Bool.eq_false_iff.mpr c46
     subst c46
     rw [qFT] at H
     have HC47:=Aside0.mk H
     clear H
     go_upto_region 6 with (fail)
     go_cut [68] (fun v68 wc => ∃ (kq : Nat) (x68_46 : Bool),v68 = .bool x68_46 ∧ Aside0 (sacristylaw01_NatOrders.j1 kq x68_46 t966 t969 t972 = some r) ∧ Aside0 (kq ≤ kj8) ∧ Aside0 (Kd.V (Kd.int .u32) 23 wc w.heap.size (fun k_ => k_ ≠ gb975 ∧ k_ ≠ gb976 ∧ k_ ≠ gb977) (.slice Ao17 t966.length co17) t966) ∧ Aside0 (Kd.V (Kd.int .u32) 23 wc w.heap.size (fun k_ => k_ ≠ gb975 ∧ k_ ≠ gb976 ∧ k_ ≠ gb977) (.slice Ao21 t969.length co21) t969) ∧ Aside0 (Kd.V (Kd.int .u32) 23 wc w.heap.size (fun k_ => k_ ≠ gb975 ∧ k_ ≠ gb976 ∧ k_ ≠ gb977) (.slice Ao24 t972.length co24) t972) ∧ Aside0 (wc.heap[gb975]? = some (.cells #[(.slice Ao17 t966.length co17)] 38 (0,0))) ∧ Aside0 (wc.heap[gb976]? = some (.cells #[(.slice Ao21 t969.length co21)] 38 (0,0))) ∧ Aside0 (wc.heap[gb977]? = some (.cells #[(.slice Ao24 t972.length co24)] 38 (0,0))) ∧ Aside0 (Below w.heap.size w wc))
     case first =>
      have H:=HC47.out
      clear HC47
      obtain ⟨t987,A48,H⟩:=qH H
      obtain ⟨t990,A49,H⟩:=qH H
      obtain ⟨t993,A50,H⟩:=qH H
      obtain ⟨t994,A51,H⟩:=qH H
      by_cases c52 : t993 = t994
      ·rw [if_pos c52] at H
       have c52b0 : (t993 == t994) = true:=beq_iff_eq.mpr c52
       have c52b1 : (t993 != t994) = false:=bne_eq_false_iff_eq.mpr c52
       clear c52
       (first|rw [c52b0]|(simp only [i64_w,i32_w];rw [c52b0])|skip)
       obtain ⟨t995,A53,H⟩:=qH H
       by_cases c54 : t995 = true
       ·subst c54
        rw [if_pos rfl] at H
        have H':=Aside0.mk H
        clear H
        try go_wp2
        replace HO_976000:=qVw HO_976000
        replace HO_977000:=qVw HO_977000
        replace HO_978000:=qVw HO_978000
        replace BK975:=qbd BK975
        replace BK976:=qbd BK976
        replace BK977:=qbd BK977
        replace HB:=qsd HB
        refine start_ (n:=29) (S:=fun w' => w'.cell? ⟨gb975,0,none⟩ = some (.slice Ao17 t966.length co17) ∧ w'.cell? ⟨gb977,0,none⟩ = some (.slice Ao24 t972.length co24) ∧ w'.cell? ⟨gb976,0,none⟩ = some (.slice Ao21 t969.length co21)) (ds:=[]) #[false,false,false,false,false,false,false,false,false,false,false,false,false,false,false,false,false,false,false,false,false,false,false,false,false,false,false,false,false] (by kernel_rfl) rfl rfl ⟨bc BK975,bc BK977,bc BK976⟩ (fun hHeld => ?_);refine with_tabW sacristylaw01_NatOrders.tab6 sacristylaw01_NatOrders.bits6 (fun HT_ HW_ => ?_)
        generalize wc.drew = w55 at HO_976000 HO_977000 HO_978000 BK975 BK976 BK977 HB hHeld ⊢
        refine qT 0 40 HT_ HW_ hHeld ?_
        refine qT 1 41 HT_ HW_ hHeld ?_
        refine qT 3 43 HT_ HW_ hHeld ?_
        refine qT 4 44 HT_ HW_ hHeld ?_
        refine qT 7 47 HT_ HW_ hHeld ?_
        refine qT 8 48 HT_ HW_ hHeld ?_
        refine q1 2 (some 42) HT_ rfl (fun K hK => ?_)
        refine g_ Try.func60 #[.agg #[.slice Ao17 t966.length co17],.agg #[.slice Ao24 t972.length co24]] ?_
        with_reducible refine (nat_Nat_Add.calls kj8 _ _ t966 _ _ t972 t987 _ ?side1 ?side2 ?side3 ?side4 A48.out).mono ?_
        (case side1 => exact qCV HO_976000)
        (case side2 => exact qL HO_976000)
        (case side3 => exact qCV HO_978000)
        (case side4 => exact qL HO_978000)
        rintro e w56 ⟨v988,rfl,ho0,hb⟩
        refine ⟨_,rfl,?_⟩
        replace HO_976000:=qVb HO_976000 hb
        replace HO_977000:=qVb HO_977000 hb
        replace HO_978000:=qVb HO_978000 hb
        have HO989:=Aside0.mk (Kd.V_lower (Kd.V_mono (ok':=fun k_ => k_ ≠ gb975 ∧ k_ ≠ gb976 ∧ k_ ≠ gb977) ho0 (fun k_ hk_ => ⟨(Kd.freshB (qB BK975.out) k_ hk_),(Kd.freshB (qB BK976.out) k_ hk_),(Kd.freshB (qB BK977.out) k_ hk_)⟩)) (below_size (qS HB)))
        replace BK975:=qb BK975 hb
        replace BK976:=qb BK976 hb
        replace BK977:=qb BK977 hb
        replace HB:=qs HB hb
        clear hb ho0
        refine hK.out _ _ ⟨bc BK975,bc BK977,bc BK976⟩ (fun hHeld => ?_)
        clear hK K
        refine qO 42 ?_
        refine q1 5 (some 45) HT_ rfl (fun K hK => ?_)
        refine g_ Try.func60 #[.agg #[.slice Ao21 t969.length co21],.agg #[.slice Ao24 t972.length co24]] ?_
        with_reducible refine (nat_Nat_Add.calls kj8 _ _ t969 _ _ t972 t990 _ ?side1 ?side2 ?side3 ?side4 A49.out).mono ?_
        (case side1 => exact qCV HO_977000)
        (case side2 => exact qL HO_977000)
        (case side3 => exact qCV HO_978000)
        (case side4 => exact qL HO_978000)
        rintro e w57 ⟨v991,rfl,ho0,hb⟩
        refine ⟨_,rfl,?_⟩
        replace HO_976000:=qVb HO_976000 hb
        replace HO_977000:=qVb HO_977000 hb
        replace HO_978000:=qVb HO_978000 hb
        replace HO989:=qVb HO989 hb
        have HO992:=Aside0.mk (Kd.V_lower (Kd.V_mono (ok':=fun k_ => k_ ≠ gb975 ∧ k_ ≠ gb976 ∧ k_ ≠ gb977) ho0 (fun k_ hk_ => ⟨(Kd.freshB (qB BK975.out) k_ hk_),(Kd.freshB (qB BK976.out) k_ hk_),(Kd.freshB (qB BK977.out) k_ hk_)⟩)) (below_size (qS HB)))
        replace BK975:=qb BK975 hb
        replace BK976:=qb BK976 hb
        replace BK977:=qb BK977 hb
        replace HB:=qs HB hb
        clear hb ho0
        obtain ⟨Ao58,co58,eo58⟩:=Kd.V_slice HO989.out
        (first|subst eo58|(injection eo58 with f1_ f2_ f3_;have f4_:=f1_.symm;have f5_:=f3_.symm;clear f1_ f2_ f3_;subst f4_;subst f5_))
        obtain ⟨Ao59,co59,eo59⟩:=Kd.V_slice HO992.out
        (first|subst eo59|(injection eo59 with f1_ f2_ f3_;have f4_:=f1_.symm;have f5_:=f3_.symm;clear f1_ f2_ f3_;subst f4_;subst f5_))
        refine hK.out _ _ ⟨bc BK975,bc BK977,bc BK976⟩ (fun hHeld => ?_)
        clear hK K
        refine qO 45 ?_
        refine q1 6 (some 46) HT_ rfl (fun K hK => ?_)
        refine g_ Try.func45 #[.agg #[.slice Ao58 t987.length co58],.agg #[.slice Ao59 t990.length co59]] ?_
        with_reducible refine (nat_Nat_Cmp.calls kj8 _ _ t987 _ _ t990 t993 _ ?side1 ?side2 ?side3 ?side4 A50.out).mono ?_
        (case side1 => exact qCV HO989)
        (case side2 => exact qL HO989)
        (case side3 => exact qCV HO992)
        (case side4 => exact qL HO992)
        rintro e w60 ⟨rfl,hb⟩
        refine ⟨_,rfl,?_⟩
        replace HO_976000:=qVb HO_976000 hb
        replace HO_977000:=qVb HO_977000 hb
        replace HO_978000:=qVb HO_978000 hb
        replace HO989:=qVb HO989 hb
        replace HO992:=qVb HO992 hb
        replace BK975:=qb BK975 hb
        replace BK976:=qb BK976 hb
        replace BK977:=qb BK977 hb
        replace HB:=qs HB hb
        clear hb
        refine hK.out _ _ ⟨bc BK975,bc BK977,bc BK976⟩ (fun hHeld => ?_)
        clear hK K
        refine qO 46 ?_
        refine q1 9 (some 49) HT_ rfl (fun K hK => ?_)
        refine g_ Try.func45 #[.agg #[.slice Ao17 t966.length co17],.agg #[.slice Ao21 t969.length co21]] ?_
        with_reducible refine (nat_Nat_Cmp.calls kj8 _ _ t966 _ _ t969 t994 _ ?side1 ?side2 ?side3 ?side4 A51.out).mono ?_
        (case side1 => exact qCV HO_976000)
        (case side2 => exact qL HO_976000)
        (case side3 => exact qCV HO_977000)
        (case side4 => exact qL HO_977000)
        rintro e w61 ⟨rfl,hb⟩
        refine ⟨_,rfl,?_⟩
        replace HO_976000:=qVb HO_976000 hb
        replace HO_977000:=qVb HO_977000 hb
        replace HO_978000:=qVb HO_978000 hb
        replace HO989:=qVb HO989 hb
        replace HO992:=qVb HO992 hb
        replace BK975:=qb BK975 hb
        replace BK976:=qb BK976 hb
        replace BK977:=qb BK977 hb
        replace HB:=qs HB hb
        clear hb
        refine hK.out _ _ ⟨bc BK975,bc BK977,bc BK976⟩ (fun hHeld => ?_)
        clear hK K
        refine qO 49 ?_
        refine qP 10 50 HT_ ?_
        refine qP 11 51 HT_ ?_
        refine qT 12 52 HT_ HW_ hHeld ?_
        refine q1 13 (some 53) HT_ rfl (fun K hK => ?_)
        refine g_ Try.func44 #[.agg #[.slice Ao24 t972.length co24]] ?_
        with_reducible refine (nat_Nat_Zero.calls _ _ t972 true _ ?side1 ?side2 A53.out).mono ?_
        (case side1 => exact qCV HO_978000)
        (case side2 => exact qL HO_978000)
        rintro e w62 ⟨rfl,hb⟩
        refine ⟨_,rfl,?_⟩
        replace HO_976000:=qVb HO_976000 hb
        replace HO_977000:=qVb HO_977000 hb
        replace HO_978000:=qVb HO_978000 hb
        replace HO989:=qVb HO989 hb
        replace HO992:=qVb HO992 hb
        replace BK975:=qb BK975 hb
        replace BK976:=qb BK976 hb
        replace BK977:=qb BK977 hb
        replace HB:=qs HB hb
        clear hb
        refine hK.out _ _ ⟨bc BK975,bc BK977,bc BK976⟩ (fun hHeld => ?_)
        clear hK K
        refine qO 53 ?_
        refine qP 14 54 HT_ ?_
        refine qP 15 55 HT_ ?_
        refine qU 16 56 HT_ ?_
        refine qU 17 57 HT_ ?_
        refine qU 18 58 HT_ ?_
        refine qU 19 59 HT_ ?_
        refine qU 20 60 HT_ ?_
        refine qU 21 61 HT_ ?_
        refine qU 22 62 HT_ ?_
        refine qU 23 63 HT_ ?_
        refine qU 24 64 HT_ ?_
        refine qU 25 65 HT_ ?_
        refine qU 26 66 HT_ ?_
        refine qP 27 67 HT_ ?_
        refine qP 28 68 HT_ ?_
        refine qD HT_ ?_
        try go_wp2
        go_meet
        case rel => exact ⟨_,(false),(by first|rfl|(simp;done)|(simp [*];done)),H',⟨by have:=HJ8.out;first|omega|exact Nat.le_refl _⟩,⟨qVm HO_976000⟩,⟨qVm HO_977000⟩,⟨qVm HO_978000⟩,⟨qB BK975.out⟩,⟨qB BK976.out⟩,⟨qB BK977.out⟩,⟨qS HB⟩⟩
       ·replace c54:=Bool.eq_false_iff.mpr c54
        subst c54
        rw [qFT] at H
        obtain ⟨t996,A63,H⟩:=qH H
        obtain ⟨t999,A64,H⟩:=qH H
        obtain ⟨t1002,A65,H⟩:=qH H
        obtain ⟨t1003,A66,H⟩:=qH H
        have H':=Aside0.mk H
        clear H
        try go_wp2
        replace HO_976000:=qVw HO_976000
        replace HO_977000:=qVw HO_977000
        replace HO_978000:=qVw HO_978000
        replace BK975:=qbd BK975
        replace BK976:=qbd BK976
        replace BK977:=qbd BK977
        replace HB:=qsd HB
        refine start_ (n:=29) (S:=fun w' => w'.cell? ⟨gb975,0,none⟩ = some (.slice Ao17 t966.length co17) ∧ w'.cell? ⟨gb977,0,none⟩ = some (.slice Ao24 t972.length co24) ∧ w'.cell? ⟨gb976,0,none⟩ = some (.slice Ao21 t969.length co21)) (ds:=[]) #[false,false,false,false,false,false,false,false,false,false,false,false,false,false,false,false,false,false,false,false,false,false,false,false,false,false,false,false,false] (by kernel_rfl) rfl rfl ⟨bc BK975,bc BK977,bc BK976⟩ (fun hHeld => ?_);refine with_tabW sacristylaw01_NatOrders.tab6 sacristylaw01_NatOrders.bits6 (fun HT_ HW_ => ?_)
        generalize wc.drew = w67 at HO_976000 HO_977000 HO_978000 BK975 BK976 BK977 HB hHeld ⊢
        refine qT 0 40 HT_ HW_ hHeld ?_
        refine qT 1 41 HT_ HW_ hHeld ?_
        refine qT 3 43 HT_ HW_ hHeld ?_
        refine qT 4 44 HT_ HW_ hHeld ?_
        refine qT 7 47 HT_ HW_ hHeld ?_
        refine qT 8 48 HT_ HW_ hHeld ?_
        refine q1 2 (some 42) HT_ rfl (fun K hK => ?_)
        refine g_ Try.func60 #[.agg #[.slice Ao17 t966.length co17],.agg #[.slice Ao24 t972.length co24]] ?_
        with_reducible refine (nat_Nat_Add.calls kj8 _ _ t966 _ _ t972 t987 _ ?side1 ?side2 ?side3 ?side4 A48.out).mono ?_
        (case side1 => exact qCV HO_976000)
        (case side2 => exact qL HO_976000)
        (case side3 => exact qCV HO_978000)
        (case side4 => exact qL HO_978000)
        rintro e w68 ⟨v988,rfl,ho0,hb⟩
        refine ⟨_,rfl,?_⟩
        replace HO_976000:=qVb HO_976000 hb
        replace HO_977000:=qVb HO_977000 hb
        replace HO_978000:=qVb HO_978000 hb
        have HO989:=Aside0.mk (Kd.V_lower (Kd.V_mono (ok':=fun k_ => k_ ≠ gb975 ∧ k_ ≠ gb976 ∧ k_ ≠ gb977) ho0 (fun k_ hk_ => ⟨(Kd.freshB (qB BK975.out) k_ hk_),(Kd.freshB (qB BK976.out) k_ hk_),(Kd.freshB (qB BK977.out) k_ hk_)⟩)) (below_size (qS HB)))
        replace BK975:=qb BK975 hb
        replace BK976:=qb BK976 hb
        replace BK977:=qb BK977 hb
        replace HB:=qs HB hb
        clear hb ho0
        refine hK.out _ _ ⟨bc BK975,bc BK977,bc BK976⟩ (fun hHeld => ?_)
        clear hK K
        refine qO 42 ?_
        refine q1 5 (some 45) HT_ rfl (fun K hK => ?_)
        refine g_ Try.func60 #[.agg #[.slice Ao21 t969.length co21],.agg #[.slice Ao24 t972.length co24]] ?_
        with_reducible refine (nat_Nat_Add.calls kj8 _ _ t969 _ _ t972 t990 _ ?side1 ?side2 ?side3 ?side4 A49.out).mono ?_
        (case side1 => exact qCV HO_977000)
        (case side2 => exact qL HO_977000)
        (case side3 => exact qCV HO_978000)
        (case side4 => exact qL HO_978000)
        rintro e w69 ⟨v991,rfl,ho0,hb⟩
        refine ⟨_,rfl,?_⟩
        replace HO_976000:=qVb HO_976000 hb
        replace HO_977000:=qVb HO_977000 hb
        replace HO_978000:=qVb HO_978000 hb
        replace HO989:=qVb HO989 hb
        have HO992:=Aside0.mk (Kd.V_lower (Kd.V_mono (ok':=fun k_ => k_ ≠ gb975 ∧ k_ ≠ gb976 ∧ k_ ≠ gb977) ho0 (fun k_ hk_ => ⟨(Kd.freshB (qB BK975.out) k_ hk_),(Kd.freshB (qB BK976.out) k_ hk_),(Kd.freshB (qB BK977.out) k_ hk_)⟩)) (below_size (qS HB)))
        replace BK975:=qb BK975 hb
        replace BK976:=qb BK976 hb
        replace BK977:=qb BK977 hb
        replace HB:=qs HB hb
        clear hb ho0
        obtain ⟨Ao70,co70,eo70⟩:=Kd.V_slice HO989.out
        (first|subst eo70|(injection eo70 with f1_ f2_ f3_;have f4_:=f1_.symm;have f5_:=f3_.symm;clear f1_ f2_ f3_;subst f4_;subst f5_))
        obtain ⟨Ao71,co71,eo71⟩:=Kd.V_slice HO992.out
        (first|subst eo71|(injection eo71 with f1_ f2_ f3_;have f4_:=f1_.symm;have f5_:=f3_.symm;clear f1_ f2_ f3_;subst f4_;subst f5_))
        refine hK.out _ _ ⟨bc BK975,bc BK977,bc BK976⟩ (fun hHeld => ?_)
        clear hK K
        refine qO 45 ?_
        refine q1 6 (some 46) HT_ rfl (fun K hK => ?_)
        refine g_ Try.func45 #[.agg #[.slice Ao70 t987.length co70],.agg #[.slice Ao71 t990.length co71]] ?_
        with_reducible refine (nat_Nat_Cmp.calls kj8 _ _ t987 _ _ t990 t993 _ ?side1 ?side2 ?side3 ?side4 A50.out).mono ?_
        (case side1 => exact qCV HO989)
        (case side2 => exact qL HO989)
        (case side3 => exact qCV HO992)
        (case side4 => exact qL HO992)
        rintro e w72 ⟨rfl,hb⟩
        refine ⟨_,rfl,?_⟩
        replace HO_976000:=qVb HO_976000 hb
        replace HO_977000:=qVb HO_977000 hb
        replace HO_978000:=qVb HO_978000 hb
        replace HO989:=qVb HO989 hb
        replace HO992:=qVb HO992 hb
        replace BK975:=qb BK975 hb
        replace BK976:=qb BK976 hb
        replace BK977:=qb BK977 hb
        replace HB:=qs HB hb
        clear hb
        refine hK.out _ _ ⟨bc BK975,bc BK977,bc BK976⟩ (fun hHeld => ?_)
        clear hK K
        refine qO 46 ?_
        refine q1 9 (some 49) HT_ rfl (fun K hK => ?_)
        refine g_ Try.func45 #[.agg #[.slice Ao17 t966.length co17],.agg #[.slice Ao21 t969.length co21]] ?_
        with_reducible refine (nat_Nat_Cmp.calls kj8 _ _ t966 _ _ t969 t994 _ ?side1 ?side2 ?side3 ?side4 A51.out).mono ?_
        (case side1 => exact qCV HO_976000)
        (case side2 => exact qL HO_976000)
        (case side3 => exact qCV HO_977000)
        (case side4 => exact qL HO_977000)
        rintro e w73 ⟨rfl,hb⟩
        refine ⟨_,rfl,?_⟩
        replace HO_976000:=qVb HO_976000 hb
        replace HO_977000:=qVb HO_977000 hb
        replace HO_978000:=qVb HO_978000 hb
        replace HO989:=qVb HO989 hb
        replace HO992:=qVb HO992 hb
        replace BK975:=qb BK975 hb
        replace BK976:=qb BK976 hb
        replace BK977:=qb BK977 hb
        replace HB:=qs HB hb
        clear hb
        refine hK.out _ _ ⟨bc BK975,bc BK977,bc BK976⟩ (fun hHeld => ?_)
        clear hK K
        refine qO 49 ?_
        refine qP 10 50 HT_ ?_
        refine qP 11 51 HT_ ?_
        refine qT 12 52 HT_ HW_ hHeld ?_
        refine q1 13 (some 53) HT_ rfl (fun K hK => ?_)
        refine g_ Try.func44 #[.agg #[.slice Ao24 t972.length co24]] ?_
        with_reducible refine (nat_Nat_Zero.calls _ _ t972 false _ ?side1 ?side2 A53.out).mono ?_
        (case side1 => exact qCV HO_978000)
        (case side2 => exact qL HO_978000)
        rintro e w74 ⟨rfl,hb⟩
        refine ⟨_,rfl,?_⟩
        replace HO_976000:=qVb HO_976000 hb
        replace HO_977000:=qVb HO_977000 hb
        replace HO_978000:=qVb HO_978000 hb
        replace HO989:=qVb HO989 hb
        replace HO992:=qVb HO992 hb
        replace BK975:=qb BK975 hb
        replace BK976:=qb BK976 hb
        replace BK977:=qb BK977 hb
        replace HB:=qs HB hb
        clear hb
        refine hK.out _ _ ⟨bc BK975,bc BK977,bc BK976⟩ (fun hHeld => ?_)
        clear hK K
        refine qO 53 ?_
        refine qP 14 54 HT_ ?_
        refine qP 15 55 HT_ ?_
        refine qT 16 56 HT_ HW_ hHeld ?_
        refine qT 17 57 HT_ HW_ hHeld ?_
        refine qT 19 59 HT_ HW_ hHeld ?_
        refine qT 20 60 HT_ HW_ hHeld ?_
        refine qT 23 63 HT_ HW_ hHeld ?_
        refine qT 24 64 HT_ HW_ hHeld ?_
        refine q1 18 (some 58) HT_ rfl (fun K hK => ?_)
        refine g_ Try.func57 #[.agg #[.slice Ao17 t966.length co17],.agg #[.slice Ao24 t972.length co24]] ?_
        with_reducible refine (nat_Nat_Mul.calls kj8 _ _ t966 _ _ t972 t996 _ ?side1 ?side2 ?side3 ?side4 A63.out).mono ?_
        (case side1 => exact qCV HO_976000)
        (case side2 => exact qL HO_976000)
        (case side3 => exact qCV HO_978000)
        (case side4 => exact qL HO_978000)
        rintro e w75 ⟨v997,rfl,ho0,hb⟩
        refine ⟨_,rfl,?_⟩
        replace HO_976000:=qVb HO_976000 hb
        replace HO_977000:=qVb HO_977000 hb
        replace HO_978000:=qVb HO_978000 hb
        replace HO989:=qVb HO989 hb
        replace HO992:=qVb HO992 hb
        have HO998:=Aside0.mk (Kd.V_lower (Kd.V_mono (ok':=fun k_ => k_ ≠ gb975 ∧ k_ ≠ gb976 ∧ k_ ≠ gb977) ho0 (fun k_ hk_ => ⟨(Kd.freshB (qB BK975.out) k_ hk_),(Kd.freshB (qB BK976.out) k_ hk_),(Kd.freshB (qB BK977.out) k_ hk_)⟩)) (below_size (qS HB)))
        replace BK975:=qb BK975 hb
        replace BK976:=qb BK976 hb
        replace BK977:=qb BK977 hb
        replace HB:=qs HB hb
        clear hb ho0
        refine hK.out _ _ ⟨bc BK975,bc BK977,bc BK976⟩ (fun hHeld => ?_)
        clear hK K
        refine qO 58 ?_
        refine q1 21 (some 61) HT_ rfl (fun K hK => ?_)
        refine g_ Try.func57 #[.agg #[.slice Ao21 t969.length co21],.agg #[.slice Ao24 t972.length co24]] ?_
        with_reducible refine (nat_Nat_Mul.calls kj8 _ _ t969 _ _ t972 t999 _ ?side1 ?side2 ?side3 ?side4 A64.out).mono ?_
        (case side1 => exact qCV HO_977000)
        (case side2 => exact qL HO_977000)
        (case side3 => exact qCV HO_978000)
        (case side4 => exact qL HO_978000)
        rintro e w76 ⟨v1000,rfl,ho0,hb⟩
        refine ⟨_,rfl,?_⟩
        replace HO_976000:=qVb HO_976000 hb
        replace HO_977000:=qVb HO_977000 hb
        replace HO_978000:=qVb HO_978000 hb
        replace HO989:=qVb HO989 hb
        replace HO992:=qVb HO992 hb
        replace HO998:=qVb HO998 hb
        have HO1001:=Aside0.mk (Kd.V_lower (Kd.V_mono (ok':=fun k_ => k_ ≠ gb975 ∧ k_ ≠ gb976 ∧ k_ ≠ gb977) ho0 (fun k_ hk_ => ⟨(Kd.freshB (qB BK975.out) k_ hk_),(Kd.freshB (qB BK976.out) k_ hk_),(Kd.freshB (qB BK977.out) k_ hk_)⟩)) (below_size (qS HB)))
        replace BK975:=qb BK975 hb
        replace BK976:=qb BK976 hb
        replace BK977:=qb BK977 hb
        replace HB:=qs HB hb
        clear hb ho0
        obtain ⟨Ao77,co77,eo77⟩:=Kd.V_slice HO998.out
        (first|subst eo77|(injection eo77 with f1_ f2_ f3_;have f4_:=f1_.symm;have f5_:=f3_.symm;clear f1_ f2_ f3_;subst f4_;subst f5_))
        obtain ⟨Ao78,co78,eo78⟩:=Kd.V_slice HO1001.out
        (first|subst eo78|(injection eo78 with f1_ f2_ f3_;have f4_:=f1_.symm;have f5_:=f3_.symm;clear f1_ f2_ f3_;subst f4_;subst f5_))
        refine hK.out _ _ ⟨bc BK975,bc BK977,bc BK976⟩ (fun hHeld => ?_)
        clear hK K
        refine qO 61 ?_
        refine q1 22 (some 62) HT_ rfl (fun K hK => ?_)
        refine g_ Try.func45 #[.agg #[.slice Ao77 t996.length co77],.agg #[.slice Ao78 t999.length co78]] ?_
        with_reducible refine (nat_Nat_Cmp.calls kj8 _ _ t996 _ _ t999 t1002 _ ?side1 ?side2 ?side3 ?side4 A65.out).mono ?_
        (case side1 => exact qCV HO998)
        (case side2 => exact qL HO998)
        (case side3 => exact qCV HO1001)
        (case side4 => exact qL HO1001)
        rintro e w79 ⟨rfl,hb⟩
        refine ⟨_,rfl,?_⟩
        replace HO_976000:=qVb HO_976000 hb
        replace HO_977000:=qVb HO_977000 hb
        replace HO_978000:=qVb HO_978000 hb
        replace HO989:=qVb HO989 hb
        replace HO992:=qVb HO992 hb
        replace HO998:=qVb HO998 hb
        replace HO1001:=qVb HO1001 hb
        replace BK975:=qb BK975 hb
        replace BK976:=qb BK976 hb
        replace BK977:=qb BK977 hb
        replace HB:=qs HB hb
        clear hb
        refine hK.out _ _ ⟨bc BK975,bc BK977,bc BK976⟩ (fun hHeld => ?_)
        clear hK K
        refine qO 62 ?_
        refine q1 25 (some 65) HT_ rfl (fun K hK => ?_)
        refine g_ Try.func45 #[.agg #[.slice Ao17 t966.length co17],.agg #[.slice Ao21 t969.length co21]] ?_
        with_reducible refine (nat_Nat_Cmp.calls kj8 _ _ t966 _ _ t969 t1003 _ ?side1 ?side2 ?side3 ?side4 A66.out).mono ?_
        (case side1 => exact qCV HO_976000)
        (case side2 => exact qL HO_976000)
        (case side3 => exact qCV HO_977000)
        (case side4 => exact qL HO_977000)
        rintro e w80 ⟨rfl,hb⟩
        refine ⟨_,rfl,?_⟩
        replace HO_976000:=qVb HO_976000 hb
        replace HO_977000:=qVb HO_977000 hb
        replace HO_978000:=qVb HO_978000 hb
        replace HO989:=qVb HO989 hb
        replace HO992:=qVb HO992 hb
        replace HO998:=qVb HO998 hb
        replace HO1001:=qVb HO1001 hb
        replace BK975:=qb BK975 hb
        replace BK976:=qb BK976 hb
        replace BK977:=qb BK977 hb
        replace HB:=qs HB hb
        clear hb
        refine hK.out _ _ ⟨bc BK975,bc BK977,bc BK976⟩ (fun hHeld => ?_)
        clear hK K
        refine qO 65 ?_
        refine qP 26 66 HT_ ?_
        refine qP 27 67 HT_ ?_
        refine qP 28 68 HT_ ?_
        refine qD HT_ ?_
        try go_wp2
        go_meet
        case rel => exact ⟨_,((t1002 != t1003)),(by first|rfl|(simp;done)|(simp [*];done)),H',⟨by have:=HJ8.out;first|omega|exact Nat.le_refl _⟩,⟨qVm HO_976000⟩,⟨qVm HO_977000⟩,⟨qVm HO_978000⟩,⟨qB BK975.out⟩,⟨qB BK976.out⟩,⟨qB BK977.out⟩,⟨qS HB⟩⟩
      ·rw [if_neg c52] at H
       have c52b0 : (t993 == t994) = false:=beq_eq_false_iff_ne.mpr c52
       have c52b1 : (t993 != t994) = true:=bne_iff_ne.mpr c52
       (first|rw [c52b0]|(simp only [i64_w,i32_w];rw [c52b0])|skip)
       have H':=Aside0.mk H
       clear H
       try go_wp2
       replace HO_976000:=qVw HO_976000
       replace HO_977000:=qVw HO_977000
       replace HO_978000:=qVw HO_978000
       replace BK975:=qbd BK975
       replace BK976:=qbd BK976
       replace BK977:=qbd BK977
       replace HB:=qsd HB
       refine start_ (n:=29) (S:=fun w' => w'.cell? ⟨gb975,0,none⟩ = some (.slice Ao17 t966.length co17) ∧ w'.cell? ⟨gb977,0,none⟩ = some (.slice Ao24 t972.length co24) ∧ w'.cell? ⟨gb976,0,none⟩ = some (.slice Ao21 t969.length co21)) (ds:=[]) #[false,false,false,false,false,false,false,false,false,false,false,false,false,false,false,false,false,false,false,false,false,false,false,false,false,false,false,false,false] (by kernel_rfl) rfl rfl ⟨bc BK975,bc BK977,bc BK976⟩ (fun hHeld => ?_);refine with_tabW sacristylaw01_NatOrders.tab6 sacristylaw01_NatOrders.bits6 (fun HT_ HW_ => ?_)
       generalize wc.drew = w81 at HO_976000 HO_977000 HO_978000 BK975 BK976 BK977 HB hHeld ⊢
       refine qT 0 40 HT_ HW_ hHeld ?_
       refine qT 1 41 HT_ HW_ hHeld ?_
       refine qT 3 43 HT_ HW_ hHeld ?_
       refine qT 4 44 HT_ HW_ hHeld ?_
       refine qT 7 47 HT_ HW_ hHeld ?_
       refine qT 8 48 HT_ HW_ hHeld ?_
       refine q1 2 (some 42) HT_ rfl (fun K hK => ?_)
       refine g_ Try.func60 #[.agg #[.slice Ao17 t966.length co17],.agg #[.slice Ao24 t972.length co24]] ?_
       with_reducible refine (nat_Nat_Add.calls kj8 _ _ t966 _ _ t972 t987 _ ?side1 ?side2 ?side3 ?side4 A48.out).mono ?_
       (case side1 => exact qCV HO_976000)
       (case side2 => exact qL HO_976000)
       (case side3 => exact qCV HO_978000)
       (case side4 => exact qL HO_978000)
       rintro e w82 ⟨v988,rfl,ho0,hb⟩
       refine ⟨_,rfl,?_⟩
       replace HO_976000:=qVb HO_976000 hb
       replace HO_977000:=qVb HO_977000 hb
       replace HO_978000:=qVb HO_978000 hb
       have HO989:=Aside0.mk (Kd.V_lower (Kd.V_mono (ok':=fun k_ => k_ ≠ gb975 ∧ k_ ≠ gb976 ∧ k_ ≠ gb977) ho0 (fun k_ hk_ => ⟨(Kd.freshB (qB BK975.out) k_ hk_),(Kd.freshB (qB BK976.out) k_ hk_),(Kd.freshB (qB BK977.out) k_ hk_)⟩)) (below_size (qS HB)))
       replace BK975:=qb BK975 hb
       replace BK976:=qb BK976 hb
       replace BK977:=qb BK977 hb
       replace HB:=qs HB hb
       clear hb ho0
       refine hK.out _ _ ⟨bc BK975,bc BK977,bc BK976⟩ (fun hHeld => ?_)
       clear hK K
       refine qO 42 ?_
       refine q1 5 (some 45) HT_ rfl (fun K hK => ?_)
       refine g_ Try.func60 #[.agg #[.slice Ao21 t969.length co21],.agg #[.slice Ao24 t972.length co24]] ?_
       with_reducible refine (nat_Nat_Add.calls kj8 _ _ t969 _ _ t972 t990 _ ?side1 ?side2 ?side3 ?side4 A49.out).mono ?_
       (case side1 => exact qCV HO_977000)
       (case side2 => exact qL HO_977000)
       (case side3 => exact qCV HO_978000)
       (case side4 => exact qL HO_978000)
       rintro e w83 ⟨v991,rfl,ho0,hb⟩
       refine ⟨_,rfl,?_⟩
       replace HO_976000:=qVb HO_976000 hb
       replace HO_977000:=qVb HO_977000 hb
       replace HO_978000:=qVb HO_978000 hb
       replace HO989:=qVb HO989 hb
       have HO992:=Aside0.mk (Kd.V_lower (Kd.V_mono (ok':=fun k_ => k_ ≠ gb975 ∧ k_ ≠ gb976 ∧ k_ ≠ gb977) ho0 (fun k_ hk_ => ⟨(Kd.freshB (qB BK975.out) k_ hk_),(Kd.freshB (qB BK976.out) k_ hk_),(Kd.freshB (qB BK977.out) k_ hk_)⟩)) (below_size (qS HB)))
       replace BK975:=qb BK975 hb
       replace BK976:=qb BK976 hb
       replace BK977:=qb BK977 hb
       replace HB:=qs HB hb
       clear hb ho0
       obtain ⟨Ao84,co84,eo84⟩:=Kd.V_slice HO989.out
       (first|subst eo84|(injection eo84 with f1_ f2_ f3_;have f4_:=f1_.symm;have f5_:=f3_.symm;clear f1_ f2_ f3_;subst f4_;subst f5_))
       obtain ⟨Ao85,co85,eo85⟩:=Kd.V_slice HO992.out
       (first|subst eo85|(injection eo85 with f1_ f2_ f3_;have f4_:=f1_.symm;have f5_:=f3_.symm;clear f1_ f2_ f3_;subst f4_;subst f5_))
       refine hK.out _ _ ⟨bc BK975,bc BK977,bc BK976⟩ (fun hHeld => ?_)
       clear hK K
       refine qO 45 ?_
       refine q1 6 (some 46) HT_ rfl (fun K hK => ?_)
       refine g_ Try.func45 #[.agg #[.slice Ao84 t987.length co84],.agg #[.slice Ao85 t990.length co85]] ?_
       with_reducible refine (nat_Nat_Cmp.calls kj8 _ _ t987 _ _ t990 t993 _ ?side1 ?side2 ?side3 ?side4 A50.out).mono ?_
       (case side1 => exact qCV HO989)
       (case side2 => exact qL HO989)
       (case side3 => exact qCV HO992)
       (case side4 => exact qL HO992)
       rintro e w86 ⟨rfl,hb⟩
       refine ⟨_,rfl,?_⟩
       replace HO_976000:=qVb HO_976000 hb
       replace HO_977000:=qVb HO_977000 hb
       replace HO_978000:=qVb HO_978000 hb
       replace HO989:=qVb HO989 hb
       replace HO992:=qVb HO992 hb
       replace BK975:=qb BK975 hb
       replace BK976:=qb BK976 hb
       replace BK977:=qb BK977 hb
       replace HB:=qs HB hb
       clear hb
       refine hK.out _ _ ⟨bc BK975,bc BK977,bc BK976⟩ (fun hHeld => ?_)
       clear hK K
       refine qO 46 ?_
       refine q1 9 (some 49) HT_ rfl (fun K hK => ?_)
       refine g_ Try.func45 #[.agg #[.slice Ao17 t966.length co17],.agg #[.slice Ao21 t969.length co21]] ?_
       with_reducible refine (nat_Nat_Cmp.calls kj8 _ _ t966 _ _ t969 t994 _ ?side1 ?side2 ?side3 ?side4 A51.out).mono ?_
       (case side1 => exact qCV HO_976000)
       (case side2 => exact qL HO_976000)
       (case side3 => exact qCV HO_977000)
       (case side4 => exact qL HO_977000)
       rintro e w87 ⟨rfl,hb⟩
       refine ⟨_,rfl,?_⟩
       replace HO_976000:=qVb HO_976000 hb
       replace HO_977000:=qVb HO_977000 hb
       replace HO_978000:=qVb HO_978000 hb
       replace HO989:=qVb HO989 hb
       replace HO992:=qVb HO992 hb
       replace BK975:=qb BK975 hb
       replace BK976:=qb BK976 hb
       replace BK977:=qb BK977 hb
       replace HB:=qs HB hb
       clear hb
       refine hK.out _ _ ⟨bc BK975,bc BK977,bc BK976⟩ (fun hHeld => ?_)
       clear hK K
       refine qO 49 ?_
       refine qP 10 50 HT_ ?_
       refine qP 11 51 HT_ ?_
       refine qU 12 52 HT_ ?_
       refine qU 13 53 HT_ ?_
       refine qU 14 54 HT_ ?_
       refine qU 15 55 HT_ ?_
       refine qU 16 56 HT_ ?_
       refine qU 17 57 HT_ ?_
       refine qU 18 58 HT_ ?_
       refine qU 19 59 HT_ ?_
       refine qU 20 60 HT_ ?_
       refine qU 21 61 HT_ ?_
       refine qU 22 62 HT_ ?_
       refine qU 23 63 HT_ ?_
       refine qU 24 64 HT_ ?_
       refine qU 25 65 HT_ ?_
       refine qU 26 66 HT_ ?_
       refine qU 27 67 HT_ ?_
       refine qP 28 68 HT_ ?_
       refine qD HT_ ?_
       try go_wp2
       go_meet
       case rel => exact ⟨_,(true),(by first|rfl|(simp;done)|(simp [*];done)),H',⟨by have:=HJ8.out;first|omega|exact Nat.le_refl _⟩,⟨qVm HO_976000⟩,⟨qVm HO_977000⟩,⟨qVm HO_978000⟩,⟨qB BK975.out⟩,⟨qB BK976.out⟩,⟨qB BK977.out⟩,⟨qS HB⟩⟩
     case rest =>
      clear HC47
      try clear p2
      try clear c4
      try clear c5
      try clear c6
      try clear c45
      try clear c52
      try clear c52b0
      try clear c52b1
      try clear c57
      try clear c60
      obtain ⟨kq,x68_46,rfl,HA,HJ46,HO_976000,HO_977000,HO_978000,BK975,BK976,BK977,HB⟩:=hcut
      cases kq with
      |zero => exact absurd HA.out (by simp [sacristylaw01_NatOrders.j1])
      |succ kj46 =>
       have H:=HA.out
       clear HA
       simp only [sacristylaw01_NatOrders.j1] at H
       by_cases c88 : x68_46 = true
       ·subst c88
        rw [if_pos rfl] at H
        exact absurd H (by simp)
       ·replace c88:=Bool.eq_false_iff.mpr c88
        subst c88
        rw [qFT] at H
        obtain ⟨t1004,A89,H⟩:=qH H
        obtain ⟨t1007,A90,H⟩:=qH H
        obtain ⟨t1010,A91,H⟩:=qH H
        by_cases c92 : t1010 = 1
        ·rw [if_pos c92] at H
         have c92b0 : (t1010 == 1) = true:=beq_iff_eq.mpr c92
         have c92b1 : (t1010 != 1) = false:=bne_eq_false_iff_eq.mpr c92
         clear c92
         obtain ⟨t1011,A93,H⟩:=qH H
         by_cases c94 : t1011 > 0
         ·rw [if_pos c94] at H
          have c94b0 : decide (0 < t1011) = true:=decide_eq_true c94
          clear c94
          obtain rfl:=Option.some.inj H
          try go_wp2
          replace HO_976000:=qVw HO_976000
          replace HO_977000:=qVw HO_977000
          replace HO_978000:=qVw HO_978000
          replace BK975:=qbd BK975
          replace BK976:=qbd BK976
          replace BK977:=qbd BK977
          replace HB:=qsd HB
          refine start_ (n:=25) (S:=fun w' => w'.cell? ⟨gb975,0,none⟩ = some (.slice Ao17 t966.length co17) ∧ w'.cell? ⟨gb976,0,none⟩ = some (.slice Ao21 t969.length co21)) (ds:=[]) #[false,false,false,false,false,false,false,false,false,false,false,false,false,false,false,false,false,false,false,false,false,false,false,false,false] (by kernel_rfl) rfl rfl ⟨bc BK975,bc BK976⟩ (fun hHeld => ?_);refine with_tabW sacristylaw01_NatOrders.tab8 sacristylaw01_NatOrders.bits8 (fun HT_ HW_ => ?_)
          generalize wc.drew = w95 at HO_976000 HO_977000 HO_978000 BK975 BK976 BK977 HB hHeld ⊢
          refine qT 0 69 HT_ HW_ hHeld ?_
          refine qT 3 72 HT_ HW_ hHeld ?_
          refine q1 1 (some 70) HT_ rfl (fun K hK => ?_)
          refine g_ Try.func54 #[.int .u64 1] ?_
          with_reducible refine (nat_New.calls kj46 1 t1004 _ A89.out).mono ?_
          rintro e w96 ⟨v1005,rfl,ho0,hb⟩
          refine ⟨_,rfl,?_⟩
          replace HO_976000:=qVb HO_976000 hb
          replace HO_977000:=qVb HO_977000 hb
          replace HO_978000:=qVb HO_978000 hb
          have HO1006:=Aside0.mk (Kd.V_lower (Kd.V_mono (ok':=fun k_ => k_ ≠ gb975 ∧ k_ ≠ gb976 ∧ k_ ≠ gb977) ho0 (fun k_ hk_ => ⟨(Kd.freshB (qB BK975.out) k_ hk_),(Kd.freshB (qB BK976.out) k_ hk_),(Kd.freshB (qB BK977.out) k_ hk_)⟩)) (below_size (qS HB)))
          replace BK975:=qb BK975 hb
          replace BK976:=qb BK976 hb
          replace BK977:=qb BK977 hb
          replace HB:=qs HB hb
          clear hb ho0
          obtain ⟨Ao97,co97,eo97⟩:=Kd.V_slice HO1006.out
          (first|subst eo97|(injection eo97 with f1_ f2_ f3_;have f4_:=f1_.symm;have f5_:=f3_.symm;clear f1_ f2_ f3_;subst f4_;subst f5_))
          refine hK.out _ _ ⟨bc BK975,bc BK976⟩ (fun hHeld => ?_)
          clear hK K
          refine qO 70 ?_
          refine q1 2 (some 71) HT_ rfl (fun K hK => ?_)
          refine g_ Try.func60 #[.agg #[.slice Ao17 t966.length co17],.agg #[.slice Ao97 t1004.length co97]] ?_
          with_reducible refine (nat_Nat_Add.calls kj46 _ _ t966 _ _ t1004 t1007 _ ?side1 ?side2 ?side3 ?side4 A90.out).mono ?_
          (case side1 => exact qCV HO_976000)
          (case side2 => exact qL HO_976000)
          (case side3 => exact qCV HO1006)
          (case side4 => exact qL HO1006)
          rintro e w98 ⟨v1008,rfl,ho0,hb⟩
          refine ⟨_,rfl,?_⟩
          replace HO_976000:=qVb HO_976000 hb
          replace HO_977000:=qVb HO_977000 hb
          replace HO_978000:=qVb HO_978000 hb
          replace HO1006:=qVb HO1006 hb
          have HO1009:=Aside0.mk (Kd.V_lower (Kd.V_mono (ok':=fun k_ => k_ ≠ gb975 ∧ k_ ≠ gb976 ∧ k_ ≠ gb977) ho0 (fun k_ hk_ => ⟨(Kd.freshB (qB BK975.out) k_ hk_),(Kd.freshB (qB BK976.out) k_ hk_),(Kd.freshB (qB BK977.out) k_ hk_)⟩)) (below_size (qS HB)))
          replace BK975:=qb BK975 hb
          replace BK976:=qb BK976 hb
          replace BK977:=qb BK977 hb
          replace HB:=qs HB hb
          clear hb ho0
          obtain ⟨Ao99,co99,eo99⟩:=Kd.V_slice HO1009.out
          (first|subst eo99|(injection eo99 with f1_ f2_ f3_;have f4_:=f1_.symm;have f5_:=f3_.symm;clear f1_ f2_ f3_;subst f4_;subst f5_))
          refine hK.out _ _ ⟨bc BK975,bc BK976⟩ (fun hHeld => ?_)
          clear hK K
          refine qO 71 ?_
          refine q1 4 (some 73) HT_ rfl (fun K hK => ?_)
          refine g_ Try.func45 #[.agg #[.slice Ao99 t1007.length co99],.agg #[.slice Ao17 t966.length co17]] ?_
          with_reducible refine (nat_Nat_Cmp.calls kj46 _ _ t1007 _ _ t966 t1010 _ ?side1 ?side2 ?side3 ?side4 A91.out).mono ?_
          (case side1 => exact qCV HO1009)
          (case side2 => exact qL HO1009)
          (case side3 => exact qCV HO_976000)
          (case side4 => exact qL HO_976000)
          rintro e w100 ⟨rfl,hb⟩
          refine ⟨_,rfl,?_⟩
          replace HO_976000:=qVb HO_976000 hb
          replace HO_977000:=qVb HO_977000 hb
          replace HO_978000:=qVb HO_978000 hb
          replace HO1006:=qVb HO1006 hb
          replace HO1009:=qVb HO1009 hb
          replace BK975:=qb BK975 hb
          replace BK976:=qb BK976 hb
          replace BK977:=qb BK977 hb
          replace HB:=qs HB hb
          clear hb
          refine hK.out _ _ ⟨bc BK975,bc BK976⟩ (fun hHeld => ?_)
          clear hK K
          refine qO 73 ?_
          refine qP 5 74 HT_ ?_
          refine qP 6 75 HT_ ?_
          refine qT 7 76 HT_ HW_ hHeld ?_
          refine qT 8 77 HT_ HW_ hHeld ?_
          refine q1 9 (some 78) HT_ rfl (fun K hK => ?_)
          refine g_ Try.func45 #[.agg #[.slice Ao17 t966.length co17],.agg #[.slice Ao21 t969.length co21]] ?_
          with_reducible refine (nat_Nat_Cmp.calls kj46 _ _ t966 _ _ t969 t1011 _ ?side1 ?side2 ?side3 ?side4 A93.out).mono ?_
          (case side1 => exact qCV HO_976000)
          (case side2 => exact qL HO_976000)
          (case side3 => exact qCV HO_977000)
          (case side4 => exact qL HO_977000)
          rintro e w101 ⟨rfl,hb⟩
          refine ⟨_,rfl,?_⟩
          replace HO_976000:=qVb HO_976000 hb
          replace HO_977000:=qVb HO_977000 hb
          replace HO_978000:=qVb HO_978000 hb
          replace HO1006:=qVb HO1006 hb
          replace HO1009:=qVb HO1009 hb
          replace BK975:=qb BK975 hb
          replace BK976:=qb BK976 hb
          replace BK977:=qb BK977 hb
          replace HB:=qs HB hb
          clear hb
          refine hK.out _ _ ⟨bc BK975,bc BK976⟩ (fun hHeld => ?_)
          clear hK K
          refine qO 78 ?_
          refine qP 10 79 HT_ ?_
          refine qP 11 80 HT_ ?_
          refine qU 12 81 HT_ ?_
          refine qU 13 82 HT_ ?_
          refine qU 14 83 HT_ ?_
          refine qU 15 84 HT_ ?_
          refine qP 16 85 HT_ ?_
          refine qP 17 86 HT_ ?_
          refine qU 18 87 HT_ ?_
          refine qU 19 88 HT_ ?_
          refine qU 20 89 HT_ ?_
          refine qU 21 90 HT_ ?_
          refine qP 22 91 HT_ ?_
          refine qP 23 92 HT_ ?_
          refine qP 24 6 HT_ ?_
          refine qD HT_ ?_
          try go_wp2
          (first|go_ret|(refine ⟨_,results_tmp rfl _ _ _,?_⟩))
          exact ⟨by first|rfl|(simp [errW_none,errW_some] <;> rfl)|(simp [*,errW_none,errW_some] <;> rfl),qS HB⟩
         ·rw [if_neg c94] at H
          have c94b0 : decide (0 < t1011) = false:=decide_eq_false c94
          clear c94
          obtain ⟨t1012,A102,H⟩:=qH H
          by_cases c103 : t1012 > 0
          ·rw [if_pos c103] at H
           have c103b0 : decide (0 < t1012) = true:=decide_eq_true c103
           clear c103
           obtain rfl:=Option.some.inj H
           try go_wp2
           replace HO_976000:=qVw HO_976000
           replace HO_977000:=qVw HO_977000
           replace HO_978000:=qVw HO_978000
           replace BK975:=qbd BK975
           replace BK976:=qbd BK976
           replace BK977:=qbd BK977
           replace HB:=qsd HB
           refine start_ (n:=25) (S:=fun w' => w'.cell? ⟨gb975,0,none⟩ = some (.slice Ao17 t966.length co17) ∧ w'.cell? ⟨gb976,0,none⟩ = some (.slice Ao21 t969.length co21) ∧ w'.cell? ⟨gb977,0,none⟩ = some (.slice Ao24 t972.length co24)) (ds:=[]) #[false,false,false,false,false,false,false,false,false,false,false,false,false,false,false,false,false,false,false,false,false,false,false,false,false] (by kernel_rfl) rfl rfl ⟨bc BK975,bc BK976,bc BK977⟩ (fun hHeld => ?_);refine with_tabW sacristylaw01_NatOrders.tab8 sacristylaw01_NatOrders.bits8 (fun HT_ HW_ => ?_)
           generalize wc.drew = w104 at HO_976000 HO_977000 HO_978000 BK975 BK976 BK977 HB hHeld ⊢
           refine qT 0 69 HT_ HW_ hHeld ?_
           refine qT 3 72 HT_ HW_ hHeld ?_
           refine q1 1 (some 70) HT_ rfl (fun K hK => ?_)
           refine g_ Try.func54 #[.int .u64 1] ?_
           with_reducible refine (nat_New.calls kj46 1 t1004 _ A89.out).mono ?_
           rintro e w105 ⟨v1005,rfl,ho0,hb⟩
           refine ⟨_,rfl,?_⟩
           replace HO_976000:=qVb HO_976000 hb
           replace HO_977000:=qVb HO_977000 hb
           replace HO_978000:=qVb HO_978000 hb
           have HO1006:=Aside0.mk (Kd.V_lower (Kd.V_mono (ok':=fun k_ => k_ ≠ gb975 ∧ k_ ≠ gb976 ∧ k_ ≠ gb977) ho0 (fun k_ hk_ => ⟨(Kd.freshB (qB BK975.out) k_ hk_),(Kd.freshB (qB BK976.out) k_ hk_),(Kd.freshB (qB BK977.out) k_ hk_)⟩)) (below_size (qS HB)))
           replace BK975:=qb BK975 hb
           replace BK976:=qb BK976 hb
           replace BK977:=qb BK977 hb
           replace HB:=qs HB hb
           clear hb ho0
           obtain ⟨Ao106,co106,eo106⟩:=Kd.V_slice HO1006.out
           (first|subst eo106|(injection eo106 with f1_ f2_ f3_;have f4_:=f1_.symm;have f5_:=f3_.symm;clear f1_ f2_ f3_;subst f4_;subst f5_))
           refine hK.out _ _ ⟨bc BK975,bc BK976,bc BK977⟩ (fun hHeld => ?_)
           clear hK K
           refine qO 70 ?_
           refine q1 2 (some 71) HT_ rfl (fun K hK => ?_)
           refine g_ Try.func60 #[.agg #[.slice Ao17 t966.length co17],.agg #[.slice Ao106 t1004.length co106]] ?_
           with_reducible refine (nat_Nat_Add.calls kj46 _ _ t966 _ _ t1004 t1007 _ ?side1 ?side2 ?side3 ?side4 A90.out).mono ?_
           (case side1 => exact qCV HO_976000)
           (case side2 => exact qL HO_976000)
           (case side3 => exact qCV HO1006)
           (case side4 => exact qL HO1006)
           rintro e w107 ⟨v1008,rfl,ho0,hb⟩
           refine ⟨_,rfl,?_⟩
           replace HO_976000:=qVb HO_976000 hb
           replace HO_977000:=qVb HO_977000 hb
           replace HO_978000:=qVb HO_978000 hb
           replace HO1006:=qVb HO1006 hb
           have HO1009:=Aside0.mk (Kd.V_lower (Kd.V_mono (ok':=fun k_ => k_ ≠ gb975 ∧ k_ ≠ gb976 ∧ k_ ≠ gb977) ho0 (fun k_ hk_ => ⟨(Kd.freshB (qB BK975.out) k_ hk_),(Kd.freshB (qB BK976.out) k_ hk_),(Kd.freshB (qB BK977.out) k_ hk_)⟩)) (below_size (qS HB)))
           replace BK975:=qb BK975 hb
           replace BK976:=qb BK976 hb
           replace BK977:=qb BK977 hb
           replace HB:=qs HB hb
           clear hb ho0
           obtain ⟨Ao108,co108,eo108⟩:=Kd.V_slice HO1009.out
           (first|subst eo108|(injection eo108 with f1_ f2_ f3_;have f4_:=f1_.symm;have f5_:=f3_.symm;clear f1_ f2_ f3_;subst f4_;subst f5_))
           refine hK.out _ _ ⟨bc BK975,bc BK976,bc BK977⟩ (fun hHeld => ?_)
           clear hK K
           refine qO 71 ?_
           refine q1 4 (some 73) HT_ rfl (fun K hK => ?_)
           refine g_ Try.func45 #[.agg #[.slice Ao108 t1007.length co108],.agg #[.slice Ao17 t966.length co17]] ?_
           with_reducible refine (nat_Nat_Cmp.calls kj46 _ _ t1007 _ _ t966 t1010 _ ?side1 ?side2 ?side3 ?side4 A91.out).mono ?_
           (case side1 => exact qCV HO1009)
           (case side2 => exact qL HO1009)
           (case side3 => exact qCV HO_976000)
           (case side4 => exact qL HO_976000)
           rintro e w109 ⟨rfl,hb⟩
           refine ⟨_,rfl,?_⟩
           replace HO_976000:=qVb HO_976000 hb
           replace HO_977000:=qVb HO_977000 hb
           replace HO_978000:=qVb HO_978000 hb
           replace HO1006:=qVb HO1006 hb
           replace HO1009:=qVb HO1009 hb
           replace BK975:=qb BK975 hb
           replace BK976:=qb BK976 hb
           replace BK977:=qb BK977 hb
           replace HB:=qs HB hb
           clear hb
           refine hK.out _ _ ⟨bc BK975,bc BK976,bc BK977⟩ (fun hHeld => ?_)
           clear hK K
           refine qO 73 ?_
           refine qP 5 74 HT_ ?_
           refine qP 6 75 HT_ ?_
           refine qT 7 76 HT_ HW_ hHeld ?_
           refine qT 8 77 HT_ HW_ hHeld ?_
           refine q1 9 (some 78) HT_ rfl (fun K hK => ?_)
           refine g_ Try.func45 #[.agg #[.slice Ao17 t966.length co17],.agg #[.slice Ao21 t969.length co21]] ?_
           with_reducible refine (nat_Nat_Cmp.calls kj46 _ _ t966 _ _ t969 t1011 _ ?side1 ?side2 ?side3 ?side4 A93.out).mono ?_
           (case side1 => exact qCV HO_976000)
           (case side2 => exact qL HO_976000)
           (case side3 => exact qCV HO_977000)
           (case side4 => exact qL HO_977000)
           rintro e w110 ⟨rfl,hb⟩
           refine ⟨_,rfl,?_⟩
           replace HO_976000:=qVb HO_976000 hb
           replace HO_977000:=qVb HO_977000 hb
           replace HO_978000:=qVb HO_978000 hb
           replace HO1006:=qVb HO1006 hb
           replace HO1009:=qVb HO1009 hb
           replace BK975:=qb BK975 hb
           replace BK976:=qb BK976 hb
           replace BK977:=qb BK977 hb
           replace HB:=qs HB hb
           clear hb
           refine hK.out _ _ ⟨bc BK975,bc BK976,bc BK977⟩ (fun hHeld => ?_)
           clear hK K
           refine qO 78 ?_
           refine qP 10 79 HT_ ?_
           refine qP 11 80 HT_ ?_
           refine qT 12 81 HT_ HW_ hHeld ?_
           refine qT 13 82 HT_ HW_ hHeld ?_
           refine q1 14 (some 83) HT_ rfl (fun K hK => ?_)
           refine g_ Try.func45 #[.agg #[.slice Ao21 t969.length co21],.agg #[.slice Ao24 t972.length co24]] ?_
           with_reducible refine (nat_Nat_Cmp.calls kj46 _ _ t969 _ _ t972 t1012 _ ?side1 ?side2 ?side3 ?side4 A102.out).mono ?_
           (case side1 => exact qCV HO_977000)
           (case side2 => exact qL HO_977000)
           (case side3 => exact qCV HO_978000)
           (case side4 => exact qL HO_978000)
           rintro e w111 ⟨rfl,hb⟩
           refine ⟨_,rfl,?_⟩
           replace HO_976000:=qVb HO_976000 hb
           replace HO_977000:=qVb HO_977000 hb
           replace HO_978000:=qVb HO_978000 hb
           replace HO1006:=qVb HO1006 hb
           replace HO1009:=qVb HO1009 hb
           replace BK975:=qb BK975 hb
           replace BK976:=qb BK976 hb
           replace BK977:=qb BK977 hb
           replace HB:=qs HB hb
           clear hb
           refine hK.out _ _ ⟨bc BK975,bc BK976,bc BK977⟩ (fun hHeld => ?_)
           clear hK K
           refine qO 83 ?_
           refine qP 15 84 HT_ ?_
           refine qP 16 85 HT_ ?_
           refine qP 17 86 HT_ ?_
           refine qU 18 87 HT_ ?_
           refine qU 19 88 HT_ ?_
           refine qU 20 89 HT_ ?_
           refine qU 21 90 HT_ ?_
           refine qP 22 91 HT_ ?_
           refine qP 23 92 HT_ ?_
           refine qP 24 6 HT_ ?_
           refine qD HT_ ?_
           try go_wp2
           (first|go_ret|(refine ⟨_,results_tmp rfl _ _ _,?_⟩))
           exact ⟨by first|rfl|(simp [errW_none,errW_some] <;> rfl)|(simp [*,errW_none,errW_some] <;> rfl),qS HB⟩
          ·rw [if_neg c103] at H
           have c103b0 : decide (0 < t1012) = false:=decide_eq_false c103
           clear c103
           obtain ⟨t1013,A112,H⟩:=qH H
           obtain rfl:=Option.some.inj H
           try go_wp2
           replace HO_976000:=qVw HO_976000
           replace HO_977000:=qVw HO_977000
           replace HO_978000:=qVw HO_978000
           replace BK975:=qbd BK975
           replace BK976:=qbd BK976
           replace BK977:=qbd BK977
           replace HB:=qsd HB
           refine start_ (n:=25) (S:=fun w' => w'.cell? ⟨gb975,0,none⟩ = some (.slice Ao17 t966.length co17) ∧ w'.cell? ⟨gb976,0,none⟩ = some (.slice Ao21 t969.length co21) ∧ w'.cell? ⟨gb977,0,none⟩ = some (.slice Ao24 t972.length co24)) (ds:=[]) #[false,false,false,false,false,false,false,false,false,false,false,false,false,false,false,false,false,false,false,false,false,false,false,false,false] (by kernel_rfl) rfl rfl ⟨bc BK975,bc BK976,bc BK977⟩ (fun hHeld => ?_);refine with_tabW sacristylaw01_NatOrders.tab8 sacristylaw01_NatOrders.bits8 (fun HT_ HW_ => ?_)
           generalize wc.drew = w113 at HO_976000 HO_977000 HO_978000 BK975 BK976 BK977 HB hHeld ⊢
           refine qT 0 69 HT_ HW_ hHeld ?_
           refine qT 3 72 HT_ HW_ hHeld ?_
           refine q1 1 (some 70) HT_ rfl (fun K hK => ?_)
           refine g_ Try.func54 #[.int .u64 1] ?_
           with_reducible refine (nat_New.calls kj46 1 t1004 _ A89.out).mono ?_
           rintro e w114 ⟨v1005,rfl,ho0,hb⟩
           refine ⟨_,rfl,?_⟩
           replace HO_976000:=qVb HO_976000 hb
           replace HO_977000:=qVb HO_977000 hb
           replace HO_978000:=qVb HO_978000 hb
           have HO1006:=Aside0.mk (Kd.V_lower (Kd.V_mono (ok':=fun k_ => k_ ≠ gb975 ∧ k_ ≠ gb976 ∧ k_ ≠ gb977) ho0 (fun k_ hk_ => ⟨(Kd.freshB (qB BK975.out) k_ hk_),(Kd.freshB (qB BK976.out) k_ hk_),(Kd.freshB (qB BK977.out) k_ hk_)⟩)) (below_size (qS HB)))
           replace BK975:=qb BK975 hb
           replace BK976:=qb BK976 hb
           replace BK977:=qb BK977 hb
           replace HB:=qs HB hb
           clear hb ho0
           obtain ⟨Ao115,co115,eo115⟩:=Kd.V_slice HO1006.out
           (first|subst eo115|(injection eo115 with f1_ f2_ f3_;have f4_:=f1_.symm;have f5_:=f3_.symm;clear f1_ f2_ f3_;subst f4_;subst f5_))
           refine hK.out _ _ ⟨bc BK975,bc BK976,bc BK977⟩ (fun hHeld => ?_)
           clear hK K
           refine qO 70 ?_
           refine q1 2 (some 71) HT_ rfl (fun K hK => ?_)
           refine g_ Try.func60 #[.agg #[.slice Ao17 t966.length co17],.agg #[.slice Ao115 t1004.length co115]] ?_
           with_reducible refine (nat_Nat_Add.calls kj46 _ _ t966 _ _ t1004 t1007 _ ?side1 ?side2 ?side3 ?side4 A90.out).mono ?_
           (case side1 => exact qCV HO_976000)
           (case side2 => exact qL HO_976000)
           (case side3 => exact qCV HO1006)
           (case side4 => exact qL HO1006)
           rintro e w116 ⟨v1008,rfl,ho0,hb⟩
           refine ⟨_,rfl,?_⟩
           replace HO_976000:=qVb HO_976000 hb
           replace HO_977000:=qVb HO_977000 hb
           replace HO_978000:=qVb HO_978000 hb
           replace HO1006:=qVb HO1006 hb
           have HO1009:=Aside0.mk (Kd.V_lower (Kd.V_mono (ok':=fun k_ => k_ ≠ gb975 ∧ k_ ≠ gb976 ∧ k_ ≠ gb977) ho0 (fun k_ hk_ => ⟨(Kd.freshB (qB BK975.out) k_ hk_),(Kd.freshB (qB BK976.out) k_ hk_),(Kd.freshB (qB BK977.out) k_ hk_)⟩)) (below_size (qS HB)))
           replace BK975:=qb BK975 hb
           replace BK976:=qb BK976 hb
           replace BK977:=qb BK977 hb
           replace HB:=qs HB hb
           clear hb ho0
           obtain ⟨Ao117,co117,eo117⟩:=Kd.V_slice HO1009.out
           (first|subst eo117|(injection eo117 with f1_ f2_ f3_;have f4_:=f1_.symm;have f5_:=f3_.symm;clear f1_ f2_ f3_;subst f4_;subst f5_))
           refine hK.out _ _ ⟨bc BK975,bc BK976,bc BK977⟩ (fun hHeld => ?_)
           clear hK K
           refine qO 71 ?_
           refine q1 4 (some 73) HT_ rfl (fun K hK => ?_)
           refine g_ Try.func45 #[.agg #[.slice Ao117 t1007.length co117],.agg #[.slice Ao17 t966.length co17]] ?_
           with_reducible refine (nat_Nat_Cmp.calls kj46 _ _ t1007 _ _ t966 t1010 _ ?side1 ?side2 ?side3 ?side4 A91.out).mono ?_
           (case side1 => exact qCV HO1009)
           (case side2 => exact qL HO1009)
           (case side3 => exact qCV HO_976000)
           (case side4 => exact qL HO_976000)
           rintro e w118 ⟨rfl,hb⟩
           refine ⟨_,rfl,?_⟩
           replace HO_976000:=qVb HO_976000 hb
           replace HO_977000:=qVb HO_977000 hb
           replace HO_978000:=qVb HO_978000 hb
           replace HO1006:=qVb HO1006 hb
           replace HO1009:=qVb HO1009 hb
           replace BK975:=qb BK975 hb
           replace BK976:=qb BK976 hb
           replace BK977:=qb BK977 hb
           replace HB:=qs HB hb
           clear hb
           refine hK.out _ _ ⟨bc BK975,bc BK976,bc BK977⟩ (fun hHeld => ?_)
           clear hK K
           refine qO 73 ?_
           refine qP 5 74 HT_ ?_
           refine qP 6 75 HT_ ?_
           refine qT 7 76 HT_ HW_ hHeld ?_
           refine qT 8 77 HT_ HW_ hHeld ?_
           refine q1 9 (some 78) HT_ rfl (fun K hK => ?_)
           refine g_ Try.func45 #[.agg #[.slice Ao17 t966.length co17],.agg #[.slice Ao21 t969.length co21]] ?_
           with_reducible refine (nat_Nat_Cmp.calls kj46 _ _ t966 _ _ t969 t1011 _ ?side1 ?side2 ?side3 ?side4 A93.out).mono ?_
           (case side1 => exact qCV HO_976000)
           (case side2 => exact qL HO_976000)
           (case side3 => exact qCV HO_977000)
           (case side4 => exact qL HO_977000)
           rintro e w119 ⟨rfl,hb⟩
           refine ⟨_,rfl,?_⟩
           replace HO_976000:=qVb HO_976000 hb
           replace HO_977000:=qVb HO_977000 hb
           replace HO_978000:=qVb HO_978000 hb
           replace HO1006:=qVb HO1006 hb
           replace HO1009:=qVb HO1009 hb
           replace BK975:=qb BK975 hb
           replace BK976:=qb BK976 hb
           replace BK977:=qb BK977 hb
           replace HB:=qs HB hb
           clear hb
           refine hK.out _ _ ⟨bc BK975,bc BK976,bc BK977⟩ (fun hHeld => ?_)
           clear hK K
           refine qO 78 ?_
           refine qP 10 79 HT_ ?_
           refine qP 11 80 HT_ ?_
           refine qT 12 81 HT_ HW_ hHeld ?_
           refine qT 13 82 HT_ HW_ hHeld ?_
           refine q1 14 (some 83) HT_ rfl (fun K hK => ?_)
           refine g_ Try.func45 #[.agg #[.slice Ao21 t969.length co21],.agg #[.slice Ao24 t972.length co24]] ?_
           with_reducible refine (nat_Nat_Cmp.calls kj46 _ _ t969 _ _ t972 t1012 _ ?side1 ?side2 ?side3 ?side4 A102.out).mono ?_
           (case side1 => exact qCV HO_977000)
           (case side2 => exact qL HO_977000)
           (case side3 => exact qCV HO_978000)
           (case side4 => exact qL HO_978000)
           rintro e w120 ⟨rfl,hb⟩
           refine ⟨_,rfl,?_⟩
           replace HO_976000:=qVb HO_976000 hb
           replace HO_977000:=qVb HO_977000 hb
           replace HO_978000:=qVb HO_978000 hb
           replace HO1006:=qVb HO1006 hb
           replace HO1009:=qVb HO1009 hb
           replace BK975:=qb BK975 hb
           replace BK976:=qb BK976 hb
           replace BK977:=qb BK977 hb
           replace HB:=qs HB hb
           clear hb
           refine hK.out _ _ ⟨bc BK975,bc BK976,bc BK977⟩ (fun hHeld => ?_)
           clear hK K
           refine qO 83 ?_
           refine qP 15 84 HT_ ?_
           refine qP 16 85 HT_ ?_
           refine qP 17 86 HT_ ?_
           refine qT 18 87 HT_ HW_ hHeld ?_
           refine qT 19 88 HT_ HW_ hHeld ?_
           refine q1 20 (some 89) HT_ rfl (fun K hK => ?_)
           refine g_ Try.func45 #[.agg #[.slice Ao17 t966.length co17],.agg #[.slice Ao24 t972.length co24]] ?_
           with_reducible refine (nat_Nat_Cmp.calls kj46 _ _ t966 _ _ t972 t1013 _ ?side1 ?side2 ?side3 ?side4 A112.out).mono ?_
           (case side1 => exact qCV HO_976000)
           (case side2 => exact qL HO_976000)
           (case side3 => exact qCV HO_978000)
           (case side4 => exact qL HO_978000)
           rintro e w121 ⟨rfl,hb⟩
           refine ⟨_,rfl,?_⟩
           replace HO_976000:=qVb HO_976000 hb
           replace HO_977000:=qVb HO_977000 hb
           replace HO_978000:=qVb HO_978000 hb
           replace HO1006:=qVb HO1006 hb
           replace HO1009:=qVb HO1009 hb
           replace BK975:=qb BK975 hb
           replace BK976:=qb BK976 hb
           replace BK977:=qb BK977 hb
           replace HB:=qs HB hb
           clear hb
           refine hK.out _ _ ⟨bc BK975,bc BK976,bc BK977⟩ (fun hHeld => ?_)
           clear hK K
           refine qO 89 ?_
           refine qP 21 90 HT_ ?_
           refine qP 22 91 HT_ ?_
           refine qP 23 92 HT_ ?_
           refine qP 24 6 HT_ ?_
           refine qD HT_ ?_
           try go_wp2
           (first|go_ret|(refine ⟨_,results_tmp rfl _ _ _,?_⟩))
           exact ⟨by first|rfl|(simp [errW_none,errW_some] <;> rfl)|(simp [*,errW_none,errW_some] <;> rfl),qS HB⟩
        ·rw [if_neg c92] at H
         have c92b0 : (t1010 == 1) = false:=beq_eq_false_iff_ne.mpr c92
         have c92b1 : (t1010 != 1) = true:=bne_iff_ne.mpr c92
         exact absurd H (by simp)
 ·replace c5:=Bool.eq_false_iff.mpr c5
  subst c5
  rw [qFT] at H
  exact absurd H (by simp)
def sacristylaw01_NatOrders.Pure : Prop:=∀ (l0 : List Int) (l1 : List Int) (l2 : List Int),l0.length ≤ maxLen → l0.length * 1 ≤ 140737488351232 → (∀ x ∈ l0,(Lit.int .u8 x).wf = true) → l1.length ≤ maxLen → l1.length * 1 ≤ 140737488351232 → (∀ x ∈ l1,(Lit.int .u8 x).wf = true) → l2.length ≤ maxLen → l2.length * 1 ≤ 140737488351232 → (∀ x ∈ l2,(Lit.int .u8 x).wf = true) → ∃ k,sacristylaw01_NatOrders.f k l0 l1 l2 = some true
theorem sacristylaw01_NatOrders.walk (P : sacristylaw01_NatOrders.Pure) (a0 : Option Addr) (len0 cap0 : Nat) (z0 : List Int) (a1 : Option Addr) (len1 cap1 : Nat) (z1 : List Int) (a2 : Option Addr) (len2 cap2 : Nat) (z2 : List Int) (w : World) (w0 : (a0 = none ∧ len0 = 0 ∧ cap0 = 0 ∧ z0 = []) ∨ ∃ x,a0 = some x ∧ len0 ≤ cap0 ∧ cap0 ≤ maxLen ∧ z0.length = cap0 ∧ (∀ i,i < z0.length → w.cell? (x.add i) = some (.int .u8 (z0.getD i 0))) ∧ ∀ n ∈ z0,(Lit.int .u8 n).wf = true) (y0 : len0 * 1 ≤ 140737488351232) (w1 : (a1 = none ∧ len1 = 0 ∧ cap1 = 0 ∧ z1 = []) ∨ ∃ x,a1 = some x ∧ len1 ≤ cap1 ∧ cap1 ≤ maxLen ∧ z1.length = cap1 ∧ (∀ i,i < z1.length → w.cell? (x.add i) = some (.int .u8 (z1.getD i 0))) ∧ ∀ n ∈ z1,(Lit.int .u8 n).wf = true) (y1 : len1 * 1 ≤ 140737488351232) (w2 : (a2 = none ∧ len2 = 0 ∧ cap2 = 0 ∧ z2 = []) ∨ ∃ x,a2 = some x ∧ len2 ≤ cap2 ∧ cap2 ≤ maxLen ∧ z2.length = cap2 ∧ (∀ i,i < z2.length → w.cell? (x.add i) = some (.int .u8 (z2.getD i 0))) ∧ ∀ n ∈ z2,(Lit.int .u8 n).wf = true) (y2 : len2 * 1 ≤ 140737488351232) :
  Calls Try.prog 15 #[.slice a0 len0 cap0,.slice a1 len1 cap1,.slice a2 len2 cap2] w fun e w' => e = .returned (.bool true) ∧ Below w.heap.size w w':=by
 obtain ⟨l0,rfl,hr0,hm0,hw0,hc0⟩:=ReadsInt.ofRowC w0
 obtain ⟨l1,rfl,hr1,hm1,hw1,hc1⟩:=ReadsInt.ofRowC w1
 obtain ⟨l2,rfl,hr2,hm2,hw2,hc2⟩:=ReadsInt.ofRowC w2
 obtain ⟨k,h⟩:=P l0 l1 l2 hm0 y0 hw0 hm1 y1 hw1 hm2 y2 hw2
 refine (sacristylaw01_NatOrders.calls k _ _ l0 _ _ l1 _ _ l2 true w (Kd.C_of_reads (d:=(0 : Int)) (h1:=fun _ => rfl) hr0) hc0 (Kd.C_of_reads (d:=(0 : Int)) (h1:=fun _ => rfl) hr1) hc1 (Kd.C_of_reads (d:=(0 : Int)) (h1:=fun _ => rfl) hr2) hc2 h).mono ?_
 rintro e w' ⟨rfl,hd⟩
 exact ⟨rfl,hd⟩
end Go.Proofs.Yteejcpbngnojkaa.P
end
section
namespace Go.Proofs.Yteejcpbngnojkaa.P
open Go.RowKit Go.Proofs.YteejcpbngnojkaaW.PrintWords Go.Proofs.YteejcpbngnojkaaW.PrintLast Go.Proofs.YteejcpbngnojkaaW.PrintMore
attribute [local go_sem] max2_int min2_int max_two min_two max_three min_three max_four min_four
set_option linter.unusedVariables false
set_option linter.unusedSimpArgs false
def sacristyref01_Cmp.l0 : Nat → List Bool → List Bool → Int → Option (Int)
 |0,_,_,_ => none
 |k + 1,x0,x1,x5 => if x5 ≥ 0 then (if 0 ≤ x5 then (if x5 < (x0.length : Int) then (if x5 < (x1.length : Int) then (if ((rdOf false x0 x5) != (rdOf false x1 x5)) = true then (if rdOf false x1 x5 = true then (some (-1)) else (some 1)) else (sacristyref01_Cmp.l0 k x0 x1 (wrap64 (x5 - 1)))) else (none)) else (none)) else (none)) else (some 0)
def sacristyref01_Cmp.f (k : Nat) (l0 : List Bool) (l1 : List Bool) : Option (Int):=if (l0.length : Int) < (l1.length : Int) then (some (-1)) else (if (l0.length : Int) > (l1.length : Int) then (some 1) else (sacristyref01_Cmp.l0 k l0 l1 (wrap64 ((l0.length : Int) - 1))))
theorem sacristyref01_Cmp.mono_l : ∀ k,(∀ y0 y1 y2,LeO (sacristyref01_Cmp.l0 k y0 y1 y2) (sacristyref01_Cmp.l0 (k + 1) y0 y1 y2))
 |0 => fun _ _ _ r h => by simp [sacristyref01_Cmp.l0] at h
 |k + 1 => by
  have ih0:=sacristyref01_Cmp.mono_l k
  ·intro y0 y1 y2
   unfold sacristyref01_Cmp.l0
   repeat' first
   |(with_reducible exact ih0 _ _ _)
   |(with_reducible exact LeO.refl _)
   |(with_reducible exact LeO.none _)
   |(with_reducible refine LeO.ite ?_ ?_)
   |(with_reducible refine LeO.bind ?_ (fun _ => ?_))
   |exact ih0 _ _ _
   |exact LeO.none _
   |refine LeO.ite ?_ ?_
   |refine LeO.bind ?_ (fun _ => ?_)
theorem sacristyref01_Cmp.mono : ∀ a0 a1 k,LeO (sacristyref01_Cmp.f k a0 a1) (sacristyref01_Cmp.f (k + 1) a0 a1):=by
 intro a0 a1 k
 have ih0:=sacristyref01_Cmp.mono_l k
 unfold sacristyref01_Cmp.f
 repeat' first
   |(with_reducible exact ih0 _ _ _)
   |(with_reducible exact LeO.refl _)
   |(with_reducible exact LeO.none _)
   |(with_reducible refine LeO.ite ?_ ?_)
   |(with_reducible refine LeO.bind ?_ (fun _ => ?_))
   |exact ih0 _ _ _
   |exact LeO.none _
   |refine LeO.ite ?_ ?_
   |refine LeO.bind ?_ (fun _ => ?_)
end Go.Proofs.Yteejcpbngnojkaa.P
end
section
namespace Go.Proofs.Yteejcpbngnojkaa.P
open Go.RowKit Go.Proofs.YteejcpbngnojkaaW.PrintWords Go.Proofs.YteejcpbngnojkaaW.PrintLast Go.Proofs.YteejcpbngnojkaaW.PrintMore
attribute [local go_sem] max2_int min2_int max_two min_two max_three min_three max_four min_four
set_option linter.unusedVariables false
set_option linter.unusedSimpArgs false
def sacristyref01_Trim.l0 : Nat → List Bool → Option (List Bool)
 |0,_ => none
 |k + 1,x0 => if (x0.length : Int) > 0 then (if 0 ≤ (wrap64 ((x0.length : Int) - 1)) then (if (wrap64 ((x0.length : Int) - 1)) < (x0.length : Int) then (if (rdOf false x0 (wrap64 ((x0.length : Int) - 1)) = true) then (some x0) else (if (wrap64 ((x0.length : Int) - 1)) ≤ (x0.length : Int) then (sacristyref01_Trim.l0 k (x0.take ((wrap64 ((x0.length : Int) - 1)) : Int).toNat)) else (none))) else (none)) else (none)) else (some x0)
def sacristyref01_Trim.f (k : Nat) (l0 : List Bool) : Option (List Bool):=sacristyref01_Trim.l0 k l0
theorem sacristyref01_Trim.mono_l : ∀ k,(∀ y0,LeO (sacristyref01_Trim.l0 k y0) (sacristyref01_Trim.l0 (k + 1) y0))
 |0 => fun _ r h => by simp [sacristyref01_Trim.l0] at h
 |k + 1 => by
  have ih0:=sacristyref01_Trim.mono_l k
  ·intro y0
   unfold sacristyref01_Trim.l0
   repeat' first
   |(with_reducible exact ih0 _)
   |(with_reducible exact LeO.refl _)
   |(with_reducible exact LeO.none _)
   |(with_reducible refine LeO.ite ?_ ?_)
   |(with_reducible refine LeO.bind ?_ (fun _ => ?_))
   |exact ih0 _
   |exact LeO.none _
   |refine LeO.ite ?_ ?_
   |refine LeO.bind ?_ (fun _ => ?_)
theorem sacristyref01_Trim.mono : ∀ a0 k,LeO (sacristyref01_Trim.f k a0) (sacristyref01_Trim.f (k + 1) a0):=by
 intro a0 k
 have ih0:=sacristyref01_Trim.mono_l k
 unfold sacristyref01_Trim.f
 repeat' first
   |(with_reducible exact ih0 _)
   |(with_reducible exact LeO.refl _)
   |(with_reducible exact LeO.none _)
   |(with_reducible refine LeO.ite ?_ ?_)
   |(with_reducible refine LeO.bind ?_ (fun _ => ?_))
   |exact ih0 _
   |exact LeO.none _
   |refine LeO.ite ?_ ?_
   |refine LeO.bind ?_ (fun _ => ?_)
end Go.Proofs.Yteejcpbngnojkaa.P
end
section
namespace Go.Proofs.Yteejcpbngnojkaa.P
open Go.RowKit Go.Proofs.YteejcpbngnojkaaW.PrintWords Go.Proofs.YteejcpbngnojkaaW.PrintLast Go.Proofs.YteejcpbngnojkaaW.PrintMore
attribute [local go_sem] max2_int min2_int max_two min_two max_three min_three max_four min_four
set_option linter.unusedVariables false
set_option linter.unusedSimpArgs false
def sacristyref01_at.f (l0 : List Bool) (a1 : Int) : Option (Int):=if a1 ≥ 0 then (if a1 < (l0.length : Int) then (if 0 ≤ a1 then (if rdOf false l0 a1 = true then (some 1) else (some 0)) else (none)) else (some 0)) else (some 0)
end Go.Proofs.Yteejcpbngnojkaa.P
end
section
namespace Go.Proofs.Yteejcpbngnojkaa.P
open Go.RowKit Go.Proofs.YteejcpbngnojkaaW.PrintWords Go.Proofs.YteejcpbngnojkaaW.PrintLast Go.Proofs.YteejcpbngnojkaaW.PrintMore
attribute [local go_sem] max2_int min2_int max_two min_two max_three min_three max_four min_four
set_option linter.unusedVariables false
set_option linter.unusedSimpArgs false
def sacristyref01_Sub.l0 : Nat → List Bool → List Bool → List Bool → Int → Int → Option (List Bool)
 |0,_,_,_,_,_ => none
 |k + 1,x0,x1,x5,x6,x7 => if x7 < (x0.length : Int) then ((sacristyref01_at.f x0 x7).bind fun t738 => ((sacristyref01_at.f x1 x7).bind fun t739 => (if (wrap64 ((wrap64 (t738 - t739)) - x6)) < 0 then (if x5.length < 140737488355328 then (sacristyref01_Sub.l0 k x0 x1 (x5 ++ [((wrap64 ((wrap64 ((wrap64 (t738 - t739)) - x6)) + 2)) == 1)]) 1 (wrap64 (x7 + 1))) else (none)) else (if x5.length < 140737488355328 then (sacristyref01_Sub.l0 k x0 x1 (x5 ++ [((wrap64 ((wrap64 (t738 - t739)) - x6)) == 1)]) 0 (wrap64 (x7 + 1))) else (none))))) else ((sacristyref01_Trim.f k x5).bind fun t735 => (some t735))
def sacristyref01_Sub.f (k : Nat) (l0 : List Bool) (l1 : List Bool) : Option (List Bool):=sacristyref01_Sub.l0 k l0 l1 (([] : List Bool)) 0 0
theorem sacristyref01_Sub.mono_l : ∀ k,(∀ y0 y1 y2 y3 y4,LeO (sacristyref01_Sub.l0 k y0 y1 y2 y3 y4) (sacristyref01_Sub.l0 (k + 1) y0 y1 y2 y3 y4))
 |0 => fun _ _ _ _ _ r h => by simp [sacristyref01_Sub.l0] at h
 |k + 1 => by
  have ih0:=sacristyref01_Sub.mono_l k
  ·intro y0 y1 y2 y3 y4
   unfold sacristyref01_Sub.l0
   repeat' first
   |(with_reducible exact ih0 _ _ _ _ _)
   |(with_reducible exact sacristyref01_Trim.mono _ _)
   |(with_reducible exact LeO.refl _)
   |(with_reducible exact LeO.none _)
   |(with_reducible refine LeO.ite ?_ ?_)
   |(with_reducible refine LeO.bind ?_ (fun _ => ?_))
   |exact ih0 _ _ _ _ _
   |exact sacristyref01_Trim.mono _ _
   |exact LeO.none _
   |refine LeO.ite ?_ ?_
   |refine LeO.bind ?_ (fun _ => ?_)
theorem sacristyref01_Sub.mono : ∀ a0 a1 k,LeO (sacristyref01_Sub.f k a0 a1) (sacristyref01_Sub.f (k + 1) a0 a1):=by
 intro a0 a1 k
 have ih0:=sacristyref01_Sub.mono_l k
 unfold sacristyref01_Sub.f
 repeat' first
   |(with_reducible exact ih0 _ _ _ _ _)
   |(with_reducible exact sacristyref01_Trim.mono _ _)
   |(with_reducible exact LeO.refl _)
   |(with_reducible exact LeO.none _)
   |(with_reducible refine LeO.ite ?_ ?_)
   |(with_reducible refine LeO.bind ?_ (fun _ => ?_))
   |exact ih0 _ _ _ _ _
   |exact sacristyref01_Trim.mono _ _
   |exact LeO.none _
   |refine LeO.ite ?_ ?_
   |refine LeO.bind ?_ (fun _ => ?_)
end Go.Proofs.Yteejcpbngnojkaa.P
end
section
namespace Go.Proofs.Yteejcpbngnojkaa.P
open Go.RowKit Go.Proofs.YteejcpbngnojkaaW.PrintWords Go.Proofs.YteejcpbngnojkaaW.PrintLast Go.Proofs.YteejcpbngnojkaaW.PrintMore
attribute [local go_sem] max2_int min2_int max_two min_two max_three min_three max_four min_four
set_option linter.unusedVariables false
set_option linter.unusedSimpArgs false
def sacristyref01_Div.l0 : Nat → List Bool → List Bool → List Bool → List Bool → Int → Option (List Bool × List Bool)
 |0,_,_,_,_,_ => none
 |k + 1,x0,x1,x6,x7,x8 => if x8 ≥ 0 then (if 0 ≤ x8 then (if x8 < (x0.length : Int) then ((some (([rdOf false x0 x8] : List Bool) : List Bool)).bind fun y756 => (if y756.length + x7.length < 140737488355328 then ((sacristyref01_Trim.f k (y756 ++ x7)).bind fun t762 => ((sacristyref01_Cmp.f k t762 x1).bind fun t765 => (if t765 ≥ 0 then ((sacristyref01_Sub.f k t762 x1).bind fun t766 => (if x8 < (x6.length : Int) then (sacristyref01_Div.l0 k x0 x1 (x6.set (x8 : Int).toNat true) t766 (wrap64 (x8 - 1))) else (none))) else (sacristyref01_Div.l0 k x0 x1 x6 t762 (wrap64 (x8 - 1)))))) else (none))) else (none)) else (none)) else ((sacristyref01_Trim.f k x6).bind fun t752 => (some (t752,x7)))
def sacristyref01_Div.f (k : Nat) (l0 : List Bool) (l1 : List Bool) : Option (List Bool × List Bool):=if 0 ≤ (l0.length : Int) then (if ((l0.length : Int) : Int).toNat ≤ 281474976710656 then (sacristyref01_Div.l0 k l0 l1 (List.replicate ((l0.length : Int) : Int).toNat false) (([] : List Bool)) (wrap64 ((l0.length : Int) - 1))) else (none)) else (none)
theorem sacristyref01_Div.mono_l : ∀ k,(∀ y0 y1 y2 y3 y4,LeO (sacristyref01_Div.l0 k y0 y1 y2 y3 y4) (sacristyref01_Div.l0 (k + 1) y0 y1 y2 y3 y4))
 |0 => fun _ _ _ _ _ r h => by simp [sacristyref01_Div.l0] at h
 |k + 1 => by
  have ih0:=sacristyref01_Div.mono_l k
  ·intro y0 y1 y2 y3 y4
   unfold sacristyref01_Div.l0
   repeat' first
   |(with_reducible exact ih0 _ _ _ _ _)
   |(with_reducible exact sacristyref01_Cmp.mono _ _ _)
   |(with_reducible exact sacristyref01_Sub.mono _ _ _)
   |(with_reducible exact sacristyref01_Trim.mono _ _)
   |(with_reducible exact LeO.refl _)
   |(with_reducible exact LeO.none _)
   |(with_reducible refine LeO.ite ?_ ?_)
   |(with_reducible refine LeO.bind ?_ (fun _ => ?_))
   |exact ih0 _ _ _ _ _
   |exact sacristyref01_Cmp.mono _ _ _
   |exact sacristyref01_Sub.mono _ _ _
   |exact sacristyref01_Trim.mono _ _
   |exact LeO.none _
   |refine LeO.ite ?_ ?_
   |refine LeO.bind ?_ (fun _ => ?_)
theorem sacristyref01_Div.mono : ∀ a0 a1 k,LeO (sacristyref01_Div.f k a0 a1) (sacristyref01_Div.f (k + 1) a0 a1):=by
 intro a0 a1 k
 have ih0:=sacristyref01_Div.mono_l k
 unfold sacristyref01_Div.f
 repeat' first
   |(with_reducible exact ih0 _ _ _ _ _)
   |(with_reducible exact sacristyref01_Cmp.mono _ _ _)
   |(with_reducible exact sacristyref01_Sub.mono _ _ _)
   |(with_reducible exact sacristyref01_Trim.mono _ _)
   |(with_reducible exact LeO.refl _)
   |(with_reducible exact LeO.none _)
   |(with_reducible refine LeO.ite ?_ ?_)
   |(with_reducible refine LeO.bind ?_ (fun _ => ?_))
   |exact ih0 _ _ _ _ _
   |exact sacristyref01_Cmp.mono _ _ _
   |exact sacristyref01_Sub.mono _ _ _
   |exact sacristyref01_Trim.mono _ _
   |exact LeO.none _
   |refine LeO.ite ?_ ?_
   |refine LeO.bind ?_ (fun _ => ?_)
end Go.Proofs.Yteejcpbngnojkaa.P
end
section
namespace Go.Proofs.Yteejcpbngnojkaa.P
open Go.RowKit Go.Proofs.YteejcpbngnojkaaW.PrintWords Go.Proofs.YteejcpbngnojkaaW.PrintLast Go.Proofs.YteejcpbngnojkaaW.PrintMore
attribute [local go_sem] max2_int min2_int max_two min_two max_three min_three max_four min_four
set_option linter.unusedVariables false
set_option linter.unusedSimpArgs false
def sacristyref01_Gcd.l0 : Nat → List Bool → List Bool → Option (List Bool)
 |0,_,_ => none
 |k + 1,x0,x1 => if (x1.length : Int) > 0 then ((sacristyref01_Div.f k x0 x1).bind fun bt770 => (sacristyref01_Gcd.l0 k x1 bt770.2)) else (some x0)
def sacristyref01_Gcd.f (k : Nat) (l0 : List Bool) (l1 : List Bool) : Option (List Bool):=sacristyref01_Gcd.l0 k l0 l1
theorem sacristyref01_Gcd.mono_l : ∀ k,(∀ y0 y1,LeO (sacristyref01_Gcd.l0 k y0 y1) (sacristyref01_Gcd.l0 (k + 1) y0 y1))
 |0 => fun _ _ r h => by simp [sacristyref01_Gcd.l0] at h
 |k + 1 => by
  have ih0:=sacristyref01_Gcd.mono_l k
  ·intro y0 y1
   unfold sacristyref01_Gcd.l0
   repeat' first
   |(with_reducible exact ih0 _ _)
   |(with_reducible exact sacristyref01_Div.mono _ _ _)
   |(with_reducible exact LeO.refl _)
   |(with_reducible exact LeO.none _)
   |(with_reducible refine LeO.ite ?_ ?_)
   |(with_reducible refine LeO.bind ?_ (fun _ => ?_))
   |exact ih0 _ _
   |exact sacristyref01_Div.mono _ _ _
   |exact LeO.none _
   |refine LeO.ite ?_ ?_
   |refine LeO.bind ?_ (fun _ => ?_)
theorem sacristyref01_Gcd.mono : ∀ a0 a1 k,LeO (sacristyref01_Gcd.f k a0 a1) (sacristyref01_Gcd.f (k + 1) a0 a1):=by
 intro a0 a1 k
 have ih0:=sacristyref01_Gcd.mono_l k
 unfold sacristyref01_Gcd.f
 repeat' first
   |(with_reducible exact ih0 _ _)
   |(with_reducible exact sacristyref01_Div.mono _ _ _)
   |(with_reducible exact LeO.refl _)
   |(with_reducible exact LeO.none _)
   |(with_reducible refine LeO.ite ?_ ?_)
   |(with_reducible refine LeO.bind ?_ (fun _ => ?_))
   |exact ih0 _ _
   |exact sacristyref01_Div.mono _ _ _
   |exact LeO.none _
   |refine LeO.ite ?_ ?_
   |refine LeO.bind ?_ (fun _ => ?_)
end Go.Proofs.Yteejcpbngnojkaa.P
end
section
namespace Go.Proofs.Yteejcpbngnojkaa.P
open Go.RowKit Go.Proofs.YteejcpbngnojkaaW.PrintWords Go.Proofs.YteejcpbngnojkaaW.PrintLast Go.Proofs.YteejcpbngnojkaaW.PrintMore
attribute [local go_sem] max2_int min2_int max_two min_two max_three min_three max_four min_four
set_option linter.unusedVariables false
set_option linter.unusedSimpArgs false
mutual
def sacristyref01_Add.l0 : Nat → List Bool → List Bool → List Bool → Int → Int → Option (List Bool)
 |0,_,_,_,_,_ => none
 |k + 1,x0,x1,x5,x6,x7 => if x7 < (x0.length : Int) then (sacristyref01_Add.j1 k x0 x1 x5 x6 x7 true) else (if x7 < (x1.length : Int) then (sacristyref01_Add.j1 k x0 x1 x5 x6 x7 true) else (sacristyref01_Add.j1 k x0 x1 x5 x6 x7 (decide (x6 > 0))))
def sacristyref01_Add.j1 : Nat → List Bool → List Bool → List Bool → Int → Int → Bool → Option (List Bool)
 |0,_,_,_,_,_,_ => none
 |k + 1,x0,x1,x5,x6,x7,x23 => if x23 = true then ((sacristyref01_at.f x0 x7).bind fun t853 => ((sacristyref01_at.f x1 x7).bind fun t854 => (if x5.length < 140737488355328 then (sacristyref01_Add.l0 k x0 x1 (x5 ++ [((Int.tmod (wrap64 ((wrap64 (t853 + t854)) + x6)) 2) == 1)]) (wrap64 (Int.tdiv (wrap64 ((wrap64 (t853 + t854)) + x6)) 2)) (wrap64 (x7 + 1))) else (none)))) else ((sacristyref01_Trim.f k x5).bind fun t858 => (some t858))
end
def sacristyref01_Add.f (k : Nat) (l0 : List Bool) (l1 : List Bool) : Option (List Bool):=sacristyref01_Add.l0 k l0 l1 (([] : List Bool)) 0 0
theorem sacristyref01_Add.mono_l : ∀ k,(∀ y0 y1 y2 y3 y4,LeO (sacristyref01_Add.l0 k y0 y1 y2 y3 y4) (sacristyref01_Add.l0 (k + 1) y0 y1 y2 y3 y4)) ∧ (∀ y0 y1 y2 y3 y4 y5,LeO (sacristyref01_Add.j1 k y0 y1 y2 y3 y4 y5) (sacristyref01_Add.j1 (k + 1) y0 y1 y2 y3 y4 y5))
 |0 => ⟨fun _ _ _ _ _ r h => by simp [sacristyref01_Add.l0] at h,fun _ _ _ _ _ _ r h => by simp [sacristyref01_Add.j1] at h⟩
 |k + 1 => by
  obtain ⟨ih0,ih1⟩:=sacristyref01_Add.mono_l k
  refine ⟨?_,?_⟩
  ·intro y0 y1 y2 y3 y4
   unfold sacristyref01_Add.l0
   repeat' first
   |(with_reducible exact ih0 _ _ _ _ _)
   |(with_reducible exact ih1 _ _ _ _ _ _)
   |(with_reducible exact sacristyref01_Trim.mono _ _)
   |(with_reducible exact LeO.refl _)
   |(with_reducible exact LeO.none _)
   |(with_reducible refine LeO.ite ?_ ?_)
   |(with_reducible refine LeO.bind ?_ (fun _ => ?_))
   |exact ih0 _ _ _ _ _
   |exact ih1 _ _ _ _ _ _
   |exact sacristyref01_Trim.mono _ _
   |exact LeO.none _
   |refine LeO.ite ?_ ?_
   |refine LeO.bind ?_ (fun _ => ?_)
  ·intro y0 y1 y2 y3 y4 y5
   unfold sacristyref01_Add.j1
   repeat' first
   |(with_reducible exact ih0 _ _ _ _ _)
   |(with_reducible exact ih1 _ _ _ _ _ _)
   |(with_reducible exact sacristyref01_Trim.mono _ _)
   |(with_reducible exact LeO.refl _)
   |(with_reducible exact LeO.none _)
   |(with_reducible refine LeO.ite ?_ ?_)
   |(with_reducible refine LeO.bind ?_ (fun _ => ?_))
   |exact ih0 _ _ _ _ _
   |exact ih1 _ _ _ _ _ _
   |exact sacristyref01_Trim.mono _ _
   |exact LeO.none _
   |refine LeO.ite ?_ ?_
   |refine LeO.bind ?_ (fun _ => ?_)
theorem sacristyref01_Add.mono : ∀ a0 a1 k,LeO (sacristyref01_Add.f k a0 a1) (sacristyref01_Add.f (k + 1) a0 a1):=by
 intro a0 a1 k
 obtain ⟨ih0,ih1⟩:=sacristyref01_Add.mono_l k
 unfold sacristyref01_Add.f
 repeat' first
   |(with_reducible exact ih0 _ _ _ _ _)
   |(with_reducible exact ih1 _ _ _ _ _ _)
   |(with_reducible exact sacristyref01_Trim.mono _ _)
   |(with_reducible exact LeO.refl _)
   |(with_reducible exact LeO.none _)
   |(with_reducible refine LeO.ite ?_ ?_)
   |(with_reducible refine LeO.bind ?_ (fun _ => ?_))
   |exact ih0 _ _ _ _ _
   |exact ih1 _ _ _ _ _ _
   |exact sacristyref01_Trim.mono _ _
   |exact LeO.none _
   |refine LeO.ite ?_ ?_
   |refine LeO.bind ?_ (fun _ => ?_)
end Go.Proofs.Yteejcpbngnojkaa.P
end
section
namespace Go.Proofs.Yteejcpbngnojkaa.P
open Go.RowKit Go.Proofs.YteejcpbngnojkaaW.PrintWords Go.Proofs.YteejcpbngnojkaaW.PrintLast Go.Proofs.YteejcpbngnojkaaW.PrintMore
attribute [local go_sem] max2_int min2_int max_two min_two max_three min_three max_four min_four
set_option linter.unusedVariables false
set_option linter.unusedSimpArgs false
def sacristyref01_Shift.f (l0 : List Bool) (a1 : Int) : Option (List Bool):=if (l0.length : Int) = 0 then (some (([] : List Bool))) else (if 0 ≤ a1 then (if (a1 : Int).toNat ≤ 281474976710656 then ((some (List.replicate (a1 : Int).toNat false : List Bool)).bind fun y864 => (if y864.length + l0.length < 140737488355328 then (some (y864 ++ l0)) else (none))) else (none)) else (none))
end Go.Proofs.Yteejcpbngnojkaa.P
end
section
namespace Go.Proofs.Yteejcpbngnojkaa.P
open Go.RowKit Go.Proofs.YteejcpbngnojkaaW.PrintWords Go.Proofs.YteejcpbngnojkaaW.PrintLast Go.Proofs.YteejcpbngnojkaaW.PrintMore
attribute [local go_sem] max2_int min2_int max_two min_two max_three min_three max_four min_four
set_option linter.unusedVariables false
set_option linter.unusedSimpArgs false
def sacristyref01_Mul.l0 : Nat → List Bool → List Bool → List Bool → Int → Int → Option (List Bool)
 |0,_,_,_,_,_ => none
 |k + 1,x0,x5,x9,x10,x11 => if x11 < x10 then (if 0 ≤ x11 then (if x11 < (x9.length : Int) then (if rdOf false x9 x11 = true then ((sacristyref01_Shift.f x0 x11).bind fun t874 => ((sacristyref01_Add.f k x5 t874).bind fun t877 => (sacristyref01_Mul.l0 k x0 t877 x9 x10 (wrap64 (x11 + 1))))) else (sacristyref01_Mul.l0 k x0 x5 x9 x10 (wrap64 (x11 + 1)))) else (none)) else (none)) else (some x5)
def sacristyref01_Mul.f (k : Nat) (l0 : List Bool) (l1 : List Bool) : Option (List Bool):=sacristyref01_Mul.l0 k l0 (([] : List Bool)) l1 (l1.length : Int) 0
theorem sacristyref01_Mul.mono_l : ∀ k,(∀ y0 y1 y2 y3 y4,LeO (sacristyref01_Mul.l0 k y0 y1 y2 y3 y4) (sacristyref01_Mul.l0 (k + 1) y0 y1 y2 y3 y4))
 |0 => fun _ _ _ _ _ r h => by simp [sacristyref01_Mul.l0] at h
 |k + 1 => by
  have ih0:=sacristyref01_Mul.mono_l k
  ·intro y0 y1 y2 y3 y4
   unfold sacristyref01_Mul.l0
   repeat' first
   |(with_reducible exact ih0 _ _ _ _ _)
   |(with_reducible exact sacristyref01_Add.mono _ _ _)
   |(with_reducible exact LeO.refl _)
   |(with_reducible exact LeO.none _)
   |(with_reducible refine LeO.ite ?_ ?_)
   |(with_reducible refine LeO.bind ?_ (fun _ => ?_))
   |exact ih0 _ _ _ _ _
   |exact sacristyref01_Add.mono _ _ _
   |exact LeO.none _
   |refine LeO.ite ?_ ?_
   |refine LeO.bind ?_ (fun _ => ?_)
theorem sacristyref01_Mul.mono : ∀ a0 a1 k,LeO (sacristyref01_Mul.f k a0 a1) (sacristyref01_Mul.f (k + 1) a0 a1):=by
 intro a0 a1 k
 have ih0:=sacristyref01_Mul.mono_l k
 unfold sacristyref01_Mul.f
 repeat' first
   |(with_reducible exact ih0 _ _ _ _ _)
   |(with_reducible exact sacristyref01_Add.mono _ _ _)
   |(with_reducible exact LeO.refl _)
   |(with_reducible exact LeO.none _)
   |(with_reducible refine LeO.ite ?_ ?_)
   |(with_reducible refine LeO.bind ?_ (fun _ => ?_))
   |exact ih0 _ _ _ _ _
   |exact sacristyref01_Add.mono _ _ _
   |exact LeO.none _
   |refine LeO.ite ?_ ?_
   |refine LeO.bind ?_ (fun _ => ?_)
end Go.Proofs.Yteejcpbngnojkaa.P
end
section
namespace Go.Proofs.Yteejcpbngnojkaa.P
open Go.RowKit Go.Proofs.YteejcpbngnojkaaW.PrintWords Go.Proofs.YteejcpbngnojkaaW.PrintLast Go.Proofs.YteejcpbngnojkaaW.PrintMore
attribute [local go_sem] max2_int min2_int max_two min_two max_three min_three max_four min_four
set_option linter.unusedVariables false
set_option linter.unusedSimpArgs false
mutual
def sacristyref01_Of.l0 : Nat → List Int → List Bool → Int → Option (List Bool)
 |0,_,_,_ => none
 |k + 1,x0,x3,x4 => if x4 ≥ 0 then (sacristyref01_Of.l1 k x0 x3 x4 0) else ((sacristyref01_Trim.f k x3).bind fun t462 => (some t462))
def sacristyref01_Of.l1 : Nat → List Int → List Bool → Int → Int → Option (List Bool)
 |0,_,_,_,_ => none
 |k + 1,x0,x3,x4,x5 => if x5 < 8 then (if 0 ≤ x4 then (if x4 < (x0.length : Int) then (if 0 ≤ x5 then (if x3.length < 140737488355328 then (sacristyref01_Of.l1 k x0 (x3 ++ [((Int.tmod (shr .u8 (rd x0 x4) x5) 2) == 1)]) x4 (wrap64 (x5 + 1))) else (none)) else (none)) else (none)) else (none)) else (sacristyref01_Of.l0 k x0 x3 (wrap64 (x4 - 1)))
end
def sacristyref01_Of.f (k : Nat) (l0 : List Int) : Option (List Bool):=sacristyref01_Of.l0 k l0 (([] : List Bool)) (wrap64 ((l0.length : Int) - 1))
theorem sacristyref01_Of.mono_l : ∀ k,(∀ y0 y1 y2,LeO (sacristyref01_Of.l0 k y0 y1 y2) (sacristyref01_Of.l0 (k + 1) y0 y1 y2)) ∧ (∀ y0 y1 y2 y3,LeO (sacristyref01_Of.l1 k y0 y1 y2 y3) (sacristyref01_Of.l1 (k + 1) y0 y1 y2 y3))
 |0 => ⟨fun _ _ _ r h => by simp [sacristyref01_Of.l0] at h,fun _ _ _ _ r h => by simp [sacristyref01_Of.l1] at h⟩
 |k + 1 => by
  obtain ⟨ih0,ih1⟩:=sacristyref01_Of.mono_l k
  refine ⟨?_,?_⟩
  ·intro y0 y1 y2
   unfold sacristyref01_Of.l0
   repeat' first
   |(with_reducible exact ih0 _ _ _)
   |(with_reducible exact ih1 _ _ _ _)
   |(with_reducible exact sacristyref01_Trim.mono _ _)
   |(with_reducible exact LeO.refl _)
   |(with_reducible exact LeO.none _)
   |(with_reducible refine LeO.ite ?_ ?_)
   |(with_reducible refine LeO.bind ?_ (fun _ => ?_))
   |exact ih0 _ _ _
   |exact ih1 _ _ _ _
   |exact sacristyref01_Trim.mono _ _
   |exact LeO.none _
   |refine LeO.ite ?_ ?_
   |refine LeO.bind ?_ (fun _ => ?_)
  ·intro y0 y1 y2 y3
   unfold sacristyref01_Of.l1
   repeat' first
   |(with_reducible exact ih0 _ _ _)
   |(with_reducible exact ih1 _ _ _ _)
   |(with_reducible exact sacristyref01_Trim.mono _ _)
   |(with_reducible exact LeO.refl _)
   |(with_reducible exact LeO.none _)
   |(with_reducible refine LeO.ite ?_ ?_)
   |(with_reducible refine LeO.bind ?_ (fun _ => ?_))
   |exact ih0 _ _ _
   |exact ih1 _ _ _ _
   |exact sacristyref01_Trim.mono _ _
   |exact LeO.none _
   |refine LeO.ite ?_ ?_
   |refine LeO.bind ?_ (fun _ => ?_)
theorem sacristyref01_Of.mono : ∀ a0 k,LeO (sacristyref01_Of.f k a0) (sacristyref01_Of.f (k + 1) a0):=by
 intro a0 k
 obtain ⟨ih0,ih1⟩:=sacristyref01_Of.mono_l k
 unfold sacristyref01_Of.f
 repeat' first
   |(with_reducible exact ih0 _ _ _)
   |(with_reducible exact ih1 _ _ _ _)
   |(with_reducible exact sacristyref01_Trim.mono _ _)
   |(with_reducible exact LeO.refl _)
   |(with_reducible exact LeO.none _)
   |(with_reducible refine LeO.ite ?_ ?_)
   |(with_reducible refine LeO.bind ?_ (fun _ => ?_))
   |exact ih0 _ _ _
   |exact ih1 _ _ _ _
   |exact sacristyref01_Trim.mono _ _
   |exact LeO.none _
   |refine LeO.ite ?_ ?_
   |refine LeO.bind ?_ (fun _ => ?_)
end Go.Proofs.Yteejcpbngnojkaa.P
end
section
namespace Go.Proofs.Yteejcpbngnojkaa.P
open Go.RowKit Go.Proofs.YteejcpbngnojkaaW.PrintWords Go.Proofs.YteejcpbngnojkaaW.PrintLast Go.Proofs.YteejcpbngnojkaaW.PrintMore
open Go.Proofs.Yteejcpbngnojkaa.Num
set_option linter.unusedVariables false
def gb (l : List Bool) (j : Nat) : Bool := l.getD j false
theorem rdB (l : List Bool) (i : Nat) : rdOf false l (i : Int) = gb l i := by simp [rdOf, gb]
theorem gb_eq {l : List Bool} {j : Nat} (h : j < l.length) : gb l j = l[j] := by simp [gb, List.getD_eq_getElem?_getD, List.getElem?_eq_getElem h]
theorem gb_out {l : List Bool} {j : Nat} (h : l.length ≤ j) : gb l j = false := by simp [gb, List.getD_eq_getElem?_getD, List.getElem?_eq_none h]
theorem winc {n : Nat} (h : n ≤ 4611686018427387904) : wrap64 ((n : Int) + 1) = ((n + 1 : Nat) : Int) := by rw [w64 (by omega) (by omega)]; omega
theorem bit_toNat (n : Nat) : (n % 2 == 1).toNat = n % 2 := by
  have := Nat.mod_lt n (show 0 < 2 by omega)
  rcases Nat.mod_two_eq_zero_or_one n with h | h <;> rw [h] <;> rfl
theorem rSmall_ev (x : Nat) : ∀ (acc : List Bool), x < 18446744073709551616 → acc.length + (toB x).length ≤ 1000 → Ev (fun k => sacristyref01_Small.l0 k (x : Int) acc) (acc ++ toB x) := by
  induction x using Nat.strongRecOn with
  | ind x ih =>
    intro acc hx hacc
    by_cases h0 : x = 0
    · subst h0
      rw [toB_zero, List.append_nil]
      exact Ev.step (fun k => by simp only [sacristyref01_Small.l0]; rw [if_neg (by omega)]) (Ev.now _)
    · rw [toB_pos (by omega)] at hacc ⊢
      have c1 : (x : Int) > 0 := by omega
      have c2 : acc.length < 140737488355328 := by omega
      have e1 : IntKind.u64.wrap (Int.tdiv (x : Int) 2) = ((x / 2 : Nat) : Int) := by
        rw [show (2 : Int) = ((2 : Nat) : Int) from rfl, ← Int.ofNat_tdiv, wu64 (by omega) (by omega)]
      have e2 : (Int.tmod (x : Int) 2 == 1) = (x % 2 == 1) := by
        rw [show (2 : Int) = ((2 : Nat) : Int) from rfl, ← Int.ofNat_tmod, Bool.eq_iff_iff, beq_iff_eq, beq_iff_eq]; omega
      have h := ih (x / 2) (by omega) (acc ++ [(x % 2 == 1)]) (by omega) (by simp at hacc ⊢; omega)
      rw [List.append_assoc] at h
      refine Ev.step (fun k => ?_) h
      simp only [sacristyref01_Small.l0]
      rw [if_pos c1, if_pos c2, e1, e2]
theorem rSmall (x : Nat) (hx : x < 18446744073709551616) : Ev (fun k => sacristyref01_Small.f k (x : Int)) (toB x) := by
  have h64 : (toB x).length ≤ 64 := toB_len_le 64 x hx
  have := rSmall_ev x [] hx (by simp; omega)
  simpa [sacristyref01_Small.f] using this
theorem gb_toB (a i : Nat) : (gb (toB a) i).toNat = a / 2 ^ i % 2 := by
  by_cases h : i < (toB a).length
  · rw [gb_eq h, toB_get, bit_toNat]
  · rw [gb_out (by omega)]
    have h1 := toB_lt a
    have h2 : 2 ^ (toB a).length ≤ 2 ^ i := Nat.pow_le_pow_right (by omega) (by omega)
    rw [Nat.div_eq_of_lt (by omega)]
    rfl
theorem mod_snoc (a i : Nat) : a % 2 ^ (i + 1) = a % 2 ^ i + 2 ^ i * (a / 2 ^ i % 2) := Nat.mod_pow_succ ..
end Go.Proofs.Yteejcpbngnojkaa.P
end
section
namespace Go.Proofs.Yteejcpbngnojkaa.P
open Go.RowKit Go.Proofs.YteejcpbngnojkaaW.PrintWords Go.Proofs.YteejcpbngnojkaaW.PrintLast Go.Proofs.YteejcpbngnojkaaW.PrintMore
attribute [local go_sem] max2_int min2_int max_two min_two max_three min_three max_four min_four
set_option linter.unusedVariables false
set_option linter.unusedSimpArgs false
def sacristylaw01_ref.f (k : Nat) (l0 : List Int) : Option (List Bool):=if 0 ≤ (mn (l0.length : Int) 48) then (if (mn (l0.length : Int) 48) ≤ (l0.length : Int) then ((sacristyref01_Of.f k (l0.take ((mn (l0.length : Int) 48) : Int).toNat)).bind fun t512 => (some t512)) else (none)) else (none)
theorem sacristylaw01_ref.mono : ∀ a0 k,LeO (sacristylaw01_ref.f k a0) (sacristylaw01_ref.f (k + 1) a0):=by
 intro a0 k
 unfold sacristylaw01_ref.f
 repeat' first
   |(with_reducible exact sacristyref01_Of.mono _ _)
   |(with_reducible exact LeO.refl _)
   |(with_reducible exact LeO.none _)
   |(with_reducible refine LeO.ite ?_ ?_)
   |(with_reducible refine LeO.bind ?_ (fun _ => ?_))
   |exact sacristyref01_Of.mono _ _
   |exact LeO.none _
   |refine LeO.ite ?_ ?_
   |refine LeO.bind ?_ (fun _ => ?_)
end Go.Proofs.Yteejcpbngnojkaa.P
end
section
namespace Go.Proofs.Yteejcpbngnojkaa.P
open Go.RowKit Go.Proofs.YteejcpbngnojkaaW.PrintWords Go.Proofs.YteejcpbngnojkaaW.PrintLast Go.Proofs.YteejcpbngnojkaaW.PrintMore
open Go.Proofs.Yteejcpbngnojkaa.Num
set_option linter.unusedVariables false
theorem pw_two (q : Nat) : pw q = 2 ^ (32 * q) := by
  unfold pw; rw [show (4294967296 : Nat) = 2 ^ 32 from by decide, ← Nat.pow_mul]
theorem pow256 (i : Nat) : 256 ^ i = pw (i / 4) * 2 ^ (8 * (i % 4)) := by
  rw [pw_two, ← Nat.pow_add, show (256 : Nat) = 2 ^ 8 from by decide, ← Nat.pow_mul]
  congr 1
  omega
theorem toB_len_eq {n L : Nat} (hL : 0 < L) (h1 : n < 2 ^ L) (h2 : 2 ^ (L - 1) ≤ n) : (toB n).length = L := by
  have h3 := toB_len_le L n h1
  have h4 := toB_len_gt (L - 1) n h2
  omega
theorem bits_len {n m r : Nat} (hm : 1 ≤ m) (hr : 0 < r) (h1 : n / pw (m - 1) < 2 ^ r) (h2 : 2 ^ (r - 1) ≤ n / pw (m - 1)) : (toB n).length = 32 * (m - 1) + r := by
  refine toB_len_eq (by omega) ?_ ?_
  · rw [Nat.div_lt_iff_lt_mul (pw_pos _), Nat.mul_comm, pw_two, ← Nat.pow_add] at h1
    exact h1
  · rw [Nat.le_div_iff_mul_le (pw_pos _), pw_two, ← Nat.pow_add] at h2
    rw [show 32 * (m - 1) + r - 1 = r - 1 + 32 * (m - 1) by omega]
    exact h2
theorem Bits_toW (n : Nat) (hn : (toW n).length ≤ 1048576) : nat_Nat_Bits.f (toW n) = some (((toB n).length : Nat) : Int) := by
  unfold nat_Nat_Bits.f
  by_cases h0 : n = 0
  · subst h0; simp [toW_zero, toB_zero]
  · have hne : (toW n).length ≠ 0 := by rw [Ne, List.length_eq_zero_iff, toW_eq_nil]; exact h0
    obtain ⟨m, hm⟩ : ∃ m, (toW n).length = m := ⟨_, rfl⟩
    have c1 : ¬ (((toW n).length : Nat) : Int) = 0 := by omega
    have c2 : (0 : Int) ≤ ((m - 1 : Nat) : Int) := by omega
    have c3 : ((m - 1 : Nat) : Int) < (m : Int) := by omega
    have hm1 : 1 ≤ m := by omega
    have hm2 : m ≤ 1048576 := by omega
    have hlo : pw (m - 1) ≤ n := toW_len_lt (by omega)
    have hhi : n < pw m := by have := toW_lt n; rwa [hm] at this
    have hd : n / pw (m - 1) < 4294967296 := by
      rw [Nat.div_lt_iff_lt_mul (pw_pos _), Nat.mul_comm, ← pw_succ, show m - 1 + 1 = m by omega]; exact hhi
    have hp : 0 < n / pw (m - 1) := Nat.div_pos hlo (pw_pos _)
    have hg : gw (toW n) (m - 1) = ((n / pw (m - 1) : Nat) : Int) := by rw [toW_gw, Nat.mod_eq_of_lt hd]
    obtain ⟨r, hr, hr32, hlt, hge⟩ := len32 (gw (toW n) (m - 1)) (by rw [hg]; exact Int.natCast_nonneg _) (by rw [hg]; exact Int.ofNat_lt.2 hd)
    rw [hg] at hlt hge
    rw [Int.toNat_natCast] at hlt hge
    obtain ⟨h3, h4⟩ := hge (Int.natCast_pos.2 hp)
    have hlen := bits_len hm1 h3 hlt h4
    have w1 : wrap64 ((m : Int) - 1) = ((m - 1 : Nat) : Int) := by clear hlen hr; rw [w64 (by omega) (by omega)]; omega
    have w2 : wrap64 (wrap64 (32 * ((m - 1 : Nat) : Int)) + (r : Int)) = ((32 * (m - 1) + r : Nat) : Int) := by
      clear hlen hr w1 hd hp hlt h4 hlo hhi hg
      rw [w64 (x := 32 * ((m - 1 : Nat) : Int)) (by omega) (by omega), w64 (by omega) (by omega)]; omega
    rw [if_neg c1, hm, w1, if_pos c2, if_pos c3, rd_gw, hr]
    simp only [Option.bind_some]
    rw [w2, hlen]
theorem fb_round (a b : Int) (y : Nat) (hy : y = 0 ∨ y = 8 ∨ y = 16 ∨ y = 24) (ha0 : 0 ≤ a) (ha : a.toNat < 2 ^ y) (hb0 : 0 ≤ b) (hb : b < 256) :
    Go.bits .or .u32 a (shl .u32 (b % 4294967296) (y : Int)) = ((a.toNat + b.toNat * 2 ^ y : Nat) : Int) ∧ a.toNat + b.toNat * 2 ^ y < 4294967296 := by
  obtain ⟨n, rfl⟩ := Int.eq_ofNat_of_zero_le ha0
  obtain ⟨m, rfl⟩ := Int.eq_ofNat_of_zero_le hb0
  simp only [Int.toNat_natCast] at ha ⊢
  have hmin : min y IntKind.u32.bits = y := Nat.min_eq_left (by show y ≤ 32; omega)
  have hs : shl .u32 ((m : Int) % 4294967296) (y : Int) = ((m * 2 ^ y : Nat) : Int) := by
    unfold shl
    rw [Int.toNat_natCast, hmin]
    have e1 : (m : Int) % 4294967296 = (m : Int) := by omega
    have e2 : (m : Int) * 2 ^ y = ((m * 2 ^ y : Nat) : Int) := by simp
    rw [e1, e2]
    rcases hy with rfl | rfl | rfl | rfl <;> exact wraps_u32 _ (by omega) (by omega)
  rw [hs]
  rcases hy with rfl | rfl | rfl | rfl
  all_goals
    refine ⟨?_, by omega⟩
    rw [bits_join_low .u32 32 (by decide) wraps_u32 _ (n : Int) ((m * 2 ^ _ : Nat) : Int) (by omega) (by first | exact_mod_cast ha) (by omega) (by omega) (by omega) (by omega)]
    omega
structure FBInv (l : List Int) (i : Nat) (row : List Int) : Prop where
  len : row.length = (l.length + 3) / 4
  sz : Sized row
  eq : valW row = valL (l.reverse.take i)
theorem digit_lt {row : List Int} (hs : Sized row) {q c : Nat} (hq : q < row.length) (h : valW row < pw q * c) : (gw row q).toNat < c := by
  have h1 : valW row = valW (row.take q) + pw q * valW (row.drop q) := valW_drop (by omega)
  have h2 : row.drop q = gw row q :: row.drop (q + 1) := by rw [List.drop_eq_getElem_cons hq, gw_eq hq]
  rw [h2, valW_cons] at h1
  have h3 : pw q * (gw row q).toNat < pw q * c := by
    rw [Nat.mul_add] at h1
    omega
  exact Nat.lt_of_mul_lt_mul_left h3
theorem valW_set' {row : List Int} {q : Nat} (hq : q < row.length) {x : Int} (hx : 0 ≤ x) : valW (row.set q x) + pw q * (gw row q).toNat = valW row + pw q * x.toNat := by
  have := val_set (β := 4294967296) (enc := Int.toNat) row q x hq
  rw [← gw_eq hq] at this
  exact this
theorem fb_loop (l : List Int) (hb : Bytes l) (hl : l.length ≤ 128) (d : Nat) : ∀ (i : Nat) (row : List Int), FBInv l i row → i + d = l.length →
    Ev (fun k => nat_FromBytes.l0 k l row (l.length : Int) (i : Int)) (toW (valH l), 0) := by
  induction d with
  | zero =>
    intro i row h hi
    obtain rfl : i = l.length := by omega
    have ht := trim_ev row h.sz (by rw [h.len]; omega)
    have hv : valW row = valH l := by rw [h.eq, List.take_of_length_le (by simp)]; rfl
    rw [hv] at ht
    exact Ev.step (fun k => by simp only [nat_FromBytes.l0]; rw [if_neg (by omega)]) (Ev.bind (f := fun _ t => some (t, (0 : Int))) ht (Ev.now _))
  | succ d ih =>
    intro i row h hi
    have hrl := h.len
    have hil : i < l.length := by omega
    have c1 : (i : Int) < (l.length : Int) := by omega
    have c2 : (0 : Int) ≤ ((l.length - 1 - i : Nat) : Int) := by omega
    have c3 : ((l.length - 1 - i : Nat) : Int) < (l.length : Int) := by omega
    have c4 : (0 : Int) ≤ ((i / 4 : Nat) : Int) := by omega
    have c5 : ((i / 4 : Nat) : Int) < (row.length : Int) := by omega
    have c6 : (0 : Int) ≤ ((8 * (i % 4) : Nat) : Int) := by omega
    have hq : i / 4 < row.length := by omega
    have hy : 8 * (i % 4) = 0 ∨ 8 * (i % 4) = 8 ∨ 8 * (i % 4) = 16 ∨ 8 * (i % 4) = 24 := by omega
    have i1 : i + 1 + d = l.length := by omega
    have hgl : gw l (l.length - 1 - i) = gw l.reverse i := by
      rw [gw_eq (by omega), gw_eq (by simp; omega), List.getElem_reverse]
    have g := hb.gw (l.length - 1 - i)
    have gr := h.sz.gw (i / 4)
    have hval : valW row < 256 ^ i := by
      have := valL_lt (hb.reverse.take i)
      rw [List.length_take, List.length_reverse, Nat.min_eq_left (by omega)] at this
      rw [h.eq]; exact this
    rw [pow256] at hval
    have hdig := digit_lt h.sz hq hval
    obtain ⟨e1, e2⟩ := fb_round (gw row (i / 4)) (gw l (l.length - 1 - i)) (8 * (i % 4)) hy gr.1 hdig g.1 g.2
    have hst : FBInv l (i + 1) (row.set (i / 4) (((gw row (i / 4)).toNat + (gw l (l.length - 1 - i)).toNat * 2 ^ (8 * (i % 4)) : Nat) : Int)) := by
      refine ⟨by rw [List.length_set]; exact h.len, h.sz.set _ ⟨Int.natCast_nonneg _, Int.ofNat_lt.2 e2⟩, ?_⟩
      have e3 := valW_set' hq (x := (((gw row (i / 4)).toNat + (gw l (l.length - 1 - i)).toNat * 2 ^ (8 * (i % 4)) : Nat) : Int)) (Int.natCast_nonneg _)
      rw [Int.toNat_natCast] at e3
      have e4 : valL (l.reverse.take (i + 1)) = valL (l.reverse.take i) + 256 ^ i * (gw l (l.length - 1 - i)).toNat := by
        rw [take_snoc (by simp; omega), valL_append, valL_one, hgl, List.length_take, List.length_reverse, Nat.min_eq_left (by omega)]
      rw [e4, ← h.eq, pow256]
      generalize 2 ^ (8 * (i % 4)) = P at *
      generalize pw (i / 4) = Q at *
      generalize (gw row (i / 4)).toNat = x at *
      generalize (gw l (l.length - 1 - i)).toNat = y at *
      clear e1 e2 e4 hdig hval hgl hy h ih
      grind
    have w1 : wrap64 (wrap64 ((l.length : Int) - 1) - (i : Int)) = ((l.length - 1 - i : Nat) : Int) := by
      clear e1 e2 hst hdig hval hgl
      rw [w64 (x := (l.length : Int) - 1) (by omega) (by omega), w64 (by omega) (by omega)]; omega
    have w2 : wrap64 (Int.tdiv (i : Int) 4) = ((i / 4 : Nat) : Int) := by
      clear e1 e2 hst hdig hval hgl w1
      rw [show (4 : Int) = ((4 : Nat) : Int) from rfl, ← Int.ofNat_tdiv]; exact w64 (by omega) (by omega)
    have w3 : wrap64 (8 * Int.tmod (i : Int) 4) = ((8 * (i % 4) : Nat) : Int) := by
      clear e1 e2 hst hdig hval hgl w1 w2
      rw [show (4 : Int) = ((4 : Nat) : Int) from rfl, ← Int.ofNat_tmod, w64 (by omega) (by omega)]; omega
    have w4 : wrap64 ((i : Int) + 1) = ((i + 1 : Nat) : Int) := by clear e1 e2 hst hdig hval hgl w1 w2 w3; exact winc (by omega)
    refine Ev.step (fun k => ?_) (ih (i + 1) _ hst i1)
    simp only [nat_FromBytes.l0]
    rw [if_pos c1, w1, if_pos c2, if_pos c3, w2, if_pos c4, if_pos c5, w3, if_pos c6, rd_gw, rd_gw, e1, w4, Int.toNat_natCast]
theorem FromBytes_ev (l : List Int) (hb : Bytes l) (hl : l.length ≤ 128) : Ev (fun k => nat_FromBytes.f k l) (toW (valH l), 0) := by
  unfold nat_FromBytes.f
  have h := fb_loop l hb hl l.length 0 (List.replicate ((l.length + 3) / 4) 0) ⟨by simp, Sized.zeros _, by rw [valW_zeros]; rfl⟩ (by omega)
  have w1 : wrap64 (Int.tdiv (wrap64 ((l.length : Int) + 3)) 4) = (((l.length + 3) / 4 : Nat) : Int) := by
    have : wrap64 ((l.length : Int) + 3) = ((l.length + 3 : Nat) : Int) := by rw [w64 (by omega) (by omega)]; omega
    rw [this, show (4 : Int) = ((4 : Nat) : Int) from rfl, ← Int.ofNat_tdiv]
    clear this
    exact w64 (by omega) (by omega)
  have c0 : ¬ (l.length : Int) > 128 := by omega
  have c1 : (0 : Int) ≤ (((l.length + 3) / 4 : Nat) : Int) := by clear w1; omega
  have c2 : (l.length + 3) / 4 ≤ 70368744177664 := by clear w1; omega
  refine Ev.congr (fun k => ?_) h
  rw [if_neg c0, w1, if_pos c1, Int.toNat_natCast, if_pos c2]
  rfl
end Go.Proofs.Yteejcpbngnojkaa.P
end
section
namespace Go.Proofs.Yteejcpbngnojkaa.P
open Go.RowKit Go.Proofs.YteejcpbngnojkaaW.PrintWords Go.Proofs.YteejcpbngnojkaaW.PrintLast Go.Proofs.YteejcpbngnojkaaW.PrintMore
open Go.Proofs.Yteejcpbngnojkaa.Num
set_option linter.unusedVariables false
def nb (v : Nat) : Nat := ((toB v).length + 7) / 8
def highBytes (v size : Nat) : List Int := (lowBytes v size).reverse
theorem highBytes_length (v size : Nat) : (highBytes v size).length = size := by simp [highBytes, lowBytes_length]
theorem highBytes_bytes (v size : Nat) : Bytes (highBytes v size) := (lowBytes_bytes v size).reverse
theorem nb_lt (v : Nat) : v < 256 ^ nb v := by
  have h := toB_lt v
  have h2 : 2 ^ (toB v).length ≤ 2 ^ (8 * nb v) := Nat.pow_le_pow_right (by decide) (by unfold nb; omega)
  rw [show (256 : Nat) = 2 ^ 8 from by decide, ← Nat.pow_mul]
  exact Nat.lt_of_lt_of_le h h2
theorem nb_le {v i : Nat} (h : i < nb v) : 256 ^ i ≤ v := by
  rw [show (256 : Nat) = 2 ^ 8 from by decide, ← Nat.pow_mul]
  exact toB_len_lt (by unfold nb at h; omega)
theorem gw_rev {l : List Int} {j : Nat} (h : j < l.length) : gw l.reverse j = gw l (l.length - 1 - j) := by
  rw [gw_eq (by simpa using h), gw_eq (by omega), List.getElem_reverse]
theorem word_byte (v i : Nat) : (gw (toW v) (i / 4) / 2 ^ (8 * (i % 4))) % 256 = ((v / 256 ^ i % 256 : Nat) : Int) := by
  rw [toW_gw, pow256, ← Nat.div_div_eq_div_mul]
  generalize v / pw (i / 4) = X
  have hy : i % 4 = 0 ∨ i % 4 = 1 ∨ i % 4 = 2 ∨ i % 4 = 3 := by omega
  rcases hy with h | h | h | h <;> rw [h] <;> simp only [Nat.reduceMul, Nat.reducePow, Int.reducePow] <;> omega
theorem nBytes_loop (v size n : Nat) (hn : n = nb v) (hs : n ≤ size) (hsz : size ≤ 1000000) (hv : (toW v).length ≤ 1048576) (d : Nat) : ∀ (i : Nat) (out : List Int), i + d = n → out.length = size → (∀ j, j < size → gw out (size - 1 - j) = if j < i then ((v / 256 ^ j % 256 : Nat) : Int) else 0) →
    Ev (fun k => nat_Nat_Bytes.l0 k (size : Int) out (n : Int) (i : Int) (toW v)) (highBytes v size, 0) := by
  induction d with
  | zero =>
    intro i out hi hl hg
    obtain rfl : i = n := by omega
    have he : out = highBytes v size := by
      refine list_ext_gw (by rw [hl, highBytes_length]) fun j hj => ?_
      unfold highBytes
      rw [gw_rev (by rw [lowBytes_length]; omega), lowBytes_length, lowBytes_get _ _ _ (by omega)]
      have h := hg (size - 1 - j) (by omega)
      rw [show size - 1 - (size - 1 - j) = j by omega] at h
      rw [h]
      by_cases hc : size - 1 - j < i
      · rw [if_pos hc]
      · rw [if_neg hc]
        have h1 := nb_lt v
        rw [← hn] at h1
        have h2 : 256 ^ i ≤ 256 ^ (size - 1 - j) := Nat.pow_le_pow_right (by decide) (by omega)
        rw [Nat.div_eq_of_lt (Nat.lt_of_lt_of_le h1 h2)]
        rfl
    rw [← he]
    exact Ev.step (f := fun _ => some (out, (0 : Int))) (fun k => by simp only [nat_Nat_Bytes.l0]; rw [if_neg (by omega)]) (Ev.now _)
  | succ d ih =>
    intro i out hi hl hg
    have hin : i < nb v := by omega
    have hle := nb_le hin
    have hqa : i / 4 < (toW v).length := by
      refine toW_len_gt _ _ (Nat.le_trans ?_ hle)
      rw [pow256]
      exact Nat.le_mul_of_pos_right _ (Nat.pow_pos (by decide))
    clear hle
    have c1 : (i : Int) < (n : Int) := by omega
    have c2 : (0 : Int) ≤ ((i / 4 : Nat) : Int) := by omega
    have c3 : ((i / 4 : Nat) : Int) < ((toW v).length : Int) := by omega
    have c4 : (0 : Int) ≤ ((8 * (i % 4) : Nat) : Int) := by omega
    have c5 : (0 : Int) ≤ ((size - 1 - i : Nat) : Int) := by omega
    have c6 : ((size - 1 - i : Nat) : Int) < (out.length : Int) := by omega
    have hso : size - 1 - i < out.length := by omega
    have i1 : i + 1 + d = n := by omega
    have hjj : ∀ j, j < size → (size - 1 - i = size - 1 - j ↔ i = j) := fun j hj => by omega
    have hj2 : ∀ j, i ≠ j → (j < i + 1 ↔ j < i) := fun j hj => by omega
    have h2i : i < i + 1 := by omega
    have hy : 8 * (i % 4) ≤ 32 := by omega
    have w1 : wrap64 (wrap64 ((size : Int) - 1) - (i : Int)) = ((size - 1 - i : Nat) : Int) := by
      rw [w64 (x := (size : Int) - 1) (by omega) (by omega), w64 (by omega) (by omega)]; omega
    have w2 : wrap64 (Int.tdiv (i : Int) 4) = ((i / 4 : Nat) : Int) := by
      clear w1
      rw [show (4 : Int) = ((4 : Nat) : Int) from rfl, ← Int.ofNat_tdiv]; exact w64 (by omega) (by omega)
    have w3 : wrap64 (8 * Int.tmod (i : Int) 4) = ((8 * (i % 4) : Nat) : Int) := by
      clear w1 w2
      rw [show (4 : Int) = ((4 : Nat) : Int) from rfl, ← Int.ofNat_tmod, w64 (by omega) (by omega)]; omega
    have w4 : wrap64 ((i : Int) + 1) = ((i + 1 : Nat) : Int) := by clear w1 w2 w3; exact winc (by omega)
    have hsh : shr .u32 (gw (toW v) (i / 4)) ((8 * (i % 4) : Nat) : Int) % 256 = ((v / 256 ^ i % 256 : Nat) : Int) := by
      have hmin : min (8 * (i % 4)) IntKind.u32.bits = 8 * (i % 4) := Nat.min_eq_left hy
      unfold shr
      rw [Int.toNat_natCast, hmin, word_byte]
    refine Ev.step (fun k => ?_) (ih (i + 1) (out.set (size - 1 - i) ((v / 256 ^ i % 256 : Nat) : Int)) i1 (by rw [List.length_set]; exact hl) (fun j hj => ?_))
    · simp only [nat_Nat_Bytes.l0]
      rw [if_pos c1, w2, if_pos c2, if_pos c3, w3, if_pos c4, w1, if_pos c5, if_pos c6, rd_gw, hsh, w4, Int.toNat_natCast]
    · rw [gw_set hso]
      by_cases hij : i = j
      · subst hij
        rw [if_pos rfl, if_pos h2i]
      · rw [if_neg (fun e => hij ((hjj j hj).1 e)), hg j hj]
        simp only [hj2 j hij]
theorem toB_len_words (v n : Nat) (h : 32 * (toW v).length ≤ n) : (toB v).length ≤ n := by
  refine toB_len_le _ _ (Nat.lt_of_lt_of_le (toW_lt v) ?_)
  rw [pw_two]
  exact Nat.pow_le_pow_right (by decide) h
theorem nb_word (v : Nat) (hv : (toW v).length ≤ 1048576) : wrap64 (Int.tdiv (wrap64 ((((toB v).length : Nat) : Int) + 7)) 8) = ((nb v : Nat) : Int) := by
  have h1 : (toB v).length ≤ 33554432 := toB_len_words v _ (by omega)
  unfold nb
  have e1 : wrap64 ((((toB v).length : Nat) : Int) + 7) = (((toB v).length + 7 : Nat) : Int) := by rw [w64 (by omega) (by omega)]; omega
  rw [e1, show (8 : Int) = ((8 : Nat) : Int) from rfl, ← Int.ofNat_tdiv]
  clear e1
  exact w64 (by omega) (by omega)
theorem nb_bound (v : Nat) (hv : (toW v).length ≤ 1000) : nb v ≤ 4000 := by
  have h1 : (toB v).length ≤ 32000 := toB_len_words v _ (by omega)
  unfold nb; omega
theorem nBytes_ev (v size : Nat) (hs : nb v ≤ size) (hsz : size ≤ 1000000) (hv : (toW v).length ≤ 1048576) : Ev (fun k => nat_Nat_Bytes.f k (toW v) (size : Int)) (highBytes v size, 0) := by
  have h : Ev (fun k => nat_Nat_Bytes.l0 k (size : Int) (List.replicate size 0) ((nb v : Nat) : Int) 0 (toW v)) (highBytes v size, 0) := nBytes_loop v size (nb v) rfl hs hsz hv (nb v) 0 (List.replicate size 0) (by omega) (by simp) (fun j hj => by rw [if_neg (by omega)]; exact valW_zero (Sized.zeros _) (valW_zeros _) _)
  have c1 : ¬ (size : Int) < 0 := by omega
  have c2 : ¬ ((nb v : Nat) : Int) > (size : Int) := by omega
  have c3 : (0 : Int) ≤ (size : Int) := by omega
  have c4 : size ≤ 281474976710656 := by omega
  refine Ev.congr (fun k => ?_) h
  unfold nat_Nat_Bytes.f
  rw [if_neg c1, Bits_toW v hv]
  refine (Option.bind_some _ _).trans ?_
  rw [nb_word v hv]
  refine (if_neg c2).trans ?_
  refine (if_pos c3).trans ?_
  rw [Int.toNat_natCast]
  refine (if_pos c4).trans ?_
  with_reducible rfl
theorem Least_ev (v : Nat) (hv : (toW v).length ≤ 1000) : Ev (fun k => nat_Nat_Least.f k (toW v)) (highBytes v (nb v)) := by
  have hb := nb_bound v hv
  have h := nBytes_ev v (nb v) (Nat.le_refl _) (by omega) (by omega)
  refine Ev.congr (fun k => ?_) (Ev.bind (f := fun _ bt => some bt.1) h (Ev.now _))
  unfold nat_Nat_Least.f
  have hv2 : (toW v).length ≤ 1048576 := Nat.le_trans hv (by decide)
  rw [Bits_toW v hv2]
  refine (Option.bind_some _ _).trans ?_
  rw [nb_word v hv2]
structure RBInv (v size i : Nat) (out : List Int) : Prop where
  len : out.length = size
  by_ : Bytes out
  eq : valL out.reverse = v % 2 ^ i
theorem set_rev {l : List Int} {j : Nat} {x : Int} (h : j < l.length) : (l.set (l.length - 1 - j) x).reverse = l.reverse.set j x := by
  refine list_ext_gw (by simp) fun i hi => ?_
  rw [List.length_reverse, List.length_set] at hi
  rw [gw_rev (by rw [List.length_set]; exact hi), gw_set (by omega), gw_set (by rw [List.length_reverse]; exact h), List.length_set]
  by_cases e : j = i
  · subst e; rw [if_pos rfl, if_pos rfl]
  · rw [if_neg (by omega), if_neg e, gw_rev hi]
theorem digitL_lt {l : List Int} (hb : Bytes l) {q c : Nat} (hq : q < l.length) (h : valL l < 256 ^ q * c) : (gw l q).toNat < c := by
  have h1 := val_take_drop (β := 256) (enc := Int.toNat) q l (by omega)
  have h2 : l.drop q = gw l q :: l.drop (q + 1) := by rw [List.drop_eq_getElem_cons hq, gw_eq hq]
  rw [h2] at h1
  have h1 : valL l = valL (l.take q) + 256 ^ q * ((gw l q).toNat + 256 * valL (l.drop (q + 1))) := h1
  have h3 : 256 ^ q * (gw l q).toNat < 256 ^ q * c := by
    rw [Nat.mul_add] at h1
    omega
  exact Nat.lt_of_mul_lt_mul_left h3
theorem valL_set {l : List Int} {q : Nat} (hq : q < l.length) {x : Int} : valL (l.set q x) + 256 ^ q * (gw l q).toNat = valL l + 256 ^ q * x.toNat := by
  have := val_set (β := 256) (enc := Int.toNat) l q x hq
  rw [← gw_eq hq] at this
  exact this
theorem pow2_8 (i : Nat) : 2 ^ i = 256 ^ (i / 8) * 2 ^ (i % 8) := by
  rw [show (256 : Nat) = 2 ^ 8 from by decide, ← Nat.pow_mul, ← Nat.pow_add]
  congr 1
  omega
theorem rb_round (a : Int) (y : Nat) (hy : y < 8) (ha0 : 0 ≤ a) (ha : a.toNat < 2 ^ y) : (a + shl .u8 1 (y : Int)) % 256 = ((a.toNat + 2 ^ y : Nat) : Int) ∧ a.toNat + 2 ^ y < 256 := by
  obtain ⟨n, rfl⟩ := Int.eq_ofNat_of_zero_le ha0
  simp only [Int.toNat_natCast] at ha ⊢
  have hy8 : y = 0 ∨ y = 1 ∨ y = 2 ∨ y = 3 ∨ y = 4 ∨ y = 5 ∨ y = 6 ∨ y = 7 := by omega
  rcases hy8 with rfl | rfl | rfl | rfl | rfl | rfl | rfl | rfl
  all_goals
    simp only [shl, IntKind.bits, Int.toNat_natCast, IntKind.wrap, IntKind.signed] at ha ⊢
    simp at ha ⊢
    omega
theorem rBytes_loop (v size : Nat) (hs : nb v ≤ size) (hsz : size ≤ 1000000) (hv : (toB v).length ≤ 1000000) (d : Nat) : ∀ (i : Nat) (out : List Int), RBInv v size i out → i + d = (toB v).length →
    Ev (fun k => sacristyref01_Bytes.l0 k (size : Int) out (toB v) ((toB v).length : Int) (i : Int)) (highBytes v size, true) := by
  induction d with
  | zero =>
    intro i out h hi
    have hlt := toB_lt v
    rw [show (toB v).length = i by omega] at hlt
    have he : out = highBytes v size := by
      have e1 := h.eq
      rw [Nat.mod_eq_of_lt hlt] at e1
      have e2 := lowBytes_valL h.by_.reverse
      rw [e1, List.length_reverse, h.len] at e2
      unfold highBytes
      rw [e2, List.reverse_reverse]
    rw [← he]
    exact Ev.step (f := fun _ => some (out, true)) (fun k => by simp only [sacristyref01_Bytes.l0]; rw [if_neg (by omega)]) (Ev.now _)
  | succ d ih =>
    intro i out h hi
    have hl := h.len
    have c1 : (i : Int) < ((toB v).length : Int) := by omega
    have c2 : (0 : Int) ≤ (i : Int) := by omega
    have hq8 : i / 8 < size := by unfold nb at hs; omega
    have c3 : (0 : Int) ≤ ((size - 1 - i / 8 : Nat) : Int) := by omega
    have c4 : ((size - 1 - i / 8 : Nat) : Int) < (out.length : Int) := by omega
    have c5 : (0 : Int) ≤ ((i % 8 : Nat) : Int) := by omega
    have i1 : i + 1 + d = (toB v).length := by omega
    have hi8 : i % 8 < 8 := by omega
    have hlo : i / 8 < out.length := by omega
    have hlor : i / 8 < out.reverse.length := by rw [List.length_reverse]; exact hlo
    have w1 : wrap64 (wrap64 ((size : Int) - 1) - wrap64 (Int.tdiv (i : Int) 8)) = ((size - 1 - i / 8 : Nat) : Int) := by
      have : wrap64 (Int.tdiv (i : Int) 8) = ((i / 8 : Nat) : Int) := by
        rw [show (8 : Int) = ((8 : Nat) : Int) from rfl, ← Int.ofNat_tdiv]; exact w64 (by omega) (by omega)
      rw [this]
      clear this
      rw [w64 (x := (size : Int) - 1) (by omega) (by omega), w64 (by omega) (by omega)]; omega
    have w3 : Int.tmod (i : Int) 8 = ((i % 8 : Nat) : Int) := by
      rw [show (8 : Int) = ((8 : Nat) : Int) from rfl, ← Int.ofNat_tmod]
    have w4 : wrap64 ((i : Int) + 1) = ((i + 1 : Nat) : Int) := by clear w1 w3; exact winc (by omega)
    have hg := gb_toB v i
    have hm := mod_snoc v i
    cases hx : gb (toB v) i with
    | false =>
      rw [hx] at hg
      rw [← hg] at hm
      simp only [Bool.toNat_false, Nat.mul_zero, Nat.add_zero] at hm
      refine Ev.step (fun k => ?_) (ih (i + 1) out ⟨h.len, h.by_, by rw [hm]; exact h.eq⟩ i1)
      simp only [sacristyref01_Bytes.l0]
      rw [if_pos c1, if_pos c2, if_pos c1, rdB, hx, if_neg (by decide), w4]
    | true =>
      rw [hx] at hg
      rw [← hg] at hm
      simp only [Bool.toNat_true, Nat.mul_one] at hm
      have hval : valL out.reverse < 2 ^ i := by rw [h.eq]; exact Nat.mod_lt _ (Nat.pow_pos (by decide))
      rw [pow2_8] at hval
      have hdig := digitL_lt h.by_.reverse hlor hval
      have hgr : gw out.reverse (i / 8) = gw out (size - 1 - i / 8) := by rw [gw_rev hlo, hl]
      rw [hgr] at hdig
      obtain ⟨e1, e2⟩ := rb_round (gw out (size - 1 - i / 8)) (i % 8) hi8 (h.by_.gw _).1 hdig
      have hst : RBInv v size (i + 1) (out.set (size - 1 - i / 8) (((gw out (size - 1 - i / 8)).toNat + 2 ^ (i % 8) : Nat) : Int)) := by
        refine ⟨by rw [List.length_set]; exact h.len, fun y hy => ?_, ?_⟩
        · rcases List.mem_or_eq_of_mem_set hy with h1 | rfl
          · exact h.by_ y h1
          · exact ⟨Int.natCast_nonneg _, Int.ofNat_lt.2 e2⟩
        · have e3 := set_rev (l := out) (x := (((gw out (size - 1 - i / 8)).toNat + 2 ^ (i % 8) : Nat) : Int)) hlo
          rw [hl] at e3
          have e4 := valL_set hlor (x := (((gw out (size - 1 - i / 8)).toNat + 2 ^ (i % 8) : Nat) : Int))
          rw [Int.toNat_natCast, hgr, h.eq] at e4
          rw [e3, hm]
          have e5 := pow2_8 i
          rw [e5] at e4 ⊢
          generalize 256 ^ (i / 8) = Q at *
          generalize 2 ^ (i % 8) = P at *
          generalize (gw out (size - 1 - i / 8)).toNat = x at *
          rw [Nat.mul_add] at e4
          clear e1 e2 e3 e5 hdig hgr hval hm ih w1 w3 w4 hg
          omega
      refine Ev.step (fun k => ?_) (ih (i + 1) _ hst i1)
      simp only [sacristyref01_Bytes.l0]
      rw [if_pos c1, if_pos c2, if_pos c1, rdB, hx, if_pos rfl, w1, if_pos c3, if_pos c4, w3, if_pos c5, rd_gw, e1, w4, Int.toNat_natCast]
theorem rnb_word (v : Nat) (hv : (toB v).length ≤ 1000000) : wrap64 (Int.tdiv (wrap64 ((((toB v).length : Nat) : Int) + 7)) 8) = ((nb v : Nat) : Int) := by
  unfold nb
  have e1 : wrap64 ((((toB v).length : Nat) : Int) + 7) = (((toB v).length + 7 : Nat) : Int) := by rw [w64 (by omega) (by omega)]; omega
  rw [e1, show (8 : Int) = ((8 : Nat) : Int) from rfl, ← Int.ofNat_tdiv]
  clear e1
  exact w64 (by omega) (by omega)
theorem rBytes_ev (v size : Nat) (hs : nb v ≤ size) (hsz : size ≤ 1000000) (hv : (toB v).length ≤ 1000000) : Ev (fun k => sacristyref01_Bytes.f k (toB v) (size : Int)) (highBytes v size, true) := by
  have hz : Bytes (List.replicate size 0) := fun x hx => by rw [List.eq_of_mem_replicate hx]; decide
  have h : Ev (fun k => sacristyref01_Bytes.l0 k (size : Int) (List.replicate size 0) (toB v) ((toB v).length : Int) 0) (highBytes v size, true) := rBytes_loop v size hs hsz hv (toB v).length 0 (List.replicate size 0) ⟨by simp, hz, by rw [List.reverse_replicate, valL_zeros]; simp [Nat.mod_one]⟩ (by omega)
  have c2 : ¬ ((nb v : Nat) : Int) > (size : Int) := by omega
  have c3 : (0 : Int) ≤ (size : Int) := by omega
  have c4 : size ≤ 281474976710656 := by omega
  refine Ev.congr (fun k => ?_) h
  unfold sacristyref01_Bytes.f
  rw [rnb_word v hv]
  refine (if_neg c2).trans ?_
  refine (if_pos c3).trans ?_
  rw [Int.toNat_natCast]
  refine (if_pos c4).trans ?_
  with_reducible rfl
theorem highBytes_inj {a b : Nat} (h : highBytes a (nb a) = highBytes b (nb b)) : a = b := by
  have hl := congrArg List.length h
  rw [highBytes_length, highBytes_length] at hl
  have h2 : lowBytes a (nb a) = lowBytes b (nb b) := by
    have := congrArg List.reverse h
    simpa [highBytes] using this
  have h3 := congrArg valL h2
  rw [lowBytes_val, lowBytes_val, Nat.mod_eq_of_lt (nb_lt a), Nat.mod_eq_of_lt (nb_lt b)] at h3
  exact h3
end Go.Proofs.Yteejcpbngnojkaa.P
end
section
namespace Go.Proofs.Yteejcpbngnojkaa.P
open Go.RowKit Go.Proofs.YteejcpbngnojkaaW.PrintWords Go.Proofs.YteejcpbngnojkaaW.PrintLast Go.Proofs.YteejcpbngnojkaaW.PrintMore
attribute [local go_sem] max2_int min2_int max_two min_two max_three min_three max_four min_four
set_option linter.unusedVariables false
set_option linter.unusedSimpArgs false
def nat_Nat_Gcd.l0 : Nat → List Int → List Int → Option (List Int)
 |0,_,_ => none
 |k + 1,x719000,x720000 => (nat_Nat_Zero.f x720000).bind fun t721 => (if t721 = true then (some x719000) else ((nat_Nat_Div.f k x719000 x720000).bind fun bt722 => (nat_Nat_Gcd.l0 k x720000 bt722.2.1)))
def nat_Nat_Gcd.f (k : Nat) (l0_0 : List Int) (l1_0 : List Int) : Option (List Int):=nat_Nat_Gcd.l0 k l0_0 l1_0
theorem nat_Nat_Gcd.mono_l : ∀ k,(∀ y0 y1,LeO (nat_Nat_Gcd.l0 k y0 y1) (nat_Nat_Gcd.l0 (k + 1) y0 y1))
 |0 => fun _ _ r h => by simp [nat_Nat_Gcd.l0] at h
 |k + 1 => by
  have ih0:=nat_Nat_Gcd.mono_l k
  ·intro y0 y1
   unfold nat_Nat_Gcd.l0
   repeat' first
   |(with_reducible exact ih0 _ _)
   |(with_reducible exact nat_Nat_Div.mono _ _ _)
   |(with_reducible exact LeO.refl _)
   |(with_reducible exact LeO.none _)
   |(with_reducible refine LeO.ite ?_ ?_)
   |(with_reducible refine LeO.bind ?_ (fun _ => ?_))
   |exact ih0 _ _
   |exact nat_Nat_Div.mono _ _ _
   |exact LeO.none _
   |refine LeO.ite ?_ ?_
   |refine LeO.bind ?_ (fun _ => ?_)
theorem nat_Nat_Gcd.mono : ∀ a0 a1 k,LeO (nat_Nat_Gcd.f k a0 a1) (nat_Nat_Gcd.f (k + 1) a0 a1):=by
 intro a0 a1 k
 have ih0:=nat_Nat_Gcd.mono_l k
 unfold nat_Nat_Gcd.f
 repeat' first
   |(with_reducible exact ih0 _ _)
   |(with_reducible exact nat_Nat_Div.mono _ _ _)
   |(with_reducible exact LeO.refl _)
   |(with_reducible exact LeO.none _)
   |(with_reducible refine LeO.ite ?_ ?_)
   |(with_reducible refine LeO.bind ?_ (fun _ => ?_))
   |exact ih0 _ _
   |exact nat_Nat_Div.mono _ _ _
   |exact LeO.none _
   |refine LeO.ite ?_ ?_
   |refine LeO.bind ?_ (fun _ => ?_)
end Go.Proofs.Yteejcpbngnojkaa.P
end
section
namespace Go.Proofs.Yteejcpbngnojkaa.P
open Go.RowKit Go.Proofs.YteejcpbngnojkaaW.PrintWords Go.Proofs.YteejcpbngnojkaaW.PrintLast Go.Proofs.YteejcpbngnojkaaW.PrintMore
open Go.Proofs.Yteejcpbngnojkaa.Num
set_option linter.unusedVariables false
theorem str_inj {xs ys : List Int} (hx : Bytes xs) (hy : Bytes ys) : (strOfNums xs).toList = (strOfNums ys).toList ↔ xs = ys := by
  constructor
  · intro h
    rw [Lib.strOfNums_toList, Lib.strOfNums_toList] at h
    have h3 : xs.map (fun n => UInt8.ofNat n.toNat) = ys.map (fun n => UInt8.ofNat n.toNat) := h
    refine List.ext_getElem (by have := congrArg List.length h3; simpa using this) fun i h1 h4 => ?_
    have h5 := congrArg (fun l => l[i]?) h3
    simp only [List.getElem?_map, List.getElem?_eq_getElem h1, List.getElem?_eq_getElem h4, Option.map_some, Option.some.injEq] at h5
    have g1 := hx _ (List.getElem_mem h1)
    have g2 := hy _ (List.getElem_mem h4)
    have h6 := congrArg UInt8.toNat h5
    rw [UInt8.toNat_ofNat_of_lt' (by show _ < 256; omega), UInt8.toNat_ofNat_of_lt' (by show _ < 256; omega)] at h6
    omega
  · rintro rfl; rfl
theorem toB_of_W {v : Nat} {n : Nat} (hv : v < pw n) : (toB v).length ≤ 32 * n := toB_len_le _ _ (by rwa [pw_two] at hv)
theorem Same_ev (a b : Nat) (ha : (toW a).length ≤ 1000) (hb : (toB b).length ≤ 1000000) : Ev (fun k => sacristylaw01_Same.f k (toW a) (toB b)) (decide (a = b)) := by
  have h1 := Least_ev a ha
  have h2 := rBytes_ev b (nb b) (Nat.le_refl _) (by unfold nb; omega) hb
  have e : ((strOfNums (highBytes a (nb a))).toList == (strOfNums (highBytes b (nb b))).toList) = decide (a = b) := by
    rw [Bool.eq_iff_iff, beq_iff_eq, decide_eq_true_iff, str_inj (highBytes_bytes _ _) (highBytes_bytes _ _)]
    exact ⟨fun h => highBytes_inj h, fun h => by rw [h]⟩
  rw [← e]
  refine Ev.congr (fun k => ?_) (Ev.bind (f := fun k bt => (nat_Nat_Least.f k (toW a)).bind fun t317 => some ((strOfNums t317).toList == (strOfNums bt.1).toList)) h2 (Ev.bind h1 (f := fun _ t317 => some ((strOfNums t317).toList == (strOfNums (highBytes b (nb b))).toList)) (Ev.now _)))
  unfold sacristylaw01_Same.f
  rw [rnb_word b hb]
theorem Same_true (a : Nat) (ha : (toW a).length ≤ 1000) : Ev (fun k => sacristylaw01_Same.f k (toW a) (toB a)) true := by
  have := Same_ev a a ha (Nat.le_trans (toB_of_W (toW_lt a)) (by omega))
  simpa using this
theorem mn_nat (a b : Nat) : mn (a : Int) (b : Int) = ((min a b : Nat) : Int) := by unfold mn; split <;> omega
def num48 (l : List Int) : Nat := valH (l.take 48)
theorem num48_lt (l : List Int) (hb : Bytes l) : num48 l < pw 12 := by
  have h := valH_lt (hb.take 48)
  refine Nat.lt_of_lt_of_le h (Nat.le_trans (Nat.pow_le_pow_right (by decide) (List.length_take_le ..)) ?_)
  exact Nat.le_of_eq (by rw [pow256]; decide)
theorem num48_W (l : List Int) (hb : Bytes l) : (toW (num48 l)).length ≤ 12 := toW_len_le _ _ (num48_lt l hb)
theorem take_min (l : List Int) (n : Nat) : l.take (min l.length n) = l.take n := by
  by_cases h : n ≤ l.length
  · rw [Nat.min_eq_right h]
  · rw [Nat.min_eq_left (by omega), List.take_length, List.take_of_length_le (by omega)]
theorem Num_ev (l : List Int) (hb : Bytes l) : Ev (fun k => sacristylaw01_Num.f k l) (toW (num48 l)) := by
  have h := FromBytes_ev (l.take 48) (hb.take 48) (Nat.le_trans (List.length_take_le ..) (by decide))
  have hm : mn (l.length : Int) 48 = ((min l.length 48 : Nat) : Int) := mn_nat _ 48
  have c1 : (0 : Int) ≤ ((min l.length 48 : Nat) : Int) := Int.natCast_nonneg _
  have c2 : ((min l.length 48 : Nat) : Int) ≤ (l.length : Int) := Int.ofNat_le.2 (Nat.min_le_left ..)
  refine Ev.congr (fun k => ?_) (Ev.bind (f := fun _ bt => some bt.1) h (Ev.now _))
  unfold sacristylaw01_Num.f
  rw [hm, if_pos c1, if_pos c2, Int.toNat_natCast, take_min]
theorem Div_toW (k a b : Nat) (hb : 0 < b) (ha : (toW a).length ≤ 1048576) (hbl : (toW b).length ≤ 1048576) : nat_Nat_Div.f k (toW a) (toW b) = some (toW (a / b), toW (a % b), 0) := by
  unfold nat_Nat_Div.f
  rw [if_pos (by rw [canonB_toW, canonB_toW]; simp [ha, hbl]), valW_toW, valW_toW, if_neg (by omega)]
theorem toW_small (n : Nat) (h : n < 4294967296) : (toW n).length ≤ 1 := toW_len_le 1 n (by simpa [pw] using h)
theorem lives_ev : Ev (fun k => sacristylaw01_lives.f k) true := by
  have n7 := New_ev 7 (by decide) (by decide)
  have n2 := New_ev 2 (by decide) (by decide)
  have s3 := rSmall 3 (by decide)
  have s1 := rSmall 1 (by decide)
  have m3 := Same_true 3 (Nat.le_trans (toW_small 3 (by decide)) (by decide))
  have m1 := Same_true 1 (Nat.le_trans (toW_small 1 (by decide)) (by decide))
  unfold sacristylaw01_lives.f
  refine Ev.bind n7 (Ev.bind n2 ?_)
  have hd : ∀ k, nat_Nat_Div.f k (toW (7 : Int).toNat) (toW (2 : Int).toNat) = some (toW 3, toW 1, 0) := fun k => Div_toW k 7 2 (by decide) (Nat.le_trans (toW_small 7 (by decide)) (by decide)) (Nat.le_trans (toW_small 2 (by decide)) (by decide))
  refine Ev.congr (f := fun k => (sacristyref01_Small.f k 3).bind fun t435 => (sacristylaw01_Same.f k (toW 3) t435).bind fun t438 => if t438 = true then ((sacristyref01_Small.f k 1).bind fun t439 => (sacristylaw01_Same.f k (toW 1) t439).bind fun t442 => some t442) else some false) (fun k => ?_) ?_
  · rw [hd]
    refine (Option.bind_some _ _).trans ?_
    exact if_pos rfl
  · refine Ev.bind s3 (Ev.bind m3 ?_)
    refine Ev.congr (fun k => if_pos rfl) ?_
    exact Ev.bind s1 (Ev.bind (f := fun _ t442 => some t442) m1 (Ev.now _))
end Go.Proofs.Yteejcpbngnojkaa.P
end
section
namespace Go.Proofs.Yteejcpbngnojkaa.P
open Go.RowKit Go.Proofs.YteejcpbngnojkaaW.PrintWords Go.Proofs.YteejcpbngnojkaaW.PrintLast Go.Proofs.YteejcpbngnojkaaW.PrintMore
open Go.Proofs.Yteejcpbngnojkaa.Num
set_option linter.unusedVariables false
theorem mul_step {V V' P x y c old s : Nat} (hs : s = c + (x * y + old)) (h : V' + P * old = V + P * (s % 4294967296)) : V' + P * 4294967296 * (s / 4294967296) = V + P * c + P * (x * y) := by
  have h1 := Nat.mod_add_div s 4294967296
  have h2 : P * (s % 4294967296) + P * 4294967296 * (s / 4294967296) = P * s := by rw [Nat.mul_assoc, ← Nat.mul_add, h1]
  have h3 : P * s = P * c + (P * (x * y) + P * old) := by rw [hs, Nat.mul_add, Nat.mul_add]
  omega
theorem mul_inner (a b : List Int) (hb : Sized b) (i x : Nat) (hx : x < 4294967296) (hi : i < a.length) (hla : a.length ≤ 100000) (hlb : b.length ≤ 100000) (r : List Int) (d : Nat) :
    ∀ (j c V0 : Nat) (out : List Int), j + d = b.length → out.length = a.length + b.length → Sized out → c < 4294967296 → gw out (i + b.length) = 0 → valW out + pw (i + j) * c = V0 + pw i * (x * valW (b.take j)) →
    (∀ out', out'.length = a.length + b.length → Sized out' → valW out' = V0 + pw i * (x * valW b) → Ev (fun k => nat_Nat_Mul.l0 k out' a (a.length : Int) (wrap64 ((i : Int) + 1)) b) r) →
    Ev (fun k => nat_Nat_Mul.l1 k out (i : Int) (x : Int) (c : Int) a (a.length : Int) (i : Int) b (b.length : Int) (j : Int) b) r := by
  induction d with
  | zero =>
    intro j c V0 out hj hol hos hc hz he hK
    obtain rfl : j = b.length := by omega
    have c1 : ¬ ((b.length : Nat) : Int) < (b.length : Int) := by omega
    have c2 : (0 : Int) ≤ ((i + b.length : Nat) : Int) := by omega
    have c3 : ((i + b.length : Nat) : Int) < (out.length : Int) := by omega
    have hq : i + b.length < out.length := by omega
    have ec : (c : Int) % 4294967296 = (c : Int) := by omega
    have hbd : (0 : Int) ≤ (c : Int) ∧ (c : Int) < 4294967296 := by omega
    have w1 : wrap64 ((i : Int) + (b.length : Int)) = ((i + b.length : Nat) : Int) := by rw [w64 (by omega) (by omega)]; omega
    have hv := valW_set' hq (x := (c : Int)) hbd.1
    rw [hz, Int.toNat_natCast] at hv
    rw [List.take_length] at he
    refine Ev.step (fun k => ?_) (hK (out.set (i + b.length) (c : Int)) (by rw [List.length_set]; exact hol) (hos.set _ hbd) (by simp at hv; omega))
    simp only [nat_Nat_Mul.l1]
    rw [if_neg c1, w1, if_pos c2, if_pos c3, Int.toNat_natCast, ec]
  | succ d ih =>
    intro j c V0 out hj hol hos hc hz he hK
    have c1 : (j : Int) < (b.length : Int) := by omega
    have c2 : (0 : Int) ≤ (j : Int) := by omega
    have c3 : (0 : Int) ≤ ((i + j : Nat) : Int) := by omega
    have c4 : ((i + j : Nat) : Int) < (out.length : Int) := by omega
    have hq : i + j < out.length := by omega
    have hjb : j < b.length := by omega
    have j1 : j + 1 + d = b.length := by omega
    have hne : ¬ i + j = i + b.length := by omega
    have gy := hb.gw j
    have go := hos.gw (i + j)
    obtain ⟨y, hy⟩ := Int.eq_ofNat_of_zero_le gy.1
    obtain ⟨o, ho⟩ := Int.eq_ofNat_of_zero_le go.1
    rw [hy] at gy
    rw [ho] at go
    have hy4 : y < 4294967296 := by omega
    have ho4 : o < 4294967296 := by omega
    have hxy : x * y ≤ 4294967295 * 4294967295 := Nat.mul_le_mul (by omega) (by omega)
    have hs64 : c + (x * y + o) < 18446744073709551616 := by omega
    have e1 : IntKind.u64.wrap ((x : Int) * (y : Int)) = ((x * y : Nat) : Int) := by
      rw [← Int.natCast_mul]; exact wu64 (by omega) (by omega)
    have e2 : IntKind.u64.wrap (((x * y : Nat) : Int) + (o : Int)) = ((x * y + o : Nat) : Int) := by
      rw [← Int.natCast_add]; exact wu64 (by omega) (by omega)
    have e3 : IntKind.u64.wrap ((c : Int) + ((x * y + o : Nat) : Int)) = ((c + (x * y + o) : Nat) : Int) := by
      rw [← Int.natCast_add]; exact wu64 (by omega) (by omega)
    have ex : IntKind.u64.wrap (x : Int) = (x : Int) := wu64 (by omega) (by omega)
    have ey : IntKind.u64.wrap (y : Int) = (y : Int) := wu64 (by omega) (by omega)
    have eo : IntKind.u64.wrap (o : Int) = (o : Int) := wu64 (by omega) (by omega)
    have w1 : wrap64 ((i : Int) + (j : Int)) = ((i + j : Nat) : Int) := by
      clear e1 e2 e3 ex ey eo
      rw [w64 (by omega) (by omega)]; omega
    have w2 : wrap64 ((j : Int) + 1) = ((j + 1 : Nat) : Int) := by clear e1 e2 e3 ex ey eo w1; exact winc (by omega)
    obtain ⟨s, hs⟩ : ∃ s, s = c + (x * y + o) := ⟨_, rfl⟩
    rw [← hs] at e3 hs64
    have hbd : (0 : Int) ≤ ((s % 4294967296 : Nat) : Int) ∧ ((s % 4294967296 : Nat) : Int) < 4294967296 := by clear e1 e2 e3 ex ey eo w1 w2; omega
    have hcc : s / 4294967296 < 4294967296 := by clear e1 e2 e3 ex ey eo w1 w2; omega
    have hv := valW_set' hq (x := ((s % 4294967296 : Nat) : Int)) hbd.1
    rw [ho, Int.toNat_natCast, Int.toNat_natCast] at hv
    have hm := mul_step hs hv
    have hz' : gw (out.set (i + j) ((s % 4294967296 : Nat) : Int)) (i + b.length) = 0 := by rw [gw_set hq, if_neg hne]; exact hz
    have hval : valW (out.set (i + j) ((s % 4294967296 : Nat) : Int)) + pw (i + (j + 1)) * (s / 4294967296) = V0 + pw i * (x * valW (b.take (j + 1))) := by
      rw [show i + (j + 1) = i + j + 1 from rfl, pw_succ, hm, valW_snoc hjb, hy, Int.toNat_natCast, he, pw_add]
      clear e1 e2 e3 ex ey eo w1 w2 hm hv hz' ih hK
      generalize pw i = P
      generalize pw j = Q
      generalize valW (b.take j) = T
      grind
    refine Ev.step (fun k => ?_) (ih (j + 1) (s / 4294967296) V0 _ j1 (by rw [List.length_set]; exact hol) (hos.set _ hbd) hcc hz' hval hK)
    simp only [nat_Nat_Mul.l1]
    rw [if_pos c1, if_pos c2, if_pos c1, w1, if_pos c3, if_pos c4, rd_gw, rd_gw, hy, ho, ex, ey, eo, e1, e2, e3, w2, Int.toNat_natCast]
    rfl
theorem mul_outer (a b : List Int) (ha : Sized a) (hb : Sized b) (hla : a.length ≤ 100000) (hlb : b.length ≤ 100000) (d : Nat) : ∀ (i : Nat) (out : List Int), i + d = a.length → out.length = a.length + b.length → Sized out → valW out = valW (a.take i) * valW b →
    Ev (fun k => nat_Nat_Mul.l0 k out a (a.length : Int) (i : Int) b) (toW (valW a * valW b)) := by
  induction d with
  | zero =>
    intro i out hi hol hos he
    obtain rfl : i = a.length := by omega
    have ht := trim_ev out hos (by omega)
    rw [he, List.take_length] at ht
    exact Ev.step (fun k => by simp only [nat_Nat_Mul.l0]; rw [if_neg (by omega)]) (Ev.bind (f := fun _ t => some t) ht (Ev.now _))
  | succ d ih =>
    intro i out hi hol hos he
    have c1 : (i : Int) < (a.length : Int) := by omega
    have c2 : (0 : Int) ≤ (i : Int) := by omega
    have hia : i < a.length := by omega
    have i1 : i + 1 + d = a.length := by omega
    have hq : i + b.length < out.length := by omega
    have gx := ha.gw i
    obtain ⟨x, hx⟩ := Int.eq_ofNat_of_zero_le gx.1
    rw [hx] at gx
    have hx4 : x < 4294967296 := by omega
    have hT := valW_lt (ha.take i)
    rw [List.length_take, Nat.min_eq_left (by omega)] at hT
    have hB := valW_lt hb
    have hz : gw out (i + b.length) = 0 := by
      have h1 : valW out < pw (i + b.length) * 1 := by
        rw [he, Nat.mul_one, pw_add]; exact Nat.mul_lt_mul'' hT hB
      have h2 := digit_lt hos hq h1
      have := (hos.gw (i + b.length)).1
      omega
    have hw := winc (n := i) (by omega)
    refine Ev.step (f := fun k => nat_Nat_Mul.l1 k out (i : Int) (x : Int) 0 a (a.length : Int) (i : Int) b (b.length : Int) 0 b) (fun k => ?_) ?_
    · simp only [nat_Nat_Mul.l0]
      rw [if_pos c1, if_pos c2, if_pos c1, rd_gw, hx]
    · refine mul_inner a b hb i x hx4 hia hla hlb _ b.length 0 0 (valW out) out (by simp) hol hos (by decide) hz (by simp [valW_nil]) (fun out' hl' hs' hv' => ?_)
      rw [hw]
      refine ih (i + 1) out' i1 hl' hs' ?_
      rw [hv', he, valW_snoc hia, hx, Int.toNat_natCast, Nat.add_mul, Nat.mul_assoc]
theorem Mul_ev (a b : Nat) (ha : (toW a).length ≤ 100000) (hb : (toW b).length ≤ 100000) : Ev (fun k => nat_Nat_Mul.f k (toW a) (toW b)) (toW (a * b)) := by
  have h := mul_outer (toW a) (toW b) (toW_sized a) (toW_sized b) ha hb (toW a).length 0 (List.replicate ((toW a).length + (toW b).length) 0) (by omega) (by simp) (Sized.zeros _) (by rw [valW_zeros, List.take_zero, valW_nil, Nat.zero_mul])
  rw [valW_toW, valW_toW] at h
  have w1 : wrap64 (((toW a).length : Int) + ((toW b).length : Int)) = (((toW a).length + (toW b).length : Nat) : Int) := by rw [w64 (by omega) (by omega)]; omega
  have c1 : (0 : Int) ≤ (((toW a).length + (toW b).length : Nat) : Int) := Int.natCast_nonneg _
  have c2 : (toW a).length + (toW b).length ≤ 70368744177664 := by clear w1; omega
  refine Ev.congr (fun k => ?_) h
  unfold nat_Nat_Mul.f
  rw [w1, if_pos c1, Int.toNat_natCast]
  exact if_pos c2
end Go.Proofs.Yteejcpbngnojkaa.P
end
