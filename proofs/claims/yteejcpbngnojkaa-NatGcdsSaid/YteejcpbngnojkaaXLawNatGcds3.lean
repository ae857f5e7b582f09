/- Part of the proof: the walks and the plain arithmetic, in line (wip/tools/pack.py). -/
import Derived.Test.YteejcpbngnojkaaXLawNatGcds2
section
namespace Go.Proofs.Yteejcpbngnojkaa.P
open Go.RowKit Go.Shelf Go.Proofs.YteejcpbngnojkaaW.PrintWords Go.Proofs.YteejcpbngnojkaaW.PrintLast Go.Proofs.YteejcpbngnojkaaW.PrintMore
open Go.Proofs.Yteejcpbngnojkaa.Num
set_option linter.unusedVariables false
def nat_Nat_Div.f (_k : Nat) (l0_0 : List Int) (l1_0 : List Int) : Option (List Int × List Int × Int) :=
  if canonB l0_0 && canonB l1_0 && decide (l0_0.length ≤ 1048576) && decide (l1_0.length ≤ 1048576) then (if valW l1_0 = 0 then some ([], [], 5) else some (toW (valW l0_0 / valW l1_0), toW (valW l0_0 % valW l1_0), 0)) else none
theorem nat_Nat_Div.mono : ∀ a0 a1 k, LeO (nat_Nat_Div.f k a0 a1) (nat_Nat_Div.f (k + 1) a0 a1) := fun _ _ _ => LeO.refl _
theorem four_new (w : World) (o0 o1 o2 o3 : Obj) : ((((w.alloc o0).alloc o1).alloc o2).alloc o3).heap[w.heap.size]? = some o0 ∧ ((((w.alloc o0).alloc o1).alloc o2).alloc o3).heap[w.heap.size + 1]? = some o1 ∧ ((((w.alloc o0).alloc o1).alloc o2).alloc o3).heap[w.heap.size + 1 + 1]? = some o2 ∧ ((((w.alloc o0).alloc o1).alloc o2).alloc o3).heap[w.heap.size + 1 + 1 + 1]? = some o3 ∧ Below w.heap.size w ((((w.alloc o0).alloc o1).alloc o2).alloc o3) := by
  refine ⟨blk_alloc (blk_alloc (blk_alloc (blk_new w o0) _) _) _, ?_, ?_, ?_, ?_⟩
  · refine blk_alloc (blk_alloc ?_ _) _
    have := blk_new (w.alloc o0) o1
    simpa only [World.size_alloc] using this
  · refine blk_alloc ?_ _
    have := blk_new ((w.alloc o0).alloc o1) o2
    simpa only [World.size_alloc] using this
  · have := blk_new (((w.alloc o0).alloc o1).alloc o2) o3
    simpa only [World.size_alloc] using this
  · exact ((((Below.refl _ w).alloc (Nat.le_refl _) _).alloc (by simp) _).alloc (by simp; omega) _).alloc (by simp; omega) _
theorem two_end {w W : World} {va vb : Value} (m2 : W.heap[w.heap.size + 1 + 1]? = some (.cells #[.slice none 0 0] 38 (0, 0))) (m3 : W.heap[w.heap.size + 1 + 1 + 1]? = some (.cells #[.slice none 0 0] 38 (0, 0))) (hB : Below w.heap.size w W) (Wf : World)
    (hW : (W.setCell ⟨w.heap.size + 1 + 1, 0, none⟩ va).setCell ⟨w.heap.size + 1 + 1 + 1, 0, none⟩ vb = Wf) :
    Wf.heap[w.heap.size + 1 + 1]? = some (.cells #[va] 38 (0, 0)) ∧ Wf.heap[w.heap.size + 1 + 1 + 1]? = some (.cells #[vb] 38 (0, 0)) ∧ Below w.heap.size w Wf ∧ ∀ (b : Nat) (ok ok' : Nat → Prop) (v : Value) (xs : List Int), Kd.V (Kd.int .u32) 23 W b ok v xs → (∀ k, ok k → (k ≠ w.heap.size + 1 + 1 ∧ k ≠ w.heap.size + 1 + 1 + 1) ∧ ok' k) → Kd.V (Kd.int .u32) 23 Wf w.heap.size ok' v xs := by
  subst hW
  refine ⟨(Below.heap_setCell _ _ _ _ (by show w.heap.size + 1 + 1 ≠ w.heap.size + 1 + 1 + 1; omega)).trans (blk_put m2 0 _ rfl), blk_put ((Below.heap_setCell _ _ _ _ (by show w.heap.size + 1 + 1 + 1 ≠ w.heap.size + 1 + 1; omega)).trans m3) 0 _ rfl,
    (hB.setCell (p := ⟨w.heap.size + 1 + 1, 0, none⟩) (by show w.heap.size ≤ w.heap.size + 1 + 1; omega) _).setCell (p := ⟨w.heap.size + 1 + 1 + 1, 0, none⟩) (by show w.heap.size ≤ w.heap.size + 1 + 1 + 1; omega) _, fun b ok ok' v xs hv ho => ?_⟩
  exact Kd.V_mono (Kd.V_far (Kd.V_far hv (fun k hk => (ho k hk).1.1) _) (fun k hk => (ho k hk).1.2) _) (fun k hk => (ho k hk).2)
set_option maxRecDepth 100000 in
set_option maxHeartbeats 4000000 in
theorem nat_Nat_Div.calls_z (P0_0_ : Nat → Prop) (A0_0 : Option Addr) (c0_0 : Nat) (l0_0 : List Int) (A1_0 : Option Addr) (c1_0 : Nat) (l1_0 : List Int) (w : World) (hs0_0 : Kd.V (Kd.int .u32) 23 w w.heap.size (fun k_ => P0_0_ k_) (.slice A0_0 l0_0.length c0_0) l0_0) (hr1_0 : Kd.C (Kd.int .u32) w A1_0 l1_0.length l1_0) (hc1_0 : l1_0.length ≤ c1_0) (hz : l1_0.length = 0) :
    Calls Try.prog 53 #[.agg #[.slice A0_0 l0_0.length c0_0], .agg #[.slice A1_0 l1_0.length c1_0]] w fun e w' => ∃ v0_ v1_ : Value, e = .returned (.tuple #[.agg #[v0_], .agg #[v1_], (.int .i64 5)]) ∧ Kd.V (Kd.int .u32) 23 w' w.heap.size (fun k_ => (P0_0_ k_ ∨ w.heap.size ≤ k_)) v0_ [] ∧ Kd.V (Kd.int .u32) 23 w' w.heap.size (fun k_ => (P0_0_ k_ ∨ w.heap.size ≤ k_)) v1_ [] ∧ Below w.heap.size w w' := by
  have V0 := Aside0.mk (Kd.V_bound hs0_0)
  have C1 := Aside0.mk hr1_0
  have hc1 := Aside0.mk hc1_0
  clear hs0_0 hr1_0 hc1_0
  obtain ⟨k0, k1, k2, k3, B⟩ := four_new w (.cells #[.slice A0_0 l0_0.length c0_0] 38) (.cells #[.slice A1_0 l1_0.length c1_0] 38) (.cells #[.slice none 0 0] 38) (.cells #[.slice none 0 0] 38)
  have V1 := Aside0.mk (Kd.V_alloc (Kd.V_alloc (Kd.V_alloc (Kd.V_alloc V0.out (.cells #[.slice A0_0 l0_0.length c0_0] 38)) (.cells #[.slice A1_0 l1_0.length c1_0] 38)) (.cells #[.slice none 0 0] 38)) (.cells #[.slice none 0 0] 38))
  have C2 := Aside0.mk (Kd.C_below C1.out B)
  have hzb : ((l1_0.length : Int) == 0) = true := by rw [hz]; rfl
  replace hz := Aside0.mk hz
  go_enter Try.func53, Try.ntmps53
  go_wp2_with (go_at_call 44; refine (nat_Nat_Zero.calls _ _ l1_0 _ _ C2.out hc1.out rfl).mono ?_; rintro e w1 ⟨rfl, hb⟩; replace k0 := (hb.block _ (blk_lt k0)).trans k0; replace k1 := (hb.block _ (blk_lt k1)).trans k1; replace k2 := (hb.block _ (blk_lt k2)).trans k2; replace k3 := (hb.block _ (blk_lt k3)).trans k3; replace V1 := Aside0.mk (Kd.V_below V1.out hb); replace C2 := Aside0.mk (Kd.C_below C2.out hb); replace B := below_step B hb; clear hb; have q0 : World.cell? _ ⟨w.heap.size, 0, none⟩ = some (.slice A0_0 l0_0.length c0_0) := blk_cell k0 0; have q1 : World.cell? _ ⟨w.heap.size + 1, 0, none⟩ = some (.slice A1_0 l1_0.length c1_0) := blk_cell k1 0; have q2 : World.cell? _ ⟨w.heap.size + 1 + 1, 0, none⟩ = some (.slice none 0 0) := blk_cell k2 0; have q3 : World.cell? _ ⟨w.heap.size + 1 + 1 + 1, 0, none⟩ = some (.slice none 0 0) := blk_cell k3 0; have f2 := blk_frozen k2 0; have f3 := blk_frozen k3 0)
  obtain ⟨e2, e3, y1, y2⟩ := two_end k2 k3 B _ rfl
  refine bodyPost_ret (results_list (rs := [.cell 4 38, .cell 5 38, .tmp 6]) rfl (by simp) (.cell _ 38 _ (0, 0) _ rfl e2 Try.underlying38 rfl (by kernel_rfl) (.cell _ 38 _ (0, 0) _ rfl e3 Try.underlying38 rfl (by kernel_rfl) (.tmp .nil)))) rfl ?_
  exact ⟨_, _, rfl, Kd.V_nil _ _ _ _ _, Kd.V_nil _ _ _ _ _, y1⟩
set_option maxRecDepth 100000 in
set_option maxHeartbeats 4000000 in
theorem nat_Nat_Div.calls_l (k : Nat) (c : Int) (P0_0_ : Nat → Prop) (A0_0 : Option Addr) (c0_0 : Nat) (l0_0 : List Int) (A1_0 : Option Addr) (c1_0 : Nat) (l1_0 : List Int) (w : World) (hs0_0 : Kd.V (Kd.int .u32) 23 w w.heap.size (fun k_ => P0_0_ k_) (.slice A0_0 l0_0.length c0_0) l0_0) (hr1_0 : Kd.C (Kd.int .u32) w A1_0 l1_0.length l1_0) (hc1_0 : l1_0.length ≤ c1_0) (hz : ¬ l1_0.length = 0) (hc : nat_Nat_Cmp.f k l0_0 l1_0 = some c) (hneg : c < 0) :
    Calls Try.prog 53 #[.agg #[.slice A0_0 l0_0.length c0_0], .agg #[.slice A1_0 l1_0.length c1_0]] w fun e w' => ∃ v0_ v1_ : Value, e = .returned (.tuple #[.agg #[v0_], .agg #[v1_], (.int .i64 0)]) ∧ Kd.V (Kd.int .u32) 23 w' w.heap.size (fun k_ => (P0_0_ k_ ∨ w.heap.size ≤ k_)) v0_ [] ∧ Kd.V (Kd.int .u32) 23 w' w.heap.size (fun k_ => (P0_0_ k_ ∨ w.heap.size ≤ k_)) v1_ l0_0 ∧ Below w.heap.size w w' := by
  have V0 := Aside0.mk (Kd.V_bound hs0_0)
  have C1 := Aside0.mk hr1_0
  have hc1 := Aside0.mk hc1_0
  clear hs0_0 hr1_0 hc1_0
  obtain ⟨k0, k1, k2, k3, B⟩ := four_new w (.cells #[.slice A0_0 l0_0.length c0_0] 38) (.cells #[.slice A1_0 l1_0.length c1_0] 38) (.cells #[.slice none 0 0] 38) (.cells #[.slice none 0 0] 38)
  have V1 := Aside0.mk (Kd.V_alloc (Kd.V_alloc (Kd.V_alloc (Kd.V_alloc V0.out (.cells #[.slice A0_0 l0_0.length c0_0] 38)) (.cells #[.slice A1_0 l1_0.length c1_0] 38)) (.cells #[.slice none 0 0] 38)) (.cells #[.slice none 0 0] 38))
  have C2 := Aside0.mk (Kd.C_below C1.out B)
  have hzb : ((l1_0.length : Int) == 0) = false := beq_eq_false_iff_ne.2 (by omega)
  replace hc := Aside0.mk hc
  replace hz := Aside0.mk hz
  have hmx : Try.prog.follows .mixedOrders = true := by kernel_rfl
  have hnb : decide (c < 0) = true := decide_eq_true hneg
  go_enter Try.func53, Try.ntmps53
  go_wp2_with (first | (go_at_call 44; refine (nat_Nat_Zero.calls _ _ l1_0 _ _ C2.out hc1.out rfl).mono ?_; rintro e w1 ⟨rfl, hb⟩; replace k0 := (hb.block _ (blk_lt k0)).trans k0; replace k1 := (hb.block _ (blk_lt k1)).trans k1; replace k2 := (hb.block _ (blk_lt k2)).trans k2; replace k3 := (hb.block _ (blk_lt k3)).trans k3; replace V1 := Aside0.mk (Kd.V_below V1.out hb); replace C2 := Aside0.mk (Kd.C_below C2.out hb); replace B := below_step B hb; clear hb; have q0 : World.cell? _ ⟨w.heap.size, 0, none⟩ = some (.slice A0_0 l0_0.length c0_0) := blk_cell k0 0; have q1 : World.cell? _ ⟨w.heap.size + 1, 0, none⟩ = some (.slice A1_0 l1_0.length c1_0) := blk_cell k1 0; have q2 : World.cell? _ ⟨w.heap.size + 1 + 1, 0, none⟩ = some (.slice none 0 0) := blk_cell k2 0; have q3 : World.cell? _ ⟨w.heap.size + 1 + 1 + 1, 0, none⟩ = some (.slice none 0 0) := blk_cell k3 0; have f2 := blk_frozen k2 0; have f3 := blk_frozen k3 0) | (go_at_call 45; refine (nat_Nat_Cmp.calls k _ _ l0_0 _ _ l1_0 c _ (Kd.V_reads' V1.out).2.2 (Kd.V_reads' V1.out).2.1 C2.out hc1.out hc.out).mono ?_; rintro e w2 ⟨rfl, hb⟩; replace k0 := (hb.block _ (blk_lt k0)).trans k0; replace k1 := (hb.block _ (blk_lt k1)).trans k1; replace k2 := (hb.block _ (blk_lt k2)).trans k2; replace k3 := (hb.block _ (blk_lt k3)).trans k3; replace V1 := Aside0.mk (Kd.V_below V1.out hb); replace C2 := Aside0.mk (Kd.C_below C2.out hb); replace B := below_step B hb; clear hb; have q0 : World.cell? _ ⟨w.heap.size, 0, none⟩ = some (.slice A0_0 l0_0.length c0_0) := blk_cell k0 0; have q1 : World.cell? _ ⟨w.heap.size + 1, 0, none⟩ = some (.slice A1_0 l1_0.length c1_0) := blk_cell k1 0; have q2 : World.cell? _ ⟨w.heap.size + 1 + 1, 0, none⟩ = some (.slice none 0 0) := blk_cell k2 0; have q3 : World.cell? _ ⟨w.heap.size + 1 + 1 + 1, 0, none⟩ = some (.slice none 0 0) := blk_cell k3 0; have f2 := blk_frozen k2 0; have f3 := blk_frozen k3 0))
  go_region
  all_goals go_wp2
  obtain ⟨e2, e3, y1, y2⟩ := two_end (w := w) (W := w2) (va := .slice none 0 0) (vb := .slice A0_0 l0_0.length c0_0) k2 k3 B _ rfl
  refine bodyPost_ret (results_list (rs := [.cell 4 38, .cell 5 38, .tmp 6]) rfl (by simp) (.cell _ 38 _ (0, 0) _ rfl e2 Try.underlying38 rfl (by kernel_rfl) (.cell _ 38 _ (0, 0) _ rfl e3 Try.underlying38 rfl (by kernel_rfl) (.tmp .nil)))) rfl ?_
  exact ⟨_, _, rfl, Kd.V_nil _ _ _ _ _, Kd.V_drew (y2 _ _ _ _ _ V1.out (fun k_ hk => ⟨⟨by have := hk.2; omega, by have := hk.2; omega⟩, .inl hk.1⟩)), y1.drew⟩
theorem nat_Nat_Div.calls (k : Nat) (P0_0_ : Nat → Prop) (A0_0 : Option Addr) (c0_0 : Nat) (l0_0 : List Int) (A1_0 : Option Addr) (c1_0 : Nat) (l1_0 : List Int) (r1 : List Int) (r2 : List Int) (r3 : Int) (w : World) (hs0_0 : Kd.V (Kd.int .u32) 23 w w.heap.size (fun k_ => P0_0_ k_) (.slice A0_0 l0_0.length c0_0) l0_0) (hr1_0 : Kd.C (Kd.int .u32) w A1_0 l1_0.length l1_0) (hc1_0 : l1_0.length ≤ c1_0) (h : nat_Nat_Div.f k l0_0 l1_0 = some (r1, r2, r3)) :
    Calls Try.prog 53 #[.agg #[.slice A0_0 l0_0.length c0_0], .agg #[.slice A1_0 l1_0.length c1_0]] w fun e w' => ∃ v0_ v1_ : Value, e = .returned (.tuple #[.agg #[v0_], .agg #[v1_], .int .i64 r3]) ∧ Kd.V (Kd.int .u32) 23 w' w.heap.size (fun k_ => (P0_0_ k_ ∨ w.heap.size ≤ k_)) v0_ r1 ∧ Kd.V (Kd.int .u32) 23 w' w.heap.size (fun k_ => (P0_0_ k_ ∨ w.heap.size ≤ k_)) v1_ r2 ∧ Below w.heap.size w w' := by
  unfold nat_Nat_Div.f at h
  by_cases hg : (canonB l0_0 && canonB l1_0 && decide (l0_0.length ≤ 1048576) && decide (l1_0.length ≤ 1048576)) = true
  · rw [if_pos hg] at h
    simp only [Bool.and_eq_true, decide_eq_true_eq] at hg
    obtain ⟨⟨⟨g0, g1⟩, g2⟩, g3⟩ := hg
    have e0 := canonB_eq g0
    have e1 := canonB_eq g1
    by_cases hB : valW l1_0 = 0
    · rw [if_pos hB] at h
      cases h
      exact nat_Nat_Div.calls_z P0_0_ A0_0 c0_0 l0_0 A1_0 c1_0 l1_0 w hs0_0 hr1_0 hc1_0 ((canonB_nil g1).1 hB)
    · rw [if_neg hB] at h
      cases h
      have hl : ¬ l1_0.length = 0 := fun e => hB ((canonB_nil g1).2 e)
      by_cases hlt : valW l0_0 < valW l1_0
      · have hc : nat_Nat_Cmp.f 0 l0_0 l1_0 = some (cmpN (valW l0_0) (valW l1_0)) := by
          have := Cmp_toW 0 (valW l0_0) (valW l1_0)
          rwa [e0, e1] at this
        have hcal := nat_Nat_Div.calls_l 0 _ P0_0_ A0_0 c0_0 l0_0 A1_0 c1_0 l1_0 w hs0_0 hr1_0 hc1_0 hl hc (cmpN_lt.2 hlt)
        rw [Nat.div_eq_of_lt hlt, Nat.mod_eq_of_lt hlt, toW_zero, e0]
        exact hcal
      · obtain ⟨K, hK⟩ := (g_ev (valW l0_0) (valW l1_0) (by omega) (by rw [e0]; exact g2) (by rw [e1]; exact g3)).rounds
        rw [e0, e1] at hK
        have hz : nat_Nat_Zero.f l1_0 = some false := by
          have := Zero_toW (valW l1_0)
          rw [e1] at this
          rw [this]
          simp [hB]
        have hn : ∀ t, nat_Nat_Cmp.f K l0_0 l1_0 = some t → ¬ t < 0 := by
          intro t ht hneg
          have := Cmp_toW K (valW l0_0) (valW l1_0)
          rw [e0, e1, ht] at this
          cases this
          exact hlt (cmpN_lt.1 hneg)
        have hr0 := Kd.V_reads' hs0_0
        by_cases h1 : (l1_0.length : Int) = 1
        · refine (nat_Nat_Div.calls_o K A0_0 c0_0 l0_0 A1_0 c1_0 l1_0 _ _ _ w hr0.2.2 hr0.2.1 hr1_0 hc1_0 hz hn h1 hK).mono ?_
          rintro e w' ⟨v0, v1, he, hv0, hv1, hb⟩
          exact ⟨v0, v1, he, Kd.V_mono hv0 (fun _ hk => .inr hk), Kd.V_mono hv1 (fun _ hk => .inr hk), hb⟩
        · refine (nat_Nat_Div.calls_k K A0_0 c0_0 l0_0 A1_0 c1_0 l1_0 _ _ _ w hr0.2.2 hr0.2.1 hr1_0 hc1_0 hz hn h1 hK).mono ?_
          rintro e w' ⟨v0, v1, he, hv0, hv1, hb⟩
          exact ⟨v0, v1, he, Kd.V_mono hv0 (fun _ hk => .inr hk), Kd.V_mono hv1 (fun _ hk => .inr hk), hb⟩
  · rw [if_neg hg] at h
    cases h
end Go.Proofs.Yteejcpbngnojkaa.P
end
section
namespace Go.Proofs.Yteejcpbngnojkaa.P
open Go.RowKit Go.Proofs.YteejcpbngnojkaaW.PrintWords Go.Proofs.YteejcpbngnojkaaW.PrintLast Go.Proofs.YteejcpbngnojkaaW.PrintMore
attribute [local go_sem] max2_int min2_int max_two min_two max_three min_three max_four min_four
set_option linter.unusedVariables false
set_option linter.unusedSimpArgs false
def sacristyref01_Small.l0 : Nat → Int → List Bool → Option (List Bool)
 |0,_,_ => none
 |k + 1,x0,x3 => if x0 > 0 then (if x3.length < 140737488355328 then (sacristyref01_Small.l0 k (IntKind.u64.wrap (Int.tdiv x0 2)) (x3 ++ [((Int.tmod x0 2) == 1)])) else (none)) else (some x3)
def sacristyref01_Small.f (k : Nat) (a0 : Int) : Option (List Bool):=sacristyref01_Small.l0 k a0 (([] : List Bool))
theorem sacristyref01_Small.mono_l : ∀ k,(∀ y0 y1,LeO (sacristyref01_Small.l0 k y0 y1) (sacristyref01_Small.l0 (k + 1) y0 y1))
 |0 => fun _ _ r h => by simp [sacristyref01_Small.l0] at h
 |k + 1 => by
  have ih0:=sacristyref01_Small.mono_l k
  ·intro y0 y1
   unfold sacristyref01_Small.l0
   repeat' first
   |(with_reducible exact ih0 _ _)
   |(with_reducible exact LeO.refl _)
   |(with_reducible exact LeO.none _)
   |(with_reducible refine LeO.ite ?_ ?_)
   |(with_reducible refine LeO.bind ?_ (fun _ => ?_))
   |exact ih0 _ _
   |exact LeO.none _
   |refine LeO.ite ?_ ?_
   |refine LeO.bind ?_ (fun _ => ?_)
theorem sacristyref01_Small.mono : ∀ a0 k,LeO (sacristyref01_Small.f k a0) (sacristyref01_Small.f (k + 1) a0):=by
 intro a0 k
 have ih0:=sacristyref01_Small.mono_l k
 unfold sacristyref01_Small.f
 repeat' first
   |(with_reducible exact ih0 _ _)
   |(with_reducible exact LeO.refl _)
   |(with_reducible exact LeO.none _)
   |(with_reducible refine LeO.ite ?_ ?_)
   |(with_reducible refine LeO.bind ?_ (fun _ => ?_))
   |exact ih0 _ _
   |exact LeO.none _
   |refine LeO.ite ?_ ?_
   |refine LeO.bind ?_ (fun _ => ?_)
set_option maxHeartbeats 8000000 in
set_option maxRecDepth 100000 in
theorem sacristyref01_Small.calls (k : Nat) (a0 : Int) (r : List Bool) (w : World) (h : sacristyref01_Small.f k a0 = some r) :
  Calls Try.prog 56 #[.int .u64 a0] w fun e w' => ∃ v0_ : Value,e = .returned (v0_) ∧ Kd.R Kd.bool 4 w' w.heap.size (fun _ => True) v0_ r ∧ Below w.heap.size w w':=by
 have HB:=Aside0.mk (Below.refl w.heap.size w)
 have H : (sacristyref01_Small.l0 k a0 (([] : List Bool))) = some r:=h
 clear h
 obtain ⟨y414,hy414⟩ : ∃ y_ : List Bool,y_ = (([] : List Bool)):=⟨_,rfl⟩
 replace H : (sacristyref01_Small.l0 k a0 y414) = some r:=by first|(rw [hy414];with_reducible exact H)|(have H2_:=(Option.bind_some _ _).symm.trans H;rw [hy414];with_reducible exact H2_)|(have H2_:=(Option.bind_some _ _).symm.trans H;with_reducible exact H2_)|with_reducible exact H|(rw [hy414];exact H)|exact H
 have Ny414:=Aside0.mk hy414
 clear hy414
 have H':=Aside0.mk H
 clear H
 go_enter Try.func56,Try.ntmps56
 go_wp2_with (first|((with_reducible refine gate_dst (N:=4) rfl ?_);refine Kd.R_lit Kd.bool _ 4 ?hg (N:=4) ?hd (xs:=([] : List Bool)) (inner:=[]) (ok:=fun _ => True) (okp:=fun _ => True) ?hr ?hp (fun _ hk => hk) trivial (Below.refl _ _) (Nat.le_refl _) (by simp) ?_;(case hd => rfl);(case hg => rfl);(case hr => first|(go_simp;done)|(go_simp;rfl));(case hp => exact (Reps.none _ _));intro v415 w2 ho3 hb hg_ hnew_;clear hg_ hnew_;(first|rw [← Ny414.out] at ho3|(simp only [Int.reduceToNat] at ho3;rw [← Ny414.out] at ho3));have n0_:=Aside0.mk (Kd.R_lower ho3 (below_size (by repeat (first|(with_reducible first|exact HB.out|apply below_alloc|apply pw_below_drewN|apply below_drew1)|exact HB.out))));have n1_:=Aside0.mk (below_step (by repeat (first|(with_reducible first|exact HB.out|apply below_alloc|apply pw_below_drewN|apply below_drew1)|exact HB.out)) hb);clear HB;have HO416:=n0_;have HB:=n1_;clear n0_ n1_;clear hb ho3))
 go_loopg [0,3] k (fun kq v0 v3 w' => ∃ (x0_1 : Int) (x3_1 : List Bool),v0 = .int .u64 x0_1 ∧ Aside0 (sacristyref01_Small.l0 kq x0_1 x3_1 = some r) ∧ Aside0 (kq ≤ k) ∧ Aside0 (Kd.R Kd.bool 4 w' w.heap.size (fun _ => True) v3 x3_1) ∧ Aside0 (Below w.heap.size w w'))
 case atStart => exact ⟨(a0),(y414),(by first|rfl|(simp;done)|(simp [*];done)),H',⟨Nat.le_refl _⟩,⟨by (with_reducible repeat (first|apply Kd.R_alloc|apply Kd.R_drewN|apply Kd.R_drew));exact HO416.out⟩,⟨by repeat (first|(with_reducible first|exact HB.out|apply below_alloc|apply pw_below_drewN|apply below_drew1)|exact HB.out)⟩⟩
 case round =>
  clear H'
  try clear p2
  obtain ⟨x0_1,x3_1,rfl,HA,HK1,HO_3,HB⟩:=hrel
  cases gk with
  |zero => exact absurd HA.out (by simp [sacristyref01_Small.l0])
  |succ k1 =>
   have H:=HA.out
   clear HA
   simp only [sacristyref01_Small.l0] at H
   by_cases c4 : x0_1 > 0
   ·rw [if_pos c4] at H
    have c4b0 : decide (0 < x0_1) = true:=decide_eq_true c4
    clear c4
    by_cases c5 : x3_1.length < 140737488355328
    ·rw [if_pos c5] at H
     have LMc5:=Aside0.mk c5
     clear c5
     obtain ⟨y417,hy417⟩ : ∃ y_ : List Bool,y_ = (x3_1 ++ [((Int.tmod x0_1 2) == 1)]):=⟨_,rfl⟩
     replace H : (sacristyref01_Small.l0 k1 (IntKind.u64.wrap (Int.tdiv x0_1 2)) y417) = some r:=by first|(rw [hy417];with_reducible exact H)|(have H2_:=(Option.bind_some _ _).symm.trans H;rw [hy417];with_reducible exact H2_)|(have H2_:=(Option.bind_some _ _).symm.trans H;with_reducible exact H2_)|with_reducible exact H|(rw [hy417];exact H)|exact H
     have Ny417:=Aside0.mk hy417
     clear hy417
     have H':=Aside0.mk H
     clear H
     go_wp2_with (first|((with_reducible refine gate_builtin (b:=.append) (xs:=#[.tmp 7,.tmp 11]) rfl ?_);at_builtin;refine Kd.R_append Kd.bool (w0:=w) w.heap.size rfl (.tmp 7) (.tmp 11) 42 4 (.bool false) 1 rfl Try.underlying42 info4 rfl (by decide) (by omega) u3 x3_1 ((Int.tmod x0_1 2) == 1) [.bool ((Int.tmod x0_1 2) == 1)] (fun _ => True) (fun _ => False) rfl rfl ?aP (fun _ hk => hk.elim) ?aF ?aO ?aB ?aS ?aL ?_;(case aP => exact rfl);(case aB => exact (by repeat (first|(with_reducible first|exact HB.out|apply below_alloc|apply pw_below_drewN|apply below_drew1)|exact HB.out)));(case aF => exact (fun _ _ => trivial));(case aO => exact (by (with_reducible repeat (first|apply Kd.R_alloc|apply Kd.R_drewN|apply Kd.R_drew));exact HO_3.out));(case aS => exact (below_size (by repeat (first|(with_reducible first|exact HB.out|apply below_alloc|apply pw_below_drewN|apply below_drew1)|exact HB.out))));(case aL => have:=LMc5.out;omega);intro v418 w6 ho hb hg hat;rw [← Ny417.out] at ho;have n0_:=Aside0.mk (hb);have n1_:=Aside0.mk (ho);clear HB;clear HO_3;have HB:=n0_;have HO419:=n1_;clear n0_ n1_;clear ho hb hg hat))
     go_roundg k1
     case measure => have:=HK1.out;omega
     case rel => exact ⟨(IntKind.u64.wrap (Int.tdiv x0_1 2)),(y417),(by first|rfl|(simp;done)|(simp [*];done)),H',⟨by have:=HK1.out;omega⟩,⟨by (with_reducible repeat (first|apply Kd.R_alloc|apply Kd.R_drewN|apply Kd.R_drew));exact HO419.out⟩,⟨by repeat (first|(with_reducible first|exact HB.out|apply below_alloc|apply pw_below_drewN|apply below_drew1)|exact HB.out)⟩⟩
    ·rw [if_neg c5] at H
     exact absurd H (by simp)
   ·rw [if_neg c4] at H
    have c4b0 : decide (0 < x0_1) = false:=decide_eq_false c4
    clear c4
    obtain rfl:=Option.some.inj H
    go_wp2
    (first|go_ret|(refine ⟨_,results_tmp rfl _ _ _,?_⟩))
    exact ⟨_,by first|rfl|(simp [errW_none,errW_some] <;> rfl)|(simp [*,errW_none,errW_some] <;> rfl),by (with_reducible repeat (first|apply Kd.R_alloc|apply Kd.R_drewN|apply Kd.R_drew));exact HO_3.out,by repeat (first|(with_reducible first|exact HB.out|apply below_alloc|apply pw_below_drewN|apply below_drew1)|exact HB.out)⟩
end Go.Proofs.Yteejcpbngnojkaa.P
end
section
namespace Go.Proofs.Yteejcpbngnojkaa.P
open Go.RowKit Go.Proofs.YteejcpbngnojkaaW.PrintWords Go.Proofs.YteejcpbngnojkaaW.PrintLast Go.Proofs.YteejcpbngnojkaaW.PrintMore
attribute [local go_sem] max2_int min2_int max_two min_two max_three min_three max_four min_four
set_option linter.unusedVariables false
set_option linter.unusedSimpArgs false
def sacristylaw01_lives.f (k : Nat)  : Option (Bool):=(nat_New.f k 7).bind fun t420 => ((nat_New.f k 2).bind fun t423 => ((nat_Nat_Div.f k t420 t423).bind fun bt426 => (if bt426.2.2 = 0 then ((sacristyref01_Small.f k 3).bind fun t435 => ((sacristylaw01_Same.f k bt426.1 t435).bind fun t438 => (if t438 = true then ((sacristyref01_Small.f k 1).bind fun t439 => ((sacristylaw01_Same.f k bt426.2.1 t439).bind fun t442 => (some t442))) else (some false)))) else (some false))))
theorem sacristylaw01_lives.mono : ∀ k,LeO (sacristylaw01_lives.f k ) (sacristylaw01_lives.f (k + 1) ):=by
 intro  k
 unfold sacristylaw01_lives.f
 repeat' first
   |(with_reducible exact nat_Nat_Div.mono _ _ _)
   |(with_reducible exact nat_New.mono _ _)
   |(with_reducible exact sacristylaw01_Same.mono _ _ _)
   |(with_reducible exact sacristyref01_Small.mono _ _)
   |(with_reducible exact LeO.refl _)
   |(with_reducible exact LeO.none _)
   |(with_reducible refine LeO.ite ?_ ?_)
   |(with_reducible refine LeO.bind ?_ (fun _ => ?_))
   |exact nat_Nat_Div.mono _ _ _
   |exact nat_New.mono _ _
   |exact sacristylaw01_Same.mono _ _ _
   |exact sacristyref01_Small.mono _ _
   |exact LeO.none _
   |refine LeO.ite ?_ ?_
   |refine LeO.bind ?_ (fun _ => ?_)
def sacristylaw01_lives.T2 : Bool × List (List Nat × List Nat):=(true,[([],[]),([0],[0]),([1],[1]),([2],[2]),([2,2],[2]),([3,4,4,2],[2,3,4]),([2,5],[2,5]),([6,5],[6]),([7],[7]),([7,7],[7]),([8,9,9,7],[7,8,9]),([7,10],[7,10]),([11,10,0,1,2,3,4,5,6,7,8,9,10,11],[11])])
def sacristylaw01_lives.B2 : List Nat:=[0,1,3,7,7,31,63,127,255,255,1023,2047,4095]
theorem sacristylaw01_lives.tab2 : rtab .any (opsOf Try.f34 2) = sacristylaw01_lives.T2:=by kernel_rfl
theorem sacristylaw01_lives.bits2 : waitsOk sacristylaw01_lives.T2.2 sacristylaw01_lives.B2 = true:=by kernel_rfl
set_option maxHeartbeats 8000000 in
set_option maxRecDepth 100000 in
theorem sacristylaw01_lives.calls (k : Nat)  (r : Bool) (w : World) (h : sacristylaw01_lives.f k  = some r) :
  Calls Try.prog 34 #[] w fun e w' => e = .returned (.bool r) ∧ Below w.heap.size w w':=by
 have hu38:=Try.underlying38
 have HB:=Aside0.mk (Below.refl w.heap.size w)
 have H : ((nat_New.f k 7).bind fun t420 => ((nat_New.f k 2).bind fun t423 => ((nat_Nat_Div.f k t420 t423).bind fun bt426 => (if bt426.2.2 = 0 then ((sacristyref01_Small.f k 3).bind fun t435 => ((sacristylaw01_Same.f k bt426.1 t435).bind fun t438 => (if t438 = true then ((sacristyref01_Small.f k 1).bind fun t439 => ((sacristylaw01_Same.f k bt426.2.1 t439).bind fun t442 => (some t442))) else (some false)))) else (some false))))) = some r:=h
 clear h
 replace H:=Option.bind_eq_some_iff.mp H
 obtain ⟨t420,A10,H⟩:=H
 replace H : ((nat_New.f k 2).bind fun t423 => ((nat_Nat_Div.f k t420 t423).bind fun bt426 => (if bt426.2.2 = 0 then ((sacristyref01_Small.f k 3).bind fun t435 => ((sacristylaw01_Same.f k bt426.1 t435).bind fun t438 => (if t438 = true then ((sacristyref01_Small.f k 1).bind fun t439 => ((sacristylaw01_Same.f k bt426.2.1 t439).bind fun t442 => (some t442))) else (some false)))) else (some false)))) = some r:=H
 have A1:=Aside0.mk A10
 clear A10
 replace H:=Option.bind_eq_some_iff.mp H
 obtain ⟨t423,A20,H⟩:=H
 replace H : ((nat_Nat_Div.f k t420 t423).bind fun bt426 => (if bt426.2.2 = 0 then ((sacristyref01_Small.f k 3).bind fun t435 => ((sacristylaw01_Same.f k bt426.1 t435).bind fun t438 => (if t438 = true then ((sacristyref01_Small.f k 1).bind fun t439 => ((sacristylaw01_Same.f k bt426.2.1 t439).bind fun t442 => (some t442))) else (some false)))) else (some false))) = some r:=H
 have A2:=Aside0.mk A20
 clear A20
 replace H:=Option.bind_eq_some_iff.mp H
 obtain ⟨⟨t426,t429,t432⟩,A30,H⟩:=H
 replace H : (if t432 = 0 then ((sacristyref01_Small.f k 3).bind fun t435 => ((sacristylaw01_Same.f k t426 t435).bind fun t438 => (if t438 = true then ((sacristyref01_Small.f k 1).bind fun t439 => ((sacristylaw01_Same.f k t429 t439).bind fun t442 => (some t442))) else (some false)))) else (some false)) = some r:=H
 have A3:=Aside0.mk A30
 clear A30
 by_cases c4 : t432 = 0
 ·rw [if_pos c4] at H
  have c4b0 : (t432 == 0) = true:=beq_iff_eq.mpr c4
  have c4b1 : (t432 != 0) = false:=bne_eq_false_iff_eq.mpr c4
  clear c4
  replace H:=Option.bind_eq_some_iff.mp H
  obtain ⟨t435,A50,H⟩:=H
  replace H : ((sacristylaw01_Same.f k t426 t435).bind fun t438 => (if t438 = true then ((sacristyref01_Small.f k 1).bind fun t439 => ((sacristylaw01_Same.f k t429 t439).bind fun t442 => (some t442))) else (some false))) = some r:=H
  have A5:=Aside0.mk A50
  clear A50
  replace H:=Option.bind_eq_some_iff.mp H
  obtain ⟨t438,A60,H⟩:=H
  replace H : (if t438 = true then ((sacristyref01_Small.f k 1).bind fun t439 => ((sacristylaw01_Same.f k t429 t439).bind fun t442 => (some t442))) else (some false)) = some r:=H
  have A6:=Aside0.mk A60
  clear A60
  by_cases c7 : t438 = true
  ·subst c7
   have H1 : ((sacristyref01_Small.f k 1).bind fun t439 => ((sacristylaw01_Same.f k t429 t439).bind fun t442 => (some t442))) = some r:=by rw [if_pos rfl] at H;exact H
   clear H
   have H:=H1
   clear H1
   replace H:=Option.bind_eq_some_iff.mp H
   obtain ⟨t439,A80,H⟩:=H
   replace H : ((sacristylaw01_Same.f k t429 t439).bind fun t442 => (some t442)) = some r:=H
   have A8:=Aside0.mk A80
   clear A80
   replace H:=Option.bind_eq_some_iff.mp H
   obtain ⟨t442,A90,H⟩:=H
   replace H : (some t442) = some r:=H
   have A9:=Aside0.mk A90
   clear A90
   obtain rfl:=Option.some.inj H
   go_enter Try.func34,Try.ntmps34
   try go_wp2_with (first|((with_reducible refine gate_callee (f:=54) rfl ?_);refine goesL_ (some 5) rfl rfl Try.func54 (by kernel_rfl) rfl #[.int .u64 7] rfl (by (try simp only [List.map_toArray,List.map_cons,List.map_nil]);first|done|rfl|(simp only [List.length_drop,List.length_take];rfl)) ?_;(with_reducible refine (nat_New.calls k 7 t420 _ A1.out).mono ?_);rintro e w10 ⟨v421,rfl,ho0,hb⟩;refine ⟨_,rfl,?_⟩;have n0_:=Aside0.mk (Kd.V_lower (Kd.V_mono (ok':=fun k_ => True) ho0 (fun k_ hk_ => trivial)) (below_size (by repeat (first|(with_reducible first|exact HB.out|apply below_alloc|apply pw_below_drewN|apply below_drew1)|exact HB.out))));have n1_:=Aside0.mk (below_step (by repeat (first|(with_reducible first|exact HB.out|apply below_alloc|apply pw_below_drewN|apply below_drew1)|exact HB.out)) hb);clear HB;have HO422:=n0_;have HB:=n1_;clear n0_ n1_;(try clear hb);(try clear hb2);(try clear hk);(try clear hi);(try clear ho0))|((with_reducible refine gate_callee (f:=54) rfl ?_);refine goesL_ (some 6) rfl rfl Try.func54 (by kernel_rfl) rfl #[.int .u64 2] rfl (by (try simp only [List.map_toArray,List.map_cons,List.map_nil]);first|done|rfl|(simp only [List.length_drop,List.length_take];rfl)) ?_;(with_reducible refine (nat_New.calls k 2 t423 _ A2.out).mono ?_);rintro e w11 ⟨v424,rfl,ho0,hb⟩;refine ⟨_,rfl,?_⟩;have n0_:=Aside0.mk (Kd.V_below (by (with_reducible repeat (first|apply Kd.V_alloc|apply Kd.V_drewN|apply Kd.V_drew));exact HO422.out) hb);have n1_:=Aside0.mk (Kd.V_lower (Kd.V_mono (ok':=fun k_ => True) ho0 (fun k_ hk_ => trivial)) (below_size (by repeat (first|(with_reducible first|exact HB.out|apply below_alloc|apply pw_below_drewN|apply below_drew1)|exact HB.out))));have n2_:=Aside0.mk (below_step (by repeat (first|(with_reducible first|exact HB.out|apply below_alloc|apply pw_below_drewN|apply below_drew1)|exact HB.out)) hb);clear HO422;clear HB;have HO422:=n0_;have HO425:=n1_;have HB:=n2_;clear n0_ n1_ n2_;(try clear hb);(try clear hb2);(try clear hk);(try clear hi);(try clear ho0);obtain ⟨Ao12,co12,eo12⟩:=Kd.V_slice HO422.out;subst eo12;obtain ⟨Ao13,co13,eo13⟩:=Kd.V_slice HO425.out;subst eo13)|((with_reducible refine gate_callee (f:=53) rfl ?_);refine goesL_ (some 7) rfl rfl Try.func53 (by kernel_rfl) rfl #[.agg #[.slice Ao12 t420.length co12],.agg #[.slice Ao13 t423.length co13]] rfl (by (try simp only [List.map_toArray,List.map_cons,List.map_nil]);first|done|rfl|(simp only [List.length_drop,List.length_take];rfl)) ?_;(with_reducible refine (nat_Nat_Div.calls k (fun k_ => True) _ _ t420 _ _ t423 t426 t429 t432 _ ?side1 ?side2 ?side3 A3.out).mono ?_);(case side1 => exact HO422.out);(case side2 => repeat (first|exact (Kd.V_reads' HO425.out).2.2|(with_reducible refine Kd.C_alloc ?_ _)|(with_reducible refine Kd.C_drewN ?_ _)|(with_reducible refine Kd.C_drew ?_)));(case side3 => exact (Kd.V_reads' HO425.out).2.1);rintro e w14 ⟨v427,v430,rfl,ho0,ho1,hb⟩;refine ⟨_,rfl,?_⟩;have n0_:=Aside0.mk (Kd.V_below (by (with_reducible repeat (first|apply Kd.V_alloc|apply Kd.V_drewN|apply Kd.V_drew));exact HO422.out) hb);have n1_:=Aside0.mk (Kd.V_below (by (with_reducible repeat (first|apply Kd.V_alloc|apply Kd.V_drewN|apply Kd.V_drew));exact HO425.out) hb);have n2_:=Aside0.mk (Kd.V_lower (Kd.V_mono (ok':=fun k_ => True) ho0 (fun k_ hk_ => trivial)) (below_size (by repeat (first|(with_reducible first|exact HB.out|apply below_alloc|apply pw_below_drewN|apply below_drew1)|exact HB.out))));have n3_:=Aside0.mk (Kd.V_lower (Kd.V_mono (ok':=fun k_ => True) ho1 (fun k_ hk_ => trivial)) (below_size (by repeat (first|(with_reducible first|exact HB.out|apply below_alloc|apply pw_below_drewN|apply below_drew1)|exact HB.out))));have n4_:=Aside0.mk (below_step (by repeat (first|(with_reducible first|exact HB.out|apply below_alloc|apply pw_below_drewN|apply below_drew1)|exact HB.out)) hb);clear HO422;clear HO425;clear HB;have HO422:=n0_;have HO425:=n1_;have HO428:=n2_;have HO431:=n3_;have HB:=n4_;clear n0_ n1_ n2_ n3_ n4_;(try clear hb);(try clear hb2);(try clear hk);(try clear hi);(try clear ho0);(try clear ho1))|((with_reducible refine gate_dst (N:=1) rfl ?_);refine box_event ?hg (N:=1) ?hd (cs:=#[.slice none 0 0]) (t:=38) ?hr ?_;(case hd => rfl);(case hg => rfl);(case hr => first|(go_simp;done)|(go_simp;rfl));intro gb433 hg w15 hbox hb;have n0_:=Aside0.mk (Kd.V_below (Kd.V_elderB (by (with_reducible repeat (first|apply Kd.V_alloc|apply Kd.V_drewN|apply Kd.V_drew));exact HO422.out) gb433 (Nat.le_of_eq hg.symm)) hb);have n1_:=Aside0.mk (Kd.V_below (Kd.V_elderB (by (with_reducible repeat (first|apply Kd.V_alloc|apply Kd.V_drewN|apply Kd.V_drew));exact HO425.out) gb433 (Nat.le_of_eq hg.symm)) hb);have n2_:=Aside0.mk (Kd.V_below (Kd.V_elderB (by (with_reducible repeat (first|apply Kd.V_alloc|apply Kd.V_drewN|apply Kd.V_drew));exact HO428.out) gb433 (Nat.le_of_eq hg.symm)) hb);have n3_:=Aside0.mk (Kd.V_below (Kd.V_elderB (by (with_reducible repeat (first|apply Kd.V_alloc|apply Kd.V_drewN|apply Kd.V_drew));exact HO431.out) gb433 (Nat.le_of_eq hg.symm)) hb);have n4_:=Aside0.mk (below_step (by repeat (first|(with_reducible first|exact HB.out|apply below_alloc|apply pw_below_drewN|apply below_drew1)|exact HB.out)) hb);have n5_:=Aside0.mk (hbox);have n6_:=Aside0.mk ((by rw [hg];exact (below_size (by repeat (first|(with_reducible first|exact HB.out|apply below_alloc|apply pw_below_drewN|apply below_drew1)|exact HB.out))) : w.heap.size ≤ gb433));have n7_:=Aside0.mk ((by rw [hg];exact (below_size (by repeat (first|(with_reducible first|exact HB.out|apply below_alloc|apply pw_below_drewN|apply below_drew1)|exact HB.out))) : w.heap.size ≤ gb433));clear HO422;clear HO425;clear HO428;clear HO431;clear HB;have HO422:=n0_;have HO425:=n1_;have HO428:=n2_;have HO431:=n3_;have HB:=n4_;have BK433:=n5_;have GW433:=n6_;have GE433:=n7_;clear n0_ n1_ n2_ n3_ n4_ n5_ n6_ n7_;clear hb hbox hg)|((with_reducible refine gate_dst (N:=2) rfl ?_);refine box_event ?hg (N:=2) ?hd (cs:=#[.slice none 0 0]) (t:=38) ?hr ?_;(case hd => rfl);(case hg => rfl);(case hr => first|(go_simp;done)|(go_simp;rfl));intro gb434 hg w16 hbox hb;have n0_:=Aside0.mk (Kd.V_below (Kd.V_elderB (by (with_reducible repeat (first|apply Kd.V_alloc|apply Kd.V_drewN|apply Kd.V_drew));exact HO422.out) gb434 (Nat.le_of_eq hg.symm)) hb);have n1_:=Aside0.mk (Kd.V_below (Kd.V_elderB (by (with_reducible repeat (first|apply Kd.V_alloc|apply Kd.V_drewN|apply Kd.V_drew));exact HO425.out) gb434 (Nat.le_of_eq hg.symm)) hb);have n2_:=Aside0.mk (Kd.V_below (Kd.V_elderB (by (with_reducible repeat (first|apply Kd.V_alloc|apply Kd.V_drewN|apply Kd.V_drew));exact HO428.out) gb434 (Nat.le_of_eq hg.symm)) hb);have n3_:=Aside0.mk (Kd.V_below (Kd.V_elderB (by (with_reducible repeat (first|apply Kd.V_alloc|apply Kd.V_drewN|apply Kd.V_drew));exact HO431.out) gb434 (Nat.le_of_eq hg.symm)) hb);have n4_:=Aside0.mk (blk_below (g:=gb433) (o:=.cells #[.slice none 0 0] 38 (0,0)) (by (with_reducible repeat (first|refine blk_drewN ?_ _|refine blk_drew ?_|refine blk_alloc ?_ _));exact BK433.out) hb);have n5_:=Aside0.mk (below_step (by repeat (first|(with_reducible first|exact HB.out|apply below_alloc|apply pw_below_drewN|apply below_drew1|refine below_set ?_ GE433.out)|exact HB.out)) hb);have n6_:=Aside0.mk (hbox);have n7_:=Aside0.mk ((by rw [hg];exact (below_size (by repeat (first|(with_reducible first|exact HB.out|apply below_alloc|apply pw_below_drewN|apply below_drew1|refine below_set ?_ GE433.out)|exact HB.out))) : w.heap.size ≤ gb434));have n8_:=Aside0.mk ((by rw [hg];exact (below_size (by repeat (first|(with_reducible first|exact HB.out|apply below_alloc|apply pw_below_drewN|apply below_drew1|refine below_set ?_ GE433.out)|exact HB.out))) : w.heap.size ≤ gb434));have n9_:=Aside0.mk ((by rw [hg];exact Nat.ne_of_lt (blk_lt (g:=gb433) (o:=.cells #[.slice none 0 0] 38 (0,0)) (by (with_reducible repeat (first|refine blk_drewN ?_ _|refine blk_drew ?_|refine blk_alloc ?_ _));exact BK433.out)) : gb433 ≠ gb434));have n10_:=Aside0.mk ((by rw [hg];exact Nat.ne_of_gt (blk_lt (g:=gb433) (o:=.cells #[.slice none 0 0] 38 (0,0)) (by (with_reducible repeat (first|refine blk_drewN ?_ _|refine blk_drew ?_|refine blk_alloc ?_ _));exact BK433.out)) : gb434 ≠ gb433));clear HO422;clear HO425;clear HO428;clear HO431;clear BK433;clear HB;have HO422:=n0_;have HO425:=n1_;have HO428:=n2_;have HO431:=n3_;have BK433:=n4_;have HB:=n5_;have BK434:=n6_;have GW434:=n7_;have GE434:=n8_;have NB433_434:=n9_;have NB434_433:=n10_;clear n0_ n1_ n2_ n3_ n4_ n5_ n6_ n7_ n8_ n9_ n10_;clear hb hbox hg;obtain ⟨Ao17,co17,eo17⟩:=Kd.V_slice HO428.out;subst eo17;have hnb18:=NB433_434.out;have hnc18:=NB434_433.out;have hcz19_0 : w16.cell? ⟨gb433,0,none⟩ = some (.slice none 0 0):=(blk_cell BK433.out 0).trans rfl;have hfz19_0:=blk_frozen BK433.out 0;obtain ⟨Ao20,co20,eo20⟩:=Kd.V_slice HO431.out;subst eo20;have hcz21_0 : w16.cell? ⟨gb434,0,none⟩ = some (.slice none 0 0):=(blk_cell BK434.out 0).trans rfl;have hfz21_0:=blk_frozen BK434.out 0))
   have n0_ : Aside0 (Kd.V (Kd.int .u32) 23 ((w16.setCell ⟨gb433,0,none⟩ (.slice Ao17 t426.length co17)).setCell ⟨gb434,0,none⟩ (.slice Ao20 t429.length co20)) w.heap.size (fun k_ => k_ ≠ gb433 ∧ k_ ≠ gb434) (.slice Ao12 t420.length co12) t420):=⟨by (with_reducible repeat (first|apply Kd.V_alloc|apply Kd.V_drewN|apply Kd.V_drew));exact Kd.V_mono (Kd.V_far (p:=⟨gb434,0,none⟩) (Kd.V_far (p:=⟨gb433,0,none⟩) (Kd.V_mono (Kd.V_mono HO422.out (fun k_ hk => (⟨hk,hk.1.2⟩ : _ ∧ k_ ≠ gb433))) (fun k_ hk => (⟨hk,hk.1.2⟩ : _ ∧ k_ ≠ gb434))) (fun _ hk => hk.1.2) (.slice Ao17 t426.length co17)) (fun _ hk => hk.2) (.slice Ao20 t429.length co20)) (fun _ hk => ⟨hk.1.1.1.2,hk.1.1.2⟩)⟩
   have n1_ : Aside0 (Kd.V (Kd.int .u32) 23 ((w16.setCell ⟨gb433,0,none⟩ (.slice Ao17 t426.length co17)).setCell ⟨gb434,0,none⟩ (.slice Ao20 t429.length co20)) w.heap.size (fun k_ => k_ ≠ gb433 ∧ k_ ≠ gb434) (.slice Ao13 t423.length co13) t423):=⟨by (with_reducible repeat (first|apply Kd.V_alloc|apply Kd.V_drewN|apply Kd.V_drew));exact Kd.V_mono (Kd.V_far (p:=⟨gb434,0,none⟩) (Kd.V_far (p:=⟨gb433,0,none⟩) (Kd.V_mono (Kd.V_mono HO425.out (fun k_ hk => (⟨hk,hk.1.2⟩ : _ ∧ k_ ≠ gb433))) (fun k_ hk => (⟨hk,hk.1.2⟩ : _ ∧ k_ ≠ gb434))) (fun _ hk => hk.1.2) (.slice Ao17 t426.length co17)) (fun _ hk => hk.2) (.slice Ao20 t429.length co20)) (fun _ hk => ⟨hk.1.1.1.2,hk.1.1.2⟩)⟩
   have n2_ : Aside0 (Kd.V (Kd.int .u32) 23 ((w16.setCell ⟨gb433,0,none⟩ (.slice Ao17 t426.length co17)).setCell ⟨gb434,0,none⟩ (.slice Ao20 t429.length co20)) w.heap.size (fun k_ => k_ ≠ gb433 ∧ k_ ≠ gb434) (.slice Ao17 t426.length co17) t426):=⟨by (with_reducible repeat (first|apply Kd.V_alloc|apply Kd.V_drewN|apply Kd.V_drew));exact Kd.V_mono (Kd.V_far (p:=⟨gb434,0,none⟩) (Kd.V_far (p:=⟨gb433,0,none⟩) (Kd.V_mono (Kd.V_mono HO428.out (fun k_ hk => (⟨hk,hk.1.2⟩ : _ ∧ k_ ≠ gb433))) (fun k_ hk => (⟨hk,hk.1.2⟩ : _ ∧ k_ ≠ gb434))) (fun _ hk => hk.1.2) (.slice Ao17 t426.length co17)) (fun _ hk => hk.2) (.slice Ao20 t429.length co20)) (fun _ hk => ⟨hk.1.1.1.2,hk.1.1.2⟩)⟩
   have n3_ : Aside0 (Kd.V (Kd.int .u32) 23 ((w16.setCell ⟨gb433,0,none⟩ (.slice Ao17 t426.length co17)).setCell ⟨gb434,0,none⟩ (.slice Ao20 t429.length co20)) w.heap.size (fun k_ => k_ ≠ gb433 ∧ k_ ≠ gb434) (.slice Ao20 t429.length co20) t429):=⟨by (with_reducible repeat (first|apply Kd.V_alloc|apply Kd.V_drewN|apply Kd.V_drew));exact Kd.V_mono (Kd.V_far (p:=⟨gb434,0,none⟩) (Kd.V_far (p:=⟨gb433,0,none⟩) (Kd.V_mono (Kd.V_mono HO431.out (fun k_ hk => (⟨hk,hk.1.2⟩ : _ ∧ k_ ≠ gb433))) (fun k_ hk => (⟨hk,hk.1.2⟩ : _ ∧ k_ ≠ gb434))) (fun _ hk => hk.1.2) (.slice Ao17 t426.length co17)) (fun _ hk => hk.2) (.slice Ao20 t429.length co20)) (fun _ hk => ⟨hk.1.1.1.2,hk.1.1.2⟩)⟩
   have n4_ : Aside0 (((w16.setCell ⟨gb433,0,none⟩ (.slice Ao17 t426.length co17)).setCell ⟨gb434,0,none⟩ (.slice Ao20 t429.length co20)).heap[gb433]? = some (.cells #[.slice Ao17 t426.length co17] 38 (0,0))):=⟨by (with_reducible repeat (first|refine blk_drewN ?_ _|refine blk_drew ?_|refine blk_alloc ?_ _));refine blk_far ?_ NB433_434.out _;(with_reducible repeat (first|refine blk_drewN ?_ _|refine blk_drew ?_|refine blk_alloc ?_ _));refine blk_put (cs:=#[.slice none 0 0]) ?_ 0 _ rfl;(with_reducible repeat (first|refine blk_drewN ?_ _|refine blk_drew ?_|refine blk_alloc ?_ _));exact BK433.out⟩
   have n5_ : Aside0 (((w16.setCell ⟨gb433,0,none⟩ (.slice Ao17 t426.length co17)).setCell ⟨gb434,0,none⟩ (.slice Ao20 t429.length co20)).heap[gb434]? = some (.cells #[.slice Ao20 t429.length co20] 38 (0,0))):=⟨by (with_reducible repeat (first|refine blk_drewN ?_ _|refine blk_drew ?_|refine blk_alloc ?_ _));refine blk_put (cs:=#[.slice none 0 0]) ?_ 0 _ rfl;(with_reducible repeat (first|refine blk_drewN ?_ _|refine blk_drew ?_|refine blk_alloc ?_ _));refine blk_far ?_ NB434_433.out _;(with_reducible repeat (first|refine blk_drewN ?_ _|refine blk_drew ?_|refine blk_alloc ?_ _));exact BK434.out⟩
   have n6_ : Aside0 (Below w.heap.size w ((w16.setCell ⟨gb433,0,none⟩ (.slice Ao17 t426.length co17)).setCell ⟨gb434,0,none⟩ (.slice Ao20 t429.length co20))):=⟨by repeat (first|(with_reducible first|exact HB.out|apply below_alloc|apply pw_below_drewN|apply below_drew1|refine below_set ?_ GE433.out|refine below_set ?_ GE434.out)|exact HB.out)⟩
   (try clear HO422)
   (try clear HO425)
   (try clear HO428)
   (try clear HO431)
   (try clear BK433)
   (try clear BK434)
   (try clear HB)
   generalize ((w16.setCell ⟨gb433,0,none⟩ (.slice Ao17 t426.length co17)).setCell ⟨gb434,0,none⟩ (.slice Ao20 t429.length co20)) = w22 at n0_ n1_ n2_ n3_ n4_ n5_ n6_ ⊢
   have HO422:=n0_
   have HO425:=n1_
   have HO428:=n2_
   have HO431:=n3_
   have BK433:=n4_
   have BK434:=n5_
   have HB:=n6_
   clear n0_ n1_ n2_ n3_ n4_ n5_ n6_
   have n0_:=Aside0.mk (Kd.V_drew HO422.out)
   have n1_:=Aside0.mk (Kd.V_drew HO425.out)
   have n2_:=Aside0.mk (Kd.V_drew HO428.out)
   have n3_:=Aside0.mk (Kd.V_drew HO431.out)
   have n4_:=Aside0.mk (blk_drew BK433.out)
   have n5_:=Aside0.mk (blk_drew BK434.out)
   have n6_:=Aside0.mk (below_drew1 HB.out)
   clear HO422
   clear HO425
   clear HO428
   clear HO431
   clear BK433
   clear BK434
   clear HB
   have HO422:=n0_
   have HO425:=n1_
   have HO428:=n2_
   have HO431:=n3_
   have BK433:=n4_
   have BK434:=n5_
   have HB:=n6_
   clear n0_ n1_ n2_ n3_ n4_ n5_ n6_
   refine start_ (n:=13) (S:=fun w' => w'.cell? ⟨gb433,0,none⟩ = some (.slice Ao17 t426.length co17) ∧ w'.cell? ⟨gb434,0,none⟩ = some (.slice Ao20 t429.length co20)) (ds:=[]) #[false,false,false,false,false,false,false,false,false,false,false,false,false] (by kernel_rfl) rfl rfl ⟨(blk_cell BK433.out 0).trans rfl,(blk_cell BK434.out 0).trans rfl⟩ (fun hHeld => ?_);refine with_tabW sacristylaw01_lives.tab2 sacristylaw01_lives.bits2 (fun HT_ HW_ => ?_)
   generalize w22.drew = w23 at HO422 HO425 HO428 HO431 BK433 BK434 HB hHeld ⊢
   refine pure_ (i:=0) (N:=some 11) (v:=?_) (a':=?_) #[true,false,false,false,false,false,false,false,false,false,false,false,false] rfl rfl (any_of HT_.out (by kernel_rfl)) (fun _ _ _ h => h) (Or.inl ⟨by rfl,?_⟩) ?_ ?_
   rotate_left
   ·intro w'
    go_simp
    with_reducible rfl
   rotate_left
   ·simp only [Act.put,List.setIfInBounds_toArray,List.set_cons_zero,List.set_cons_succ,i64_w,i32_w]
    rfl
   refine pure_ (i:=1) (N:=some 12) (v:=?_) (a':=?_) #[true,true,false,false,false,false,false,false,false,false,false,false,false] rfl rfl (any_of HT_.out (by kernel_rfl)) (fun _ _ _ h => h) (Or.inl ⟨by rfl,?_⟩) ?_ ?_
   rotate_left
   ·intro w'
    go_simp
    with_reducible rfl
   rotate_left
   ·simp only [Act.put,List.setIfInBounds_toArray,List.set_cons_zero,List.set_cons_succ,i64_w,i32_w]
    rfl
   refine pure_ (i:=2) (N:=some 13) (v:=?_) (a':=?_) #[true,true,true,false,false,false,false,false,false,false,false,false,false] rfl rfl (any_of HT_.out (by kernel_rfl)) (fun _ _ _ h => h) (Or.inl ⟨by rfl,?_⟩) ?_ ?_
   rotate_left
   ·intro w'
    go_simp
    with_reducible rfl
   rotate_left
   ·simp only [Act.put,List.setIfInBounds_toArray,List.set_cons_zero,List.set_cons_succ,i64_w,i32_w]
    rfl
   refine take_ (i:=3) (N:=some 14) (v:=?_) (a':=?_) #[true,true,true,true,false,false,false,false,false,false,false,false,false] rfl rfl (take_ofW HT_.out HW_.out (by kernel_rfl)) (fun _ _ _ h => h) (Or.inl ⟨by rfl,?_⟩) hHeld ?_ ?_
   rotate_left
   ·rintro w' ⟨s0,s1⟩
    go_simp
    with_reducible rfl
   rotate_left
   ·simp only [Act.put,List.setIfInBounds_toArray,List.set_cons_zero,List.set_cons_succ,i64_w,i32_w]
    rfl
   refine one_ (i:=4) (N:=some 15) #[true,true,true,true,true,false,false,false,false,false,false,false,false] rfl rfl (one_of HT_.out (by kernel_rfl)) (by decide) (fun K hK => ?_)
   refine goes_ Try.func56 (by kernel_rfl) rfl #[.int .u64 3] (by rfl) rfl rfl (by (try simp only [List.map_toArray,List.map_cons,List.map_nil]);first|done|rfl|(simp only [List.length_drop,List.length_take];rfl)) ?_
   with_reducible refine (sacristyref01_Small.calls k 3 t435 _ A5.out).mono ?_
   rintro e w24 ⟨v436,rfl,ho0,hb⟩
   refine ⟨_,rfl,?_⟩
   have n0_:=Aside0.mk (Kd.V_elder' (by (with_reducible repeat (first|apply Kd.V_alloc|apply Kd.V_drewN|apply Kd.V_drew));exact HO422.out) (Kd.R_base ho0) hb)
   have n1_:=Aside0.mk (Kd.V_elder' (by (with_reducible repeat (first|apply Kd.V_alloc|apply Kd.V_drewN|apply Kd.V_drew));exact HO425.out) (Kd.R_base ho0) hb)
   have n2_:=Aside0.mk (Kd.V_elder' (by (with_reducible repeat (first|apply Kd.V_alloc|apply Kd.V_drewN|apply Kd.V_drew));exact HO428.out) (Kd.R_base ho0) hb)
   have n3_:=Aside0.mk (Kd.V_elder' (by (with_reducible repeat (first|apply Kd.V_alloc|apply Kd.V_drewN|apply Kd.V_drew));exact HO431.out) (Kd.R_base ho0) hb)
   have n4_:=Aside0.mk (Kd.R_lower ho0 (below_size (by repeat (first|(with_reducible first|exact HB.out|apply below_alloc|apply pw_below_drewN|apply below_drew1|refine below_set ?_ GE433.out|refine below_set ?_ GE434.out)|exact HB.out))))
   have n5_:=Aside0.mk (blk_below (g:=gb433) (o:=.cells #[.slice Ao17 t426.length co17] 38 (0,0)) (by (with_reducible repeat (first|refine blk_drewN ?_ _|refine blk_drew ?_|refine blk_alloc ?_ _));exact BK433.out) hb)
   have n6_:=Aside0.mk (blk_below (g:=gb434) (o:=.cells #[.slice Ao20 t429.length co20] 38 (0,0)) (by (with_reducible repeat (first|refine blk_drewN ?_ _|refine blk_drew ?_|refine blk_alloc ?_ _));exact BK434.out) hb)
   have n7_:=Aside0.mk (below_step (by repeat (first|(with_reducible first|exact HB.out|apply below_alloc|apply pw_below_drewN|apply below_drew1|refine below_set ?_ GE433.out|refine below_set ?_ GE434.out)|exact HB.out)) hb)
   clear HO422
   clear HO425
   clear HO428
   clear HO431
   clear BK433
   clear BK434
   clear HB
   have HO422:=n0_
   have HO425:=n1_
   have HO428:=n2_
   have HO431:=n3_
   have HO437:=n4_
   have BK433:=n5_
   have BK434:=n6_
   have HB:=n7_
   clear n0_ n1_ n2_ n3_ n4_ n5_ n6_ n7_
   (try clear hb)
   (try clear hb2)
   (try clear hk)
   (try clear hi)
   (try clear ho0)
   obtain ⟨Ao25,co25,eo25⟩:=Kd.R_slice HO437.out
   (first|subst eo25|(injection eo25 with f1_ f2_ f3_;have f4_:=f1_.symm;have f5_:=f3_.symm;clear f1_ f2_ f3_;subst f4_;subst f5_))
   refine hK.out _ _ ⟨(blk_cell BK433.out 0).trans rfl,(blk_cell BK434.out 0).trans rfl⟩ (fun hHeld => ?_)
   clear hK K
   refine norm_ (a':=?_) ?_ ?_
   rotate_left
   ·show Act.put _ (some 15) _ = _
    simp only [Act.put,List.setIfInBounds_toArray,List.set_cons_zero,List.set_cons_succ,i64_w,i32_w]
    rfl
   refine one_ (i:=5) (N:=some 16) #[true,true,true,true,true,true,false,false,false,false,false,false,false] rfl rfl (one_of HT_.out (by kernel_rfl)) (by decide) (fun K hK => ?_)
   refine goes_ Try.func37 (by kernel_rfl) rfl #[.agg #[.slice Ao17 t426.length co17],.slice Ao25 t435.length co25] (by rfl) rfl rfl (by (try simp only [List.map_toArray,List.map_cons,List.map_nil]);first|done|rfl|(simp only [List.length_drop,List.length_take];rfl)) ?_
   with_reducible refine (sacristylaw01_Same.calls k _ _ t426 _ _ t435 true _ ?side1 ?side2 ?side3 ?side4 A6.out).mono ?_
   (case side1 => repeat (first|exact (Kd.V_reads' HO428.out).2.2|(with_reducible refine Kd.C_alloc ?_ _)|(with_reducible refine Kd.C_drewN ?_ _)|(with_reducible refine Kd.C_drew ?_)))
   (case side2 => exact (Kd.V_reads' HO428.out).2.1)
   (case side3 => repeat (first|exact (Kd.R_reads' HO437.out).2.2|(with_reducible refine Kd.C_alloc ?_ _)|(with_reducible refine Kd.C_drewN ?_ _)|(with_reducible refine Kd.C_drew ?_)))
   (case side4 => exact (Kd.R_reads' HO437.out).2.1)
   rintro e w26 ⟨rfl,hb⟩
   refine ⟨_,rfl,?_⟩
   have n0_:=Aside0.mk (Kd.V_below (by (with_reducible repeat (first|apply Kd.V_alloc|apply Kd.V_drewN|apply Kd.V_drew));exact HO422.out) hb)
   have n1_:=Aside0.mk (Kd.V_below (by (with_reducible repeat (first|apply Kd.V_alloc|apply Kd.V_drewN|apply Kd.V_drew));exact HO425.out) hb)
   have n2_:=Aside0.mk (Kd.V_below (by (with_reducible repeat (first|apply Kd.V_alloc|apply Kd.V_drewN|apply Kd.V_drew));exact HO428.out) hb)
   have n3_:=Aside0.mk (Kd.V_below (by (with_reducible repeat (first|apply Kd.V_alloc|apply Kd.V_drewN|apply Kd.V_drew));exact HO431.out) hb)
   have n4_:=Aside0.mk (Kd.R_below (by (with_reducible repeat (first|apply Kd.R_alloc|apply Kd.R_drewN|apply Kd.R_drew));exact HO437.out) hb)
   have n5_:=Aside0.mk (blk_below (g:=gb433) (o:=.cells #[.slice Ao17 t426.length co17] 38 (0,0)) (by (with_reducible repeat (first|refine blk_drewN ?_ _|refine blk_drew ?_|refine blk_alloc ?_ _));exact BK433.out) hb)
   have n6_:=Aside0.mk (blk_below (g:=gb434) (o:=.cells #[.slice Ao20 t429.length co20] 38 (0,0)) (by (with_reducible repeat (first|refine blk_drewN ?_ _|refine blk_drew ?_|refine blk_alloc ?_ _));exact BK434.out) hb)
   have n7_:=Aside0.mk (below_step (by repeat (first|(with_reducible first|exact HB.out|apply below_alloc|apply pw_below_drewN|apply below_drew1|refine below_set ?_ GE433.out|refine below_set ?_ GE434.out)|exact HB.out)) hb)
   clear HO422
   clear HO425
   clear HO428
   clear HO431
   clear HO437
   clear BK433
   clear BK434
   clear HB
   have HO422:=n0_
   have HO425:=n1_
   have HO428:=n2_
   have HO431:=n3_
   have HO437:=n4_
   have BK433:=n5_
   have BK434:=n6_
   have HB:=n7_
   clear n0_ n1_ n2_ n3_ n4_ n5_ n6_ n7_
   (try clear hb)
   (try clear hb2)
   (try clear hk)
   (try clear hi)
   refine hK.out _ _ ⟨(blk_cell BK433.out 0).trans rfl,(blk_cell BK434.out 0).trans rfl⟩ (fun hHeld => ?_)
   clear hK K
   refine norm_ (a':=?_) ?_ ?_
   rotate_left
   ·show Act.put _ (some 16) _ = _
    simp only [Act.put,List.setIfInBounds_toArray,List.set_cons_zero,List.set_cons_succ,i64_w,i32_w]
    rfl
   refine pure_ (i:=6) (N:=some 17) (v:=?_) (a':=?_) #[true,true,true,true,true,true,true,false,false,false,false,false,false] rfl rfl (any_of HT_.out (by kernel_rfl)) (fun _ _ _ h => h) (Or.inl ⟨by rfl,?_⟩) ?_ ?_
   rotate_left
   ·intro w'
    go_simp
    with_reducible rfl
   rotate_left
   ·simp only [Act.put,List.setIfInBounds_toArray,List.set_cons_zero,List.set_cons_succ,i64_w,i32_w]
    rfl
   refine pure_ (i:=7) (N:=some 18) (v:=?_) (a':=?_) #[true,true,true,true,true,true,true,true,false,false,false,false,false] rfl rfl (any_of HT_.out (by kernel_rfl)) (fun _ _ _ h => h) (Or.inl ⟨by rfl,?_⟩) ?_ ?_
   rotate_left
   ·intro w'
    go_simp
    with_reducible rfl
   rotate_left
   ·simp only [Act.put,List.setIfInBounds_toArray,List.set_cons_zero,List.set_cons_succ,i64_w,i32_w]
    rfl
   refine take_ (i:=8) (N:=some 19) (v:=?_) (a':=?_) #[true,true,true,true,true,true,true,true,true,false,false,false,false] rfl rfl (take_ofW HT_.out HW_.out (by kernel_rfl)) (fun _ _ _ h => h) (Or.inl ⟨by rfl,?_⟩) hHeld ?_ ?_
   rotate_left
   ·rintro w' ⟨s0,s1⟩
    go_simp
    with_reducible rfl
   rotate_left
   ·simp only [Act.put,List.setIfInBounds_toArray,List.set_cons_zero,List.set_cons_succ,i64_w,i32_w]
    rfl
   refine one_ (i:=9) (N:=some 20) #[true,true,true,true,true,true,true,true,true,true,false,false,false] rfl rfl (one_of HT_.out (by kernel_rfl)) (by decide) (fun K hK => ?_)
   refine goes_ Try.func56 (by kernel_rfl) rfl #[.int .u64 1] (by rfl) rfl rfl (by (try simp only [List.map_toArray,List.map_cons,List.map_nil]);first|done|rfl|(simp only [List.length_drop,List.length_take];rfl)) ?_
   with_reducible refine (sacristyref01_Small.calls k 1 t439 _ A8.out).mono ?_
   rintro e w27 ⟨v440,rfl,ho0,hb⟩
   refine ⟨_,rfl,?_⟩
   have n0_:=Aside0.mk (Kd.V_elder' (by (with_reducible repeat (first|apply Kd.V_alloc|apply Kd.V_drewN|apply Kd.V_drew));exact HO422.out) (Kd.R_base ho0) hb)
   have n1_:=Aside0.mk (Kd.V_elder' (by (with_reducible repeat (first|apply Kd.V_alloc|apply Kd.V_drewN|apply Kd.V_drew));exact HO425.out) (Kd.R_base ho0) hb)
   have n2_:=Aside0.mk (Kd.V_elder' (by (with_reducible repeat (first|apply Kd.V_alloc|apply Kd.V_drewN|apply Kd.V_drew));exact HO428.out) (Kd.R_base ho0) hb)
   have n3_:=Aside0.mk (Kd.V_elder' (by (with_reducible repeat (first|apply Kd.V_alloc|apply Kd.V_drewN|apply Kd.V_drew));exact HO431.out) (Kd.R_base ho0) hb)
   have n4_:=Aside0.mk (Kd.R_elder' (by (with_reducible repeat (first|apply Kd.R_alloc|apply Kd.R_drewN|apply Kd.R_drew));exact HO437.out) (Kd.R_base ho0) hb)
   have n5_:=Aside0.mk (Kd.R_lower (Kd.R_new' ho0 (Kd.R_lt (by (with_reducible repeat (first|apply Kd.R_alloc|apply Kd.R_drewN|apply Kd.R_drew));exact HO437.out))) (below_size (by repeat (first|(with_reducible first|exact HB.out|apply below_alloc|apply pw_below_drewN|apply below_drew1|refine below_set ?_ GE433.out|refine below_set ?_ GE434.out)|exact HB.out))))
   have n6_:=Aside0.mk (blk_below (g:=gb433) (o:=.cells #[.slice Ao17 t426.length co17] 38 (0,0)) (by (with_reducible repeat (first|refine blk_drewN ?_ _|refine blk_drew ?_|refine blk_alloc ?_ _));exact BK433.out) hb)
   have n7_:=Aside0.mk (blk_below (g:=gb434) (o:=.cells #[.slice Ao20 t429.length co20] 38 (0,0)) (by (with_reducible repeat (first|refine blk_drewN ?_ _|refine blk_drew ?_|refine blk_alloc ?_ _));exact BK434.out) hb)
   have n8_:=Aside0.mk (below_step (by repeat (first|(with_reducible first|exact HB.out|apply below_alloc|apply pw_below_drewN|apply below_drew1|refine below_set ?_ GE433.out|refine below_set ?_ GE434.out)|exact HB.out)) hb)
   clear HO422
   clear HO425
   clear HO428
   clear HO431
   clear HO437
   clear BK433
   clear BK434
   clear HB
   have HO422:=n0_
   have HO425:=n1_
   have HO428:=n2_
   have HO431:=n3_
   have HO437:=n4_
   have HO441:=n5_
   have BK433:=n6_
   have BK434:=n7_
   have HB:=n8_
   clear n0_ n1_ n2_ n3_ n4_ n5_ n6_ n7_ n8_
   (try clear hb)
   (try clear hb2)
   (try clear hk)
   (try clear hi)
   (try clear ho0)
   obtain ⟨Ao28,co28,eo28⟩:=Kd.R_slice HO441.out
   (first|subst eo28|(injection eo28 with f1_ f2_ f3_;have f4_:=f1_.symm;have f5_:=f3_.symm;clear f1_ f2_ f3_;subst f4_;subst f5_))
   refine hK.out _ _ ⟨(blk_cell BK433.out 0).trans rfl,(blk_cell BK434.out 0).trans rfl⟩ (fun hHeld => ?_)
   clear hK K
   refine norm_ (a':=?_) ?_ ?_
   rotate_left
   ·show Act.put _ (some 20) _ = _
    simp only [Act.put,List.setIfInBounds_toArray,List.set_cons_zero,List.set_cons_succ,i64_w,i32_w]
    rfl
   refine one_ (i:=10) (N:=some 21) #[true,true,true,true,true,true,true,true,true,true,true,false,false] rfl rfl (one_of HT_.out (by kernel_rfl)) (by decide) (fun K hK => ?_)
   refine goes_ Try.func37 (by kernel_rfl) rfl #[.agg #[.slice Ao20 t429.length co20],.slice Ao28 t439.length co28] (by rfl) rfl rfl (by (try simp only [List.map_toArray,List.map_cons,List.map_nil]);first|done|rfl|(simp only [List.length_drop,List.length_take];rfl)) ?_
   with_reducible refine (sacristylaw01_Same.calls k _ _ t429 _ _ t439 t442 _ ?side1 ?side2 ?side3 ?side4 A9.out).mono ?_
   (case side1 => repeat (first|exact (Kd.V_reads' HO431.out).2.2|(with_reducible refine Kd.C_alloc ?_ _)|(with_reducible refine Kd.C_drewN ?_ _)|(with_reducible refine Kd.C_drew ?_)))
   (case side2 => exact (Kd.V_reads' HO431.out).2.1)
   (case side3 => repeat (first|exact (Kd.R_reads' HO441.out).2.2|(with_reducible refine Kd.C_alloc ?_ _)|(with_reducible refine Kd.C_drewN ?_ _)|(with_reducible refine Kd.C_drew ?_)))
   (case side4 => exact (Kd.R_reads' HO441.out).2.1)
   rintro e w29 ⟨rfl,hb⟩
   refine ⟨_,rfl,?_⟩
   have n0_:=Aside0.mk (Kd.V_below (by (with_reducible repeat (first|apply Kd.V_alloc|apply Kd.V_drewN|apply Kd.V_drew));exact HO422.out) hb)
   have n1_:=Aside0.mk (Kd.V_below (by (with_reducible repeat (first|apply Kd.V_alloc|apply Kd.V_drewN|apply Kd.V_drew));exact HO425.out) hb)
   have n2_:=Aside0.mk (Kd.V_below (by (with_reducible repeat (first|apply Kd.V_alloc|apply Kd.V_drewN|apply Kd.V_drew));exact HO428.out) hb)
   have n3_:=Aside0.mk (Kd.V_below (by (with_reducible repeat (first|apply Kd.V_alloc|apply Kd.V_drewN|apply Kd.V_drew));exact HO431.out) hb)
   have n4_:=Aside0.mk (Kd.R_below (by (with_reducible repeat (first|apply Kd.R_alloc|apply Kd.R_drewN|apply Kd.R_drew));exact HO437.out) hb)
   have n5_:=Aside0.mk (Kd.R_below (by (with_reducible repeat (first|apply Kd.R_alloc|apply Kd.R_drewN|apply Kd.R_drew));exact HO441.out) hb)
   have n6_:=Aside0.mk (blk_below (g:=gb433) (o:=.cells #[.slice Ao17 t426.length co17] 38 (0,0)) (by (with_reducible repeat (first|refine blk_drewN ?_ _|refine blk_drew ?_|refine blk_alloc ?_ _));exact BK433.out) hb)
   have n7_:=Aside0.mk (blk_below (g:=gb434) (o:=.cells #[.slice Ao20 t429.length co20] 38 (0,0)) (by (with_reducible repeat (first|refine blk_drewN ?_ _|refine blk_drew ?_|refine blk_alloc ?_ _));exact BK434.out) hb)
   have n8_:=Aside0.mk (below_step (by repeat (first|(with_reducible first|exact HB.out|apply below_alloc|apply pw_below_drewN|apply below_drew1|refine below_set ?_ GE433.out|refine below_set ?_ GE434.out)|exact HB.out)) hb)
   clear HO422
   clear HO425
   clear HO428
   clear HO431
   clear HO437
   clear HO441
   clear BK433
   clear BK434
   clear HB
   have HO422:=n0_
   have HO425:=n1_
   have HO428:=n2_
   have HO431:=n3_
   have HO437:=n4_
   have HO441:=n5_
   have BK433:=n6_
   have BK434:=n7_
   have HB:=n8_
   clear n0_ n1_ n2_ n3_ n4_ n5_ n6_ n7_ n8_
   (try clear hb)
   (try clear hb2)
   (try clear hk)
   (try clear hi)
   refine hK.out _ _ ⟨(blk_cell BK433.out 0).trans rfl,(blk_cell BK434.out 0).trans rfl⟩ (fun hHeld => ?_)
   clear hK K
   refine norm_ (a':=?_) ?_ ?_
   rotate_left
   ·show Act.put _ (some 21) _ = _
    simp only [Act.put,List.setIfInBounds_toArray,List.set_cons_zero,List.set_cons_succ,i64_w,i32_w]
    rfl
   refine pure_ (i:=11) (N:=some 22) (v:=?_) (a':=?_) #[true,true,true,true,true,true,true,true,true,true,true,true,false] rfl rfl (any_of HT_.out (by kernel_rfl)) (fun _ _ _ h => h) (Or.inl ⟨by rfl,?_⟩) ?_ ?_
   rotate_left
   ·intro w'
    go_simp
    with_reducible rfl
   rotate_left
   ·simp only [Act.put,List.setIfInBounds_toArray,List.set_cons_zero,List.set_cons_succ,i64_w,i32_w]
    rfl
   refine pure_ (i:=12) (N:=some 0) (v:=?_) (a':=?_) #[true,true,true,true,true,true,true,true,true,true,true,true,true] rfl rfl (any_of HT_.out (by kernel_rfl)) (fun _ _ _ h => h) (Or.inl ⟨by rfl,?_⟩) ?_ ?_
   rotate_left
   ·intro w'
    go_simp
    with_reducible rfl
   rotate_left
   ·simp only [Act.put,List.setIfInBounds_toArray,List.set_cons_zero,List.set_cons_succ,i64_w,i32_w]
    rfl
   refine done_ (done_of HT_.out (by kernel_rfl)) ?_
   try go_wp2
   (first|go_ret|(refine ⟨_,results_tmp rfl _ _ _,?_⟩))
   exact ⟨by first|rfl|(simp [errW_none,errW_some] <;> rfl)|(simp [*,errW_none,errW_some] <;> rfl),by repeat (first|(with_reducible first|exact HB.out|apply below_alloc|apply pw_below_drewN|apply below_drew1|refine below_set ?_ GE433.out|refine below_set ?_ GE434.out)|exact HB.out)⟩
  ·replace c7:=Bool.eq_false_iff.mpr c7
   subst c7
   have H1 : (some false) = some r:=by rw [if_neg (show ¬ (false = true) by decide)] at H;exact H
   clear H
   have H:=H1
   clear H1
   obtain rfl:=Option.some.inj H
   go_enter Try.func34,Try.ntmps34
   try go_wp2_with (first|((with_reducible refine gate_callee (f:=54) rfl ?_);refine goesL_ (some 5) rfl rfl Try.func54 (by kernel_rfl) rfl #[.int .u64 7] rfl (by (try simp only [List.map_toArray,List.map_cons,List.map_nil]);first|done|rfl|(simp only [List.length_drop,List.length_take];rfl)) ?_;(with_reducible refine (nat_New.calls k 7 t420 _ A1.out).mono ?_);rintro e w30 ⟨v421,rfl,ho0,hb⟩;refine ⟨_,rfl,?_⟩;have n0_:=Aside0.mk (Kd.V_lower (Kd.V_mono (ok':=fun k_ => True) ho0 (fun k_ hk_ => trivial)) (below_size (by repeat (first|(with_reducible first|exact HB.out|apply below_alloc|apply pw_below_drewN|apply below_drew1)|exact HB.out))));have n1_:=Aside0.mk (below_step (by repeat (first|(with_reducible first|exact HB.out|apply below_alloc|apply pw_below_drewN|apply below_drew1)|exact HB.out)) hb);clear HB;have HO422:=n0_;have HB:=n1_;clear n0_ n1_;(try clear hb);(try clear hb2);(try clear hk);(try clear hi);(try clear ho0))|((with_reducible refine gate_callee (f:=54) rfl ?_);refine goesL_ (some 6) rfl rfl Try.func54 (by kernel_rfl) rfl #[.int .u64 2] rfl (by (try simp only [List.map_toArray,List.map_cons,List.map_nil]);first|done|rfl|(simp only [List.length_drop,List.length_take];rfl)) ?_;(with_reducible refine (nat_New.calls k 2 t423 _ A2.out).mono ?_);rintro e w31 ⟨v424,rfl,ho0,hb⟩;refine ⟨_,rfl,?_⟩;have n0_:=Aside0.mk (Kd.V_below (by (with_reducible repeat (first|apply Kd.V_alloc|apply Kd.V_drewN|apply Kd.V_drew));exact HO422.out) hb);have n1_:=Aside0.mk (Kd.V_lower (Kd.V_mono (ok':=fun k_ => True) ho0 (fun k_ hk_ => trivial)) (below_size (by repeat (first|(with_reducible first|exact HB.out|apply below_alloc|apply pw_below_drewN|apply below_drew1)|exact HB.out))));have n2_:=Aside0.mk (below_step (by repeat (first|(with_reducible first|exact HB.out|apply below_alloc|apply pw_below_drewN|apply below_drew1)|exact HB.out)) hb);clear HO422;clear HB;have HO422:=n0_;have HO425:=n1_;have HB:=n2_;clear n0_ n1_ n2_;(try clear hb);(try clear hb2);(try clear hk);(try clear hi);(try clear ho0);obtain ⟨Ao32,co32,eo32⟩:=Kd.V_slice HO422.out;subst eo32;obtain ⟨Ao33,co33,eo33⟩:=Kd.V_slice HO425.out;subst eo33)|((with_reducible refine gate_callee (f:=53) rfl ?_);refine goesL_ (some 7) rfl rfl Try.func53 (by kernel_rfl) rfl #[.agg #[.slice Ao32 t420.length co32],.agg #[.slice Ao33 t423.length co33]] rfl (by (try simp only [List.map_toArray,List.map_cons,List.map_nil]);first|done|rfl|(simp only [List.length_drop,List.length_take];rfl)) ?_;(with_reducible refine (nat_Nat_Div.calls k (fun k_ => True) _ _ t420 _ _ t423 t426 t429 t432 _ ?side1 ?side2 ?side3 A3.out).mono ?_);(case side1 => exact HO422.out);(case side2 => repeat (first|exact (Kd.V_reads' HO425.out).2.2|(with_reducible refine Kd.C_alloc ?_ _)|(with_reducible refine Kd.C_drewN ?_ _)|(with_reducible refine Kd.C_drew ?_)));(case side3 => exact (Kd.V_reads' HO425.out).2.1);rintro e w34 ⟨v427,v430,rfl,ho0,ho1,hb⟩;refine ⟨_,rfl,?_⟩;have n0_:=Aside0.mk (Kd.V_below (by (with_reducible repeat (first|apply Kd.V_alloc|apply Kd.V_drewN|apply Kd.V_drew));exact HO422.out) hb);have n1_:=Aside0.mk (Kd.V_below (by (with_reducible repeat (first|apply Kd.V_alloc|apply Kd.V_drewN|apply Kd.V_drew));exact HO425.out) hb);have n2_:=Aside0.mk (Kd.V_lower (Kd.V_mono (ok':=fun k_ => True) ho0 (fun k_ hk_ => trivial)) (below_size (by repeat (first|(with_reducible first|exact HB.out|apply below_alloc|apply pw_below_drewN|apply below_drew1)|exact HB.out))));have n3_:=Aside0.mk (Kd.V_lower (Kd.V_mono (ok':=fun k_ => True) ho1 (fun k_ hk_ => trivial)) (below_size (by repeat (first|(with_reducible first|exact HB.out|apply below_alloc|apply pw_below_drewN|apply below_drew1)|exact HB.out))));have n4_:=Aside0.mk (below_step (by repeat (first|(with_reducible first|exact HB.out|apply below_alloc|apply pw_below_drewN|apply below_drew1)|exact HB.out)) hb);clear HO422;clear HO425;clear HB;have HO422:=n0_;have HO425:=n1_;have HO428:=n2_;have HO431:=n3_;have HB:=n4_;clear n0_ n1_ n2_ n3_ n4_;(try clear hb);(try clear hb2);(try clear hk);(try clear hi);(try clear ho0);(try clear ho1))|((with_reducible refine gate_dst (N:=1) rfl ?_);refine box_event ?hg (N:=1) ?hd (cs:=#[.slice none 0 0]) (t:=38) ?hr ?_;(case hd => rfl);(case hg => rfl);(case hr => first|(go_simp;done)|(go_simp;rfl));intro gb433 hg w35 hbox hb;have n0_:=Aside0.mk (Kd.V_below (Kd.V_elderB (by (with_reducible repeat (first|apply Kd.V_alloc|apply Kd.V_drewN|apply Kd.V_drew));exact HO422.out) gb433 (Nat.le_of_eq hg.symm)) hb);have n1_:=Aside0.mk (Kd.V_below (Kd.V_elderB (by (with_reducible repeat (first|apply Kd.V_alloc|apply Kd.V_drewN|apply Kd.V_drew));exact HO425.out) gb433 (Nat.le_of_eq hg.symm)) hb);have n2_:=Aside0.mk (Kd.V_below (Kd.V_elderB (by (with_reducible repeat (first|apply Kd.V_alloc|apply Kd.V_drewN|apply Kd.V_drew));exact HO428.out) gb433 (Nat.le_of_eq hg.symm)) hb);have n3_:=Aside0.mk (Kd.V_below (Kd.V_elderB (by (with_reducible repeat (first|apply Kd.V_alloc|apply Kd.V_drewN|apply Kd.V_drew));exact HO431.out) gb433 (Nat.le_of_eq hg.symm)) hb);have n4_:=Aside0.mk (below_step (by repeat (first|(with_reducible first|exact HB.out|apply below_alloc|apply pw_below_drewN|apply below_drew1)|exact HB.out)) hb);have n5_:=Aside0.mk (hbox);have n6_:=Aside0.mk ((by rw [hg];exact (below_size (by repeat (first|(with_reducible first|exact HB.out|apply below_alloc|apply pw_below_drewN|apply below_drew1)|exact HB.out))) : w.heap.size ≤ gb433));have n7_:=Aside0.mk ((by rw [hg];exact (below_size (by repeat (first|(with_reducible first|exact HB.out|apply below_alloc|apply pw_below_drewN|apply below_drew1)|exact HB.out))) : w.heap.size ≤ gb433));clear HO422;clear HO425;clear HO428;clear HO431;clear HB;have HO422:=n0_;have HO425:=n1_;have HO428:=n2_;have HO431:=n3_;have HB:=n4_;have BK433:=n5_;have GW433:=n6_;have GE433:=n7_;clear n0_ n1_ n2_ n3_ n4_ n5_ n6_ n7_;clear hb hbox hg)|((with_reducible refine gate_dst (N:=2) rfl ?_);refine box_event ?hg (N:=2) ?hd (cs:=#[.slice none 0 0]) (t:=38) ?hr ?_;(case hd => rfl);(case hg => rfl);(case hr => first|(go_simp;done)|(go_simp;rfl));intro gb434 hg w36 hbox hb;have n0_:=Aside0.mk (Kd.V_below (Kd.V_elderB (by (with_reducible repeat (first|apply Kd.V_alloc|apply Kd.V_drewN|apply Kd.V_drew));exact HO422.out) gb434 (Nat.le_of_eq hg.symm)) hb);have n1_:=Aside0.mk (Kd.V_below (Kd.V_elderB (by (with_reducible repeat (first|apply Kd.V_alloc|apply Kd.V_drewN|apply Kd.V_drew));exact HO425.out) gb434 (Nat.le_of_eq hg.symm)) hb);have n2_:=Aside0.mk (Kd.V_below (Kd.V_elderB (by (with_reducible repeat (first|apply Kd.V_alloc|apply Kd.V_drewN|apply Kd.V_drew));exact HO428.out) gb434 (Nat.le_of_eq hg.symm)) hb);have n3_:=Aside0.mk (Kd.V_below (Kd.V_elderB (by (with_reducible repeat (first|apply Kd.V_alloc|apply Kd.V_drewN|apply Kd.V_drew));exact HO431.out) gb434 (Nat.le_of_eq hg.symm)) hb);have n4_:=Aside0.mk (blk_below (g:=gb433) (o:=.cells #[.slice none 0 0] 38 (0,0)) (by (with_reducible repeat (first|refine blk_drewN ?_ _|refine blk_drew ?_|refine blk_alloc ?_ _));exact BK433.out) hb);have n5_:=Aside0.mk (below_step (by repeat (first|(with_reducible first|exact HB.out|apply below_alloc|apply pw_below_drewN|apply below_drew1|refine below_set ?_ GE433.out)|exact HB.out)) hb);have n6_:=Aside0.mk (hbox);have n7_:=Aside0.mk ((by rw [hg];exact (below_size (by repeat (first|(with_reducible first|exact HB.out|apply below_alloc|apply pw_below_drewN|apply below_drew1|refine below_set ?_ GE433.out)|exact HB.out))) : w.heap.size ≤ gb434));have n8_:=Aside0.mk ((by rw [hg];exact (below_size (by repeat (first|(with_reducible first|exact HB.out|apply below_alloc|apply pw_below_drewN|apply below_drew1|refine below_set ?_ GE433.out)|exact HB.out))) : w.heap.size ≤ gb434));have n9_:=Aside0.mk ((by rw [hg];exact Nat.ne_of_lt (blk_lt (g:=gb433) (o:=.cells #[.slice none 0 0] 38 (0,0)) (by (with_reducible repeat (first|refine blk_drewN ?_ _|refine blk_drew ?_|refine blk_alloc ?_ _));exact BK433.out)) : gb433 ≠ gb434));have n10_:=Aside0.mk ((by rw [hg];exact Nat.ne_of_gt (blk_lt (g:=gb433) (o:=.cells #[.slice none 0 0] 38 (0,0)) (by (with_reducible repeat (first|refine blk_drewN ?_ _|refine blk_drew ?_|refine blk_alloc ?_ _));exact BK433.out)) : gb434 ≠ gb433));clear HO422;clear HO425;clear HO428;clear HO431;clear BK433;clear HB;have HO422:=n0_;have HO425:=n1_;have HO428:=n2_;have HO431:=n3_;have BK433:=n4_;have HB:=n5_;have BK434:=n6_;have GW434:=n7_;have GE434:=n8_;have NB433_434:=n9_;have NB434_433:=n10_;clear n0_ n1_ n2_ n3_ n4_ n5_ n6_ n7_ n8_ n9_ n10_;clear hb hbox hg;obtain ⟨Ao37,co37,eo37⟩:=Kd.V_slice HO428.out;subst eo37;have hnb38:=NB433_434.out;have hnc38:=NB434_433.out;have hcz39_0 : w36.cell? ⟨gb433,0,none⟩ = some (.slice none 0 0):=(blk_cell BK433.out 0).trans rfl;have hfz39_0:=blk_frozen BK433.out 0;obtain ⟨Ao40,co40,eo40⟩:=Kd.V_slice HO431.out;subst eo40;have hcz41_0 : w36.cell? ⟨gb434,0,none⟩ = some (.slice none 0 0):=(blk_cell BK434.out 0).trans rfl;have hfz41_0:=blk_frozen BK434.out 0))
   have n0_ : Aside0 (Kd.V (Kd.int .u32) 23 ((w36.setCell ⟨gb433,0,none⟩ (.slice Ao37 t426.length co37)).setCell ⟨gb434,0,none⟩ (.slice Ao40 t429.length co40)) w.heap.size (fun k_ => k_ ≠ gb433 ∧ k_ ≠ gb434) (.slice Ao32 t420.length co32) t420):=⟨by (with_reducible repeat (first|apply Kd.V_alloc|apply Kd.V_drewN|apply Kd.V_drew));exact Kd.V_mono (Kd.V_far (p:=⟨gb434,0,none⟩) (Kd.V_far (p:=⟨gb433,0,none⟩) (Kd.V_mono (Kd.V_mono HO422.out (fun k_ hk => (⟨hk,hk.1.2⟩ : _ ∧ k_ ≠ gb433))) (fun k_ hk => (⟨hk,hk.1.2⟩ : _ ∧ k_ ≠ gb434))) (fun _ hk => hk.1.2) (.slice Ao37 t426.length co37)) (fun _ hk => hk.2) (.slice Ao40 t429.length co40)) (fun _ hk => ⟨hk.1.1.1.2,hk.1.1.2⟩)⟩
   have n1_ : Aside0 (Kd.V (Kd.int .u32) 23 ((w36.setCell ⟨gb433,0,none⟩ (.slice Ao37 t426.length co37)).setCell ⟨gb434,0,none⟩ (.slice Ao40 t429.length co40)) w.heap.size (fun k_ => k_ ≠ gb433 ∧ k_ ≠ gb434) (.slice Ao33 t423.length co33) t423):=⟨by (with_reducible repeat (first|apply Kd.V_alloc|apply Kd.V_drewN|apply Kd.V_drew));exact Kd.V_mono (Kd.V_far (p:=⟨gb434,0,none⟩) (Kd.V_far (p:=⟨gb433,0,none⟩) (Kd.V_mono (Kd.V_mono HO425.out (fun k_ hk => (⟨hk,hk.1.2⟩ : _ ∧ k_ ≠ gb433))) (fun k_ hk => (⟨hk,hk.1.2⟩ : _ ∧ k_ ≠ gb434))) (fun _ hk => hk.1.2) (.slice Ao37 t426.length co37)) (fun _ hk => hk.2) (.slice Ao40 t429.length co40)) (fun _ hk => ⟨hk.1.1.1.2,hk.1.1.2⟩)⟩
   have n2_ : Aside0 (Kd.V (Kd.int .u32) 23 ((w36.setCell ⟨gb433,0,none⟩ (.slice Ao37 t426.length co37)).setCell ⟨gb434,0,none⟩ (.slice Ao40 t429.length co40)) w.heap.size (fun k_ => k_ ≠ gb433 ∧ k_ ≠ gb434) (.slice Ao37 t426.length co37) t426):=⟨by (with_reducible repeat (first|apply Kd.V_alloc|apply Kd.V_drewN|apply Kd.V_drew));exact Kd.V_mono (Kd.V_far (p:=⟨gb434,0,none⟩) (Kd.V_far (p:=⟨gb433,0,none⟩) (Kd.V_mono (Kd.V_mono HO428.out (fun k_ hk => (⟨hk,hk.1.2⟩ : _ ∧ k_ ≠ gb433))) (fun k_ hk => (⟨hk,hk.1.2⟩ : _ ∧ k_ ≠ gb434))) (fun _ hk => hk.1.2) (.slice Ao37 t426.length co37)) (fun _ hk => hk.2) (.slice Ao40 t429.length co40)) (fun _ hk => ⟨hk.1.1.1.2,hk.1.1.2⟩)⟩
   have n3_ : Aside0 (Kd.V (Kd.int .u32) 23 ((w36.setCell ⟨gb433,0,none⟩ (.slice Ao37 t426.length co37)).setCell ⟨gb434,0,none⟩ (.slice Ao40 t429.length co40)) w.heap.size (fun k_ => k_ ≠ gb433 ∧ k_ ≠ gb434) (.slice Ao40 t429.length co40) t429):=⟨by (with_reducible repeat (first|apply Kd.V_alloc|apply Kd.V_drewN|apply Kd.V_drew));exact Kd.V_mono (Kd.V_far (p:=⟨gb434,0,none⟩) (Kd.V_far (p:=⟨gb433,0,none⟩) (Kd.V_mono (Kd.V_mono HO431.out (fun k_ hk => (⟨hk,hk.1.2⟩ : _ ∧ k_ ≠ gb433))) (fun k_ hk => (⟨hk,hk.1.2⟩ : _ ∧ k_ ≠ gb434))) (fun _ hk => hk.1.2) (.slice Ao37 t426.length co37)) (fun _ hk => hk.2) (.slice Ao40 t429.length co40)) (fun _ hk => ⟨hk.1.1.1.2,hk.1.1.2⟩)⟩
   have n4_ : Aside0 (((w36.setCell ⟨gb433,0,none⟩ (.slice Ao37 t426.length co37)).setCell ⟨gb434,0,none⟩ (.slice Ao40 t429.length co40)).heap[gb433]? = some (.cells #[.slice Ao37 t426.length co37] 38 (0,0))):=⟨by (with_reducible repeat (first|refine blk_drewN ?_ _|refine blk_drew ?_|refine blk_alloc ?_ _));refine blk_far ?_ NB433_434.out _;(with_reducible repeat (first|refine blk_drewN ?_ _|refine blk_drew ?_|refine blk_alloc ?_ _));refine blk_put (cs:=#[.slice none 0 0]) ?_ 0 _ rfl;(with_reducible repeat (first|refine blk_drewN ?_ _|refine blk_drew ?_|refine blk_alloc ?_ _));exact BK433.out⟩
   have n5_ : Aside0 (((w36.setCell ⟨gb433,0,none⟩ (.slice Ao37 t426.length co37)).setCell ⟨gb434,0,none⟩ (.slice Ao40 t429.length co40)).heap[gb434]? = some (.cells #[.slice Ao40 t429.length co40] 38 (0,0))):=⟨by (with_reducible repeat (first|refine blk_drewN ?_ _|refine blk_drew ?_|refine blk_alloc ?_ _));refine blk_put (cs:=#[.slice none 0 0]) ?_ 0 _ rfl;(with_reducible repeat (first|refine blk_drewN ?_ _|refine blk_drew ?_|refine blk_alloc ?_ _));refine blk_far ?_ NB434_433.out _;(with_reducible repeat (first|refine blk_drewN ?_ _|refine blk_drew ?_|refine blk_alloc ?_ _));exact BK434.out⟩
   have n6_ : Aside0 (Below w.heap.size w ((w36.setCell ⟨gb433,0,none⟩ (.slice Ao37 t426.length co37)).setCell ⟨gb434,0,none⟩ (.slice Ao40 t429.length co40))):=⟨by repeat (first|(with_reducible first|exact HB.out|apply below_alloc|apply pw_below_drewN|apply below_drew1|refine below_set ?_ GE433.out|refine below_set ?_ GE434.out)|exact HB.out)⟩
   (try clear HO422)
   (try clear HO425)
   (try clear HO428)
   (try clear HO431)
   (try clear BK433)
   (try clear BK434)
   (try clear HB)
   generalize ((w36.setCell ⟨gb433,0,none⟩ (.slice Ao37 t426.length co37)).setCell ⟨gb434,0,none⟩ (.slice Ao40 t429.length co40)) = w42 at n0_ n1_ n2_ n3_ n4_ n5_ n6_ ⊢
   have HO422:=n0_
   have HO425:=n1_
   have HO428:=n2_
   have HO431:=n3_
   have BK433:=n4_
   have BK434:=n5_
   have HB:=n6_
   clear n0_ n1_ n2_ n3_ n4_ n5_ n6_
   have n0_:=Aside0.mk (Kd.V_drew HO422.out)
   have n1_:=Aside0.mk (Kd.V_drew HO425.out)
   have n2_:=Aside0.mk (Kd.V_drew HO428.out)
   have n3_:=Aside0.mk (Kd.V_drew HO431.out)
   have n4_:=Aside0.mk (blk_drew BK433.out)
   have n5_:=Aside0.mk (blk_drew BK434.out)
   have n6_:=Aside0.mk (below_drew1 HB.out)
   clear HO422
   clear HO425
   clear HO428
   clear HO431
   clear BK433
   clear BK434
   clear HB
   have HO422:=n0_
   have HO425:=n1_
   have HO428:=n2_
   have HO431:=n3_
   have BK433:=n4_
   have BK434:=n5_
   have HB:=n6_
   clear n0_ n1_ n2_ n3_ n4_ n5_ n6_
   refine start_ (n:=13) (S:=fun w' => w'.cell? ⟨gb433,0,none⟩ = some (.slice Ao37 t426.length co37)) (ds:=[]) #[false,false,false,false,false,false,false,false,false,false,false,false,false] (by kernel_rfl) rfl rfl ((blk_cell BK433.out 0).trans rfl) (fun hHeld => ?_);refine with_tabW sacristylaw01_lives.tab2 sacristylaw01_lives.bits2 (fun HT_ HW_ => ?_)
   generalize w42.drew = w43 at HO422 HO425 HO428 HO431 BK433 BK434 HB hHeld ⊢
   refine pure_ (i:=0) (N:=some 11) (v:=?_) (a':=?_) #[true,false,false,false,false,false,false,false,false,false,false,false,false] rfl rfl (any_of HT_.out (by kernel_rfl)) (fun _ _ _ h => h) (Or.inl ⟨by rfl,?_⟩) ?_ ?_
   rotate_left
   ·intro w'
    go_simp
    with_reducible rfl
   rotate_left
   ·simp only [Act.put,List.setIfInBounds_toArray,List.set_cons_zero,List.set_cons_succ,i64_w,i32_w]
    rfl
   refine pure_ (i:=1) (N:=some 12) (v:=?_) (a':=?_) #[true,true,false,false,false,false,false,false,false,false,false,false,false] rfl rfl (any_of HT_.out (by kernel_rfl)) (fun _ _ _ h => h) (Or.inl ⟨by rfl,?_⟩) ?_ ?_
   rotate_left
   ·intro w'
    go_simp
    with_reducible rfl
   rotate_left
   ·simp only [Act.put,List.setIfInBounds_toArray,List.set_cons_zero,List.set_cons_succ,i64_w,i32_w]
    rfl
   refine pure_ (i:=2) (N:=some 13) (v:=?_) (a':=?_) #[true,true,true,false,false,false,false,false,false,false,false,false,false] rfl rfl (any_of HT_.out (by kernel_rfl)) (fun _ _ _ h => h) (Or.inl ⟨by rfl,?_⟩) ?_ ?_
   rotate_left
   ·intro w'
    go_simp
    with_reducible rfl
   rotate_left
   ·simp only [Act.put,List.setIfInBounds_toArray,List.set_cons_zero,List.set_cons_succ,i64_w,i32_w]
    rfl
   refine take_ (i:=3) (N:=some 14) (v:=?_) (a':=?_) #[true,true,true,true,false,false,false,false,false,false,false,false,false] rfl rfl (take_ofW HT_.out HW_.out (by kernel_rfl)) (fun _ _ _ h => h) (Or.inl ⟨by rfl,?_⟩) hHeld ?_ ?_
   rotate_left
   ·intro w' s0
    go_simp
    with_reducible rfl
   rotate_left
   ·simp only [Act.put,List.setIfInBounds_toArray,List.set_cons_zero,List.set_cons_succ,i64_w,i32_w]
    rfl
   refine one_ (i:=4) (N:=some 15) #[true,true,true,true,true,false,false,false,false,false,false,false,false] rfl rfl (one_of HT_.out (by kernel_rfl)) (by decide) (fun K hK => ?_)
   refine goes_ Try.func56 (by kernel_rfl) rfl #[.int .u64 3] (by rfl) rfl rfl (by (try simp only [List.map_toArray,List.map_cons,List.map_nil]);first|done|rfl|(simp only [List.length_drop,List.length_take];rfl)) ?_
   with_reducible refine (sacristyref01_Small.calls k 3 t435 _ A5.out).mono ?_
   rintro e w44 ⟨v436,rfl,ho0,hb⟩
   refine ⟨_,rfl,?_⟩
   have n0_:=Aside0.mk (Kd.V_elder' (by (with_reducible repeat (first|apply Kd.V_alloc|apply Kd.V_drewN|apply Kd.V_drew));exact HO422.out) (Kd.R_base ho0) hb)
   have n1_:=Aside0.mk (Kd.V_elder' (by (with_reducible repeat (first|apply Kd.V_alloc|apply Kd.V_drewN|apply Kd.V_drew));exact HO425.out) (Kd.R_base ho0) hb)
   have n2_:=Aside0.mk (Kd.V_elder' (by (with_reducible repeat (first|apply Kd.V_alloc|apply Kd.V_drewN|apply Kd.V_drew));exact HO428.out) (Kd.R_base ho0) hb)
   have n3_:=Aside0.mk (Kd.V_elder' (by (with_reducible repeat (first|apply Kd.V_alloc|apply Kd.V_drewN|apply Kd.V_drew));exact HO431.out) (Kd.R_base ho0) hb)
   have n4_:=Aside0.mk (Kd.R_lower ho0 (below_size (by repeat (first|(with_reducible first|exact HB.out|apply below_alloc|apply pw_below_drewN|apply below_drew1|refine below_set ?_ GE433.out|refine below_set ?_ GE434.out)|exact HB.out))))
   have n5_:=Aside0.mk (blk_below (g:=gb433) (o:=.cells #[.slice Ao37 t426.length co37] 38 (0,0)) (by (with_reducible repeat (first|refine blk_drewN ?_ _|refine blk_drew ?_|refine blk_alloc ?_ _));exact BK433.out) hb)
   have n6_:=Aside0.mk (blk_below (g:=gb434) (o:=.cells #[.slice Ao40 t429.length co40] 38 (0,0)) (by (with_reducible repeat (first|refine blk_drewN ?_ _|refine blk_drew ?_|refine blk_alloc ?_ _));exact BK434.out) hb)
   have n7_:=Aside0.mk (below_step (by repeat (first|(with_reducible first|exact HB.out|apply below_alloc|apply pw_below_drewN|apply below_drew1|refine below_set ?_ GE433.out|refine below_set ?_ GE434.out)|exact HB.out)) hb)
   clear HO422
   clear HO425
   clear HO428
   clear HO431
   clear BK433
   clear BK434
   clear HB
   have HO422:=n0_
   have HO425:=n1_
   have HO428:=n2_
   have HO431:=n3_
   have HO437:=n4_
   have BK433:=n5_
   have BK434:=n6_
   have HB:=n7_
   clear n0_ n1_ n2_ n3_ n4_ n5_ n6_ n7_
   (try clear hb)
   (try clear hb2)
   (try clear hk)
   (try clear hi)
   (try clear ho0)
   obtain ⟨Ao45,co45,eo45⟩:=Kd.R_slice HO437.out
   (first|subst eo45|(injection eo45 with f1_ f2_ f3_;have f4_:=f1_.symm;have f5_:=f3_.symm;clear f1_ f2_ f3_;subst f4_;subst f5_))
   refine hK.out _ _ ((blk_cell BK433.out 0).trans rfl) (fun hHeld => ?_)
   clear hK K
   refine norm_ (a':=?_) ?_ ?_
   rotate_left
   ·show Act.put _ (some 15) _ = _
    simp only [Act.put,List.setIfInBounds_toArray,List.set_cons_zero,List.set_cons_succ,i64_w,i32_w]
    rfl
   refine one_ (i:=5) (N:=some 16) #[true,true,true,true,true,true,false,false,false,false,false,false,false] rfl rfl (one_of HT_.out (by kernel_rfl)) (by decide) (fun K hK => ?_)
   refine goes_ Try.func37 (by kernel_rfl) rfl #[.agg #[.slice Ao37 t426.length co37],.slice Ao45 t435.length co45] (by rfl) rfl rfl (by (try simp only [List.map_toArray,List.map_cons,List.map_nil]);first|done|rfl|(simp only [List.length_drop,List.length_take];rfl)) ?_
   with_reducible refine (sacristylaw01_Same.calls k _ _ t426 _ _ t435 false _ ?side1 ?side2 ?side3 ?side4 A6.out).mono ?_
   (case side1 => repeat (first|exact (Kd.V_reads' HO428.out).2.2|(with_reducible refine Kd.C_alloc ?_ _)|(with_reducible refine Kd.C_drewN ?_ _)|(with_reducible refine Kd.C_drew ?_)))
   (case side2 => exact (Kd.V_reads' HO428.out).2.1)
   (case side3 => repeat (first|exact (Kd.R_reads' HO437.out).2.2|(with_reducible refine Kd.C_alloc ?_ _)|(with_reducible refine Kd.C_drewN ?_ _)|(with_reducible refine Kd.C_drew ?_)))
   (case side4 => exact (Kd.R_reads' HO437.out).2.1)
   rintro e w46 ⟨rfl,hb⟩
   refine ⟨_,rfl,?_⟩
   have n0_:=Aside0.mk (Kd.V_below (by (with_reducible repeat (first|apply Kd.V_alloc|apply Kd.V_drewN|apply Kd.V_drew));exact HO422.out) hb)
   have n1_:=Aside0.mk (Kd.V_below (by (with_reducible repeat (first|apply Kd.V_alloc|apply Kd.V_drewN|apply Kd.V_drew));exact HO425.out) hb)
   have n2_:=Aside0.mk (Kd.V_below (by (with_reducible repeat (first|apply Kd.V_alloc|apply Kd.V_drewN|apply Kd.V_drew));exact HO428.out) hb)
   have n3_:=Aside0.mk (Kd.V_below (by (with_reducible repeat (first|apply Kd.V_alloc|apply Kd.V_drewN|apply Kd.V_drew));exact HO431.out) hb)
   have n4_:=Aside0.mk (Kd.R_below (by (with_reducible repeat (first|apply Kd.R_alloc|apply Kd.R_drewN|apply Kd.R_drew));exact HO437.out) hb)
   have n5_:=Aside0.mk (blk_below (g:=gb433) (o:=.cells #[.slice Ao37 t426.length co37] 38 (0,0)) (by (with_reducible repeat (first|refine blk_drewN ?_ _|refine blk_drew ?_|refine blk_alloc ?_ _));exact BK433.out) hb)
   have n6_:=Aside0.mk (blk_below (g:=gb434) (o:=.cells #[.slice Ao40 t429.length co40] 38 (0,0)) (by (with_reducible repeat (first|refine blk_drewN ?_ _|refine blk_drew ?_|refine blk_alloc ?_ _));exact BK434.out) hb)
   have n7_:=Aside0.mk (below_step (by repeat (first|(with_reducible first|exact HB.out|apply below_alloc|apply pw_below_drewN|apply below_drew1|refine below_set ?_ GE433.out|refine below_set ?_ GE434.out)|exact HB.out)) hb)
   clear HO422
   clear HO425
   clear HO428
   clear HO431
   clear HO437
   clear BK433
   clear BK434
   clear HB
   have HO422:=n0_
   have HO425:=n1_
   have HO428:=n2_
   have HO431:=n3_
   have HO437:=n4_
   have BK433:=n5_
   have BK434:=n6_
   have HB:=n7_
   clear n0_ n1_ n2_ n3_ n4_ n5_ n6_ n7_
   (try clear hb)
   (try clear hb2)
   (try clear hk)
   (try clear hi)
   refine hK.out _ _ ((blk_cell BK433.out 0).trans rfl) (fun hHeld => ?_)
   clear hK K
   refine norm_ (a':=?_) ?_ ?_
   rotate_left
   ·show Act.put _ (some 16) _ = _
    simp only [Act.put,List.setIfInBounds_toArray,List.set_cons_zero,List.set_cons_succ,i64_w,i32_w]
    rfl
   refine pure_ (i:=6) (N:=some 17) (v:=?_) (a':=?_) #[true,true,true,true,true,true,true,false,false,false,false,false,false] rfl rfl (any_of HT_.out (by kernel_rfl)) (fun _ _ _ h => h) (Or.inl ⟨by rfl,?_⟩) ?_ ?_
   rotate_left
   ·intro w'
    go_simp
    with_reducible rfl
   rotate_left
   ·simp only [Act.put,List.setIfInBounds_toArray,List.set_cons_zero,List.set_cons_succ,i64_w,i32_w]
    rfl
   refine pure_ (i:=7) (N:=some 18) (v:=?_) (a':=?_) #[true,true,true,true,true,true,true,true,false,false,false,false,false] rfl rfl (any_of HT_.out (by kernel_rfl)) (fun _ _ _ h => h) (Or.inl ⟨by rfl,?_⟩) ?_ ?_
   rotate_left
   ·intro w'
    go_simp
    with_reducible rfl
   rotate_left
   ·simp only [Act.put,List.setIfInBounds_toArray,List.set_cons_zero,List.set_cons_succ,i64_w,i32_w]
    rfl
   refine pure_ (i:=8) (N:=some 19) (v:=undef) (a':=?_) #[true,true,true,true,true,true,true,true,true,false,false,false,false] rfl rfl (any_of HT_.out (by kernel_rfl)) (fun _ _ _ h => h) (Or.inr ⟨by rfl,rfl⟩) ?_ ?_
   rotate_left
   ·simp only [Act.put,List.setIfInBounds_toArray,List.set_cons_zero,List.set_cons_succ,i64_w,i32_w]
    rfl
   refine pure_ (i:=9) (N:=some 20) (v:=undef) (a':=?_) #[true,true,true,true,true,true,true,true,true,true,false,false,false] rfl rfl (any_of HT_.out (by kernel_rfl)) (fun _ _ _ h => h) (Or.inr ⟨by rfl,rfl⟩) ?_ ?_
   rotate_left
   ·simp only [Act.put,List.setIfInBounds_toArray,List.set_cons_zero,List.set_cons_succ,i64_w,i32_w]
    rfl
   refine pure_ (i:=10) (N:=some 21) (v:=undef) (a':=?_) #[true,true,true,true,true,true,true,true,true,true,true,false,false] rfl rfl (any_of HT_.out (by kernel_rfl)) (fun _ _ _ h => h) (Or.inr ⟨by rfl,rfl⟩) ?_ ?_
   rotate_left
   ·simp only [Act.put,List.setIfInBounds_toArray,List.set_cons_zero,List.set_cons_succ,i64_w,i32_w]
    rfl
   refine pure_ (i:=11) (N:=some 22) (v:=?_) (a':=?_) #[true,true,true,true,true,true,true,true,true,true,true,true,false] rfl rfl (any_of HT_.out (by kernel_rfl)) (fun _ _ _ h => h) (Or.inl ⟨by rfl,?_⟩) ?_ ?_
   rotate_left
   ·intro w'
    go_simp
    with_reducible rfl
   rotate_left
   ·simp only [Act.put,List.setIfInBounds_toArray,List.set_cons_zero,List.set_cons_succ,i64_w,i32_w]
    rfl
   refine pure_ (i:=12) (N:=some 0) (v:=?_) (a':=?_) #[true,true,true,true,true,true,true,true,true,true,true,true,true] rfl rfl (any_of HT_.out (by kernel_rfl)) (fun _ _ _ h => h) (Or.inl ⟨by rfl,?_⟩) ?_ ?_
   rotate_left
   ·intro w'
    go_simp
    with_reducible rfl
   rotate_left
   ·simp only [Act.put,List.setIfInBounds_toArray,List.set_cons_zero,List.set_cons_succ,i64_w,i32_w]
    rfl
   refine done_ (done_of HT_.out (by kernel_rfl)) ?_
   try go_wp2
   (first|go_ret|(refine ⟨_,results_tmp rfl _ _ _,?_⟩))
   exact ⟨by first|rfl|(simp [errW_none,errW_some] <;> rfl)|(simp [*,errW_none,errW_some] <;> rfl),by repeat (first|(with_reducible first|exact HB.out|apply below_alloc|apply pw_below_drewN|apply below_drew1|refine below_set ?_ GE433.out|refine below_set ?_ GE434.out)|exact HB.out)⟩
 ·rw [if_neg c4] at H
  have c4b0 : (t432 == 0) = false:=beq_eq_false_iff_ne.mpr c4
  have c4b1 : (t432 != 0) = true:=bne_iff_ne.mpr c4
  obtain rfl:=Option.some.inj H
  go_enter Try.func34,Try.ntmps34
  try go_wp2_with (first|((with_reducible refine gate_callee (f:=54) rfl ?_);refine goesL_ (some 5) rfl rfl Try.func54 (by kernel_rfl) rfl #[.int .u64 7] rfl (by (try simp only [List.map_toArray,List.map_cons,List.map_nil]);first|done|rfl|(simp only [List.length_drop,List.length_take];rfl)) ?_;(with_reducible refine (nat_New.calls k 7 t420 _ A1.out).mono ?_);rintro e w47 ⟨v421,rfl,ho0,hb⟩;refine ⟨_,rfl,?_⟩;have n0_:=Aside0.mk (Kd.V_lower (Kd.V_mono (ok':=fun k_ => True) ho0 (fun k_ hk_ => trivial)) (below_size (by repeat (first|(with_reducible first|exact HB.out|apply below_alloc|apply pw_below_drewN|apply below_drew1)|exact HB.out))));have n1_:=Aside0.mk (below_step (by repeat (first|(with_reducible first|exact HB.out|apply below_alloc|apply pw_below_drewN|apply below_drew1)|exact HB.out)) hb);clear HB;have HO422:=n0_;have HB:=n1_;clear n0_ n1_;(try clear hb);(try clear hb2);(try clear hk);(try clear hi);(try clear ho0))|((with_reducible refine gate_callee (f:=54) rfl ?_);refine goesL_ (some 6) rfl rfl Try.func54 (by kernel_rfl) rfl #[.int .u64 2] rfl (by (try simp only [List.map_toArray,List.map_cons,List.map_nil]);first|done|rfl|(simp only [List.length_drop,List.length_take];rfl)) ?_;(with_reducible refine (nat_New.calls k 2 t423 _ A2.out).mono ?_);rintro e w48 ⟨v424,rfl,ho0,hb⟩;refine ⟨_,rfl,?_⟩;have n0_:=Aside0.mk (Kd.V_below (by (with_reducible repeat (first|apply Kd.V_alloc|apply Kd.V_drewN|apply Kd.V_drew));exact HO422.out) hb);have n1_:=Aside0.mk (Kd.V_lower (Kd.V_mono (ok':=fun k_ => True) ho0 (fun k_ hk_ => trivial)) (below_size (by repeat (first|(with_reducible first|exact HB.out|apply below_alloc|apply pw_below_drewN|apply below_drew1)|exact HB.out))));have n2_:=Aside0.mk (below_step (by repeat (first|(with_reducible first|exact HB.out|apply below_alloc|apply pw_below_drewN|apply below_drew1)|exact HB.out)) hb);clear HO422;clear HB;have HO422:=n0_;have HO425:=n1_;have HB:=n2_;clear n0_ n1_ n2_;(try clear hb);(try clear hb2);(try clear hk);(try clear hi);(try clear ho0);obtain ⟨Ao49,co49,eo49⟩:=Kd.V_slice HO422.out;subst eo49;obtain ⟨Ao50,co50,eo50⟩:=Kd.V_slice HO425.out;subst eo50)|((with_reducible refine gate_callee (f:=53) rfl ?_);refine goesL_ (some 7) rfl rfl Try.func53 (by kernel_rfl) rfl #[.agg #[.slice Ao49 t420.length co49],.agg #[.slice Ao50 t423.length co50]] rfl (by (try simp only [List.map_toArray,List.map_cons,List.map_nil]);first|done|rfl|(simp only [List.length_drop,List.length_take];rfl)) ?_;(with_reducible refine (nat_Nat_Div.calls k (fun k_ => True) _ _ t420 _ _ t423 t426 t429 t432 _ ?side1 ?side2 ?side3 A3.out).mono ?_);(case side1 => exact HO422.out);(case side2 => repeat (first|exact (Kd.V_reads' HO425.out).2.2|(with_reducible refine Kd.C_alloc ?_ _)|(with_reducible refine Kd.C_drewN ?_ _)|(with_reducible refine Kd.C_drew ?_)));(case side3 => exact (Kd.V_reads' HO425.out).2.1);rintro e w51 ⟨v427,v430,rfl,ho0,ho1,hb⟩;refine ⟨_,rfl,?_⟩;have n0_:=Aside0.mk (Kd.V_below (by (with_reducible repeat (first|apply Kd.V_alloc|apply Kd.V_drewN|apply Kd.V_drew));exact HO422.out) hb);have n1_:=Aside0.mk (Kd.V_below (by (with_reducible repeat (first|apply Kd.V_alloc|apply Kd.V_drewN|apply Kd.V_drew));exact HO425.out) hb);have n2_:=Aside0.mk (Kd.V_lower (Kd.V_mono (ok':=fun k_ => True) ho0 (fun k_ hk_ => trivial)) (below_size (by repeat (first|(with_reducible first|exact HB.out|apply below_alloc|apply pw_below_drewN|apply below_drew1)|exact HB.out))));have n3_:=Aside0.mk (Kd.V_lower (Kd.V_mono (ok':=fun k_ => True) ho1 (fun k_ hk_ => trivial)) (below_size (by repeat (first|(with_reducible first|exact HB.out|apply below_alloc|apply pw_below_drewN|apply below_drew1)|exact HB.out))));have n4_:=Aside0.mk (below_step (by repeat (first|(with_reducible first|exact HB.out|apply below_alloc|apply pw_below_drewN|apply below_drew1)|exact HB.out)) hb);clear HO422;clear HO425;clear HB;have HO422:=n0_;have HO425:=n1_;have HO428:=n2_;have HO431:=n3_;have HB:=n4_;clear n0_ n1_ n2_ n3_ n4_;(try clear hb);(try clear hb2);(try clear hk);(try clear hi);(try clear ho0);(try clear ho1))|((with_reducible refine gate_dst (N:=1) rfl ?_);refine box_event ?hg (N:=1) ?hd (cs:=#[.slice none 0 0]) (t:=38) ?hr ?_;(case hd => rfl);(case hg => rfl);(case hr => first|(go_simp;done)|(go_simp;rfl));intro gb433 hg w52 hbox hb;have n0_:=Aside0.mk (Kd.V_below (Kd.V_elderB (by (with_reducible repeat (first|apply Kd.V_alloc|apply Kd.V_drewN|apply Kd.V_drew));exact HO422.out) gb433 (Nat.le_of_eq hg.symm)) hb);have n1_:=Aside0.mk (Kd.V_below (Kd.V_elderB (by (with_reducible repeat (first|apply Kd.V_alloc|apply Kd.V_drewN|apply Kd.V_drew));exact HO425.out) gb433 (Nat.le_of_eq hg.symm)) hb);have n2_:=Aside0.mk (Kd.V_below (Kd.V_elderB (by (with_reducible repeat (first|apply Kd.V_alloc|apply Kd.V_drewN|apply Kd.V_drew));exact HO428.out) gb433 (Nat.le_of_eq hg.symm)) hb);have n3_:=Aside0.mk (Kd.V_below (Kd.V_elderB (by (with_reducible repeat (first|apply Kd.V_alloc|apply Kd.V_drewN|apply Kd.V_drew));exact HO431.out) gb433 (Nat.le_of_eq hg.symm)) hb);have n4_:=Aside0.mk (below_step (by repeat (first|(with_reducible first|exact HB.out|apply below_alloc|apply pw_below_drewN|apply below_drew1)|exact HB.out)) hb);have n5_:=Aside0.mk (hbox);have n6_:=Aside0.mk ((by rw [hg];exact (below_size (by repeat (first|(with_reducible first|exact HB.out|apply below_alloc|apply pw_below_drewN|apply below_drew1)|exact HB.out))) : w.heap.size ≤ gb433));have n7_:=Aside0.mk ((by rw [hg];exact (below_size (by repeat (first|(with_reducible first|exact HB.out|apply below_alloc|apply pw_below_drewN|apply below_drew1)|exact HB.out))) : w.heap.size ≤ gb433));clear HO422;clear HO425;clear HO428;clear HO431;clear HB;have HO422:=n0_;have HO425:=n1_;have HO428:=n2_;have HO431:=n3_;have HB:=n4_;have BK433:=n5_;have GW433:=n6_;have GE433:=n7_;clear n0_ n1_ n2_ n3_ n4_ n5_ n6_ n7_;clear hb hbox hg)|((with_reducible refine gate_dst (N:=2) rfl ?_);refine box_event ?hg (N:=2) ?hd (cs:=#[.slice none 0 0]) (t:=38) ?hr ?_;(case hd => rfl);(case hg => rfl);(case hr => first|(go_simp;done)|(go_simp;rfl));intro gb434 hg w53 hbox hb;have n0_:=Aside0.mk (Kd.V_below (Kd.V_elderB (by (with_reducible repeat (first|apply Kd.V_alloc|apply Kd.V_drewN|apply Kd.V_drew));exact HO422.out) gb434 (Nat.le_of_eq hg.symm)) hb);have n1_:=Aside0.mk (Kd.V_below (Kd.V_elderB (by (with_reducible repeat (first|apply Kd.V_alloc|apply Kd.V_drewN|apply Kd.V_drew));exact HO425.out) gb434 (Nat.le_of_eq hg.symm)) hb);have n2_:=Aside0.mk (Kd.V_below (Kd.V_elderB (by (with_reducible repeat (first|apply Kd.V_alloc|apply Kd.V_drewN|apply Kd.V_drew));exact HO428.out) gb434 (Nat.le_of_eq hg.symm)) hb);have n3_:=Aside0.mk (Kd.V_below (Kd.V_elderB (by (with_reducible repeat (first|apply Kd.V_alloc|apply Kd.V_drewN|apply Kd.V_drew));exact HO431.out) gb434 (Nat.le_of_eq hg.symm)) hb);have n4_:=Aside0.mk (blk_below (g:=gb433) (o:=.cells #[.slice none 0 0] 38 (0,0)) (by (with_reducible repeat (first|refine blk_drewN ?_ _|refine blk_drew ?_|refine blk_alloc ?_ _));exact BK433.out) hb);have n5_:=Aside0.mk (below_step (by repeat (first|(with_reducible first|exact HB.out|apply below_alloc|apply pw_below_drewN|apply below_drew1|refine below_set ?_ GE433.out)|exact HB.out)) hb);have n6_:=Aside0.mk (hbox);have n7_:=Aside0.mk ((by rw [hg];exact (below_size (by repeat (first|(with_reducible first|exact HB.out|apply below_alloc|apply pw_below_drewN|apply below_drew1|refine below_set ?_ GE433.out)|exact HB.out))) : w.heap.size ≤ gb434));have n8_:=Aside0.mk ((by rw [hg];exact (below_size (by repeat (first|(with_reducible first|exact HB.out|apply below_alloc|apply pw_below_drewN|apply below_drew1|refine below_set ?_ GE433.out)|exact HB.out))) : w.heap.size ≤ gb434));have n9_:=Aside0.mk ((by rw [hg];exact Nat.ne_of_lt (blk_lt (g:=gb433) (o:=.cells #[.slice none 0 0] 38 (0,0)) (by (with_reducible repeat (first|refine blk_drewN ?_ _|refine blk_drew ?_|refine blk_alloc ?_ _));exact BK433.out)) : gb433 ≠ gb434));have n10_:=Aside0.mk ((by rw [hg];exact Nat.ne_of_gt (blk_lt (g:=gb433) (o:=.cells #[.slice none 0 0] 38 (0,0)) (by (with_reducible repeat (first|refine blk_drewN ?_ _|refine blk_drew ?_|refine blk_alloc ?_ _));exact BK433.out)) : gb434 ≠ gb433));clear HO422;clear HO425;clear HO428;clear HO431;clear BK433;clear HB;have HO422:=n0_;have HO425:=n1_;have HO428:=n2_;have HO431:=n3_;have BK433:=n4_;have HB:=n5_;have BK434:=n6_;have GW434:=n7_;have GE434:=n8_;have NB433_434:=n9_;have NB434_433:=n10_;clear n0_ n1_ n2_ n3_ n4_ n5_ n6_ n7_ n8_ n9_ n10_;clear hb hbox hg;obtain ⟨Ao54,co54,eo54⟩:=Kd.V_slice HO428.out;subst eo54;have hnb55:=NB433_434.out;have hnc55:=NB434_433.out;have hcz56_0 : w53.cell? ⟨gb433,0,none⟩ = some (.slice none 0 0):=(blk_cell BK433.out 0).trans rfl;have hfz56_0:=blk_frozen BK433.out 0;obtain ⟨Ao57,co57,eo57⟩:=Kd.V_slice HO431.out;subst eo57;have hcz58_0 : w53.cell? ⟨gb434,0,none⟩ = some (.slice none 0 0):=(blk_cell BK434.out 0).trans rfl;have hfz58_0:=blk_frozen BK434.out 0))
  have n0_ : Aside0 (Kd.V (Kd.int .u32) 23 ((w53.setCell ⟨gb433,0,none⟩ (.slice Ao54 t426.length co54)).setCell ⟨gb434,0,none⟩ (.slice Ao57 t429.length co57)) w.heap.size (fun k_ => k_ ≠ gb433 ∧ k_ ≠ gb434) (.slice Ao49 t420.length co49) t420):=⟨by (with_reducible repeat (first|apply Kd.V_alloc|apply Kd.V_drewN|apply Kd.V_drew));exact Kd.V_mono (Kd.V_far (p:=⟨gb434,0,none⟩) (Kd.V_far (p:=⟨gb433,0,none⟩) (Kd.V_mono (Kd.V_mono HO422.out (fun k_ hk => (⟨hk,hk.1.2⟩ : _ ∧ k_ ≠ gb433))) (fun k_ hk => (⟨hk,hk.1.2⟩ : _ ∧ k_ ≠ gb434))) (fun _ hk => hk.1.2) (.slice Ao54 t426.length co54)) (fun _ hk => hk.2) (.slice Ao57 t429.length co57)) (fun _ hk => ⟨hk.1.1.1.2,hk.1.1.2⟩)⟩
  have n1_ : Aside0 (Kd.V (Kd.int .u32) 23 ((w53.setCell ⟨gb433,0,none⟩ (.slice Ao54 t426.length co54)).setCell ⟨gb434,0,none⟩ (.slice Ao57 t429.length co57)) w.heap.size (fun k_ => k_ ≠ gb433 ∧ k_ ≠ gb434) (.slice Ao50 t423.length co50) t423):=⟨by (with_reducible repeat (first|apply Kd.V_alloc|apply Kd.V_drewN|apply Kd.V_drew));exact Kd.V_mono (Kd.V_far (p:=⟨gb434,0,none⟩) (Kd.V_far (p:=⟨gb433,0,none⟩) (Kd.V_mono (Kd.V_mono HO425.out (fun k_ hk => (⟨hk,hk.1.2⟩ : _ ∧ k_ ≠ gb433))) (fun k_ hk => (⟨hk,hk.1.2⟩ : _ ∧ k_ ≠ gb434))) (fun _ hk => hk.1.2) (.slice Ao54 t426.length co54)) (fun _ hk => hk.2) (.slice Ao57 t429.length co57)) (fun _ hk => ⟨hk.1.1.1.2,hk.1.1.2⟩)⟩
  have n2_ : Aside0 (Kd.V (Kd.int .u32) 23 ((w53.setCell ⟨gb433,0,none⟩ (.slice Ao54 t426.length co54)).setCell ⟨gb434,0,none⟩ (.slice Ao57 t429.length co57)) w.heap.size (fun k_ => k_ ≠ gb433 ∧ k_ ≠ gb434) (.slice Ao54 t426.length co54) t426):=⟨by (with_reducible repeat (first|apply Kd.V_alloc|apply Kd.V_drewN|apply Kd.V_drew));exact Kd.V_mono (Kd.V_far (p:=⟨gb434,0,none⟩) (Kd.V_far (p:=⟨gb433,0,none⟩) (Kd.V_mono (Kd.V_mono HO428.out (fun k_ hk => (⟨hk,hk.1.2⟩ : _ ∧ k_ ≠ gb433))) (fun k_ hk => (⟨hk,hk.1.2⟩ : _ ∧ k_ ≠ gb434))) (fun _ hk => hk.1.2) (.slice Ao54 t426.length co54)) (fun _ hk => hk.2) (.slice Ao57 t429.length co57)) (fun _ hk => ⟨hk.1.1.1.2,hk.1.1.2⟩)⟩
  have n3_ : Aside0 (Kd.V (Kd.int .u32) 23 ((w53.setCell ⟨gb433,0,none⟩ (.slice Ao54 t426.length co54)).setCell ⟨gb434,0,none⟩ (.slice Ao57 t429.length co57)) w.heap.size (fun k_ => k_ ≠ gb433 ∧ k_ ≠ gb434) (.slice Ao57 t429.length co57) t429):=⟨by (with_reducible repeat (first|apply Kd.V_alloc|apply Kd.V_drewN|apply Kd.V_drew));exact Kd.V_mono (Kd.V_far (p:=⟨gb434,0,none⟩) (Kd.V_far (p:=⟨gb433,0,none⟩) (Kd.V_mono (Kd.V_mono HO431.out (fun k_ hk => (⟨hk,hk.1.2⟩ : _ ∧ k_ ≠ gb433))) (fun k_ hk => (⟨hk,hk.1.2⟩ : _ ∧ k_ ≠ gb434))) (fun _ hk => hk.1.2) (.slice Ao54 t426.length co54)) (fun _ hk => hk.2) (.slice Ao57 t429.length co57)) (fun _ hk => ⟨hk.1.1.1.2,hk.1.1.2⟩)⟩
  have n4_ : Aside0 (((w53.setCell ⟨gb433,0,none⟩ (.slice Ao54 t426.length co54)).setCell ⟨gb434,0,none⟩ (.slice Ao57 t429.length co57)).heap[gb433]? = some (.cells #[.slice Ao54 t426.length co54] 38 (0,0))):=⟨by (with_reducible repeat (first|refine blk_drewN ?_ _|refine blk_drew ?_|refine blk_alloc ?_ _));refine blk_far ?_ NB433_434.out _;(with_reducible repeat (first|refine blk_drewN ?_ _|refine blk_drew ?_|refine blk_alloc ?_ _));refine blk_put (cs:=#[.slice none 0 0]) ?_ 0 _ rfl;(with_reducible repeat (first|refine blk_drewN ?_ _|refine blk_drew ?_|refine blk_alloc ?_ _));exact BK433.out⟩
  have n5_ : Aside0 (((w53.setCell ⟨gb433,0,none⟩ (.slice Ao54 t426.length co54)).setCell ⟨gb434,0,none⟩ (.slice Ao57 t429.length co57)).heap[gb434]? = some (.cells #[.slice Ao57 t429.length co57] 38 (0,0))):=⟨by (with_reducible repeat (first|refine blk_drewN ?_ _|refine blk_drew ?_|refine blk_alloc ?_ _));refine blk_put (cs:=#[.slice none 0 0]) ?_ 0 _ rfl;(with_reducible repeat (first|refine blk_drewN ?_ _|refine blk_drew ?_|refine blk_alloc ?_ _));refine blk_far ?_ NB434_433.out _;(with_reducible repeat (first|refine blk_drewN ?_ _|refine blk_drew ?_|refine blk_alloc ?_ _));exact BK434.out⟩
  have n6_ : Aside0 (Below w.heap.size w ((w53.setCell ⟨gb433,0,none⟩ (.slice Ao54 t426.length co54)).setCell ⟨gb434,0,none⟩ (.slice Ao57 t429.length co57))):=⟨by repeat (first|(with_reducible first|exact HB.out|apply below_alloc|apply pw_below_drewN|apply below_drew1|refine below_set ?_ GE433.out|refine below_set ?_ GE434.out)|exact HB.out)⟩
  (try clear HO422)
  (try clear HO425)
  (try clear HO428)
  (try clear HO431)
  (try clear BK433)
  (try clear BK434)
  (try clear HB)
  generalize ((w53.setCell ⟨gb433,0,none⟩ (.slice Ao54 t426.length co54)).setCell ⟨gb434,0,none⟩ (.slice Ao57 t429.length co57)) = w59 at n0_ n1_ n2_ n3_ n4_ n5_ n6_ ⊢
  have HO422:=n0_
  have HO425:=n1_
  have HO428:=n2_
  have HO431:=n3_
  have BK433:=n4_
  have BK434:=n5_
  have HB:=n6_
  clear n0_ n1_ n2_ n3_ n4_ n5_ n6_
  have n0_:=Aside0.mk (Kd.V_drew HO422.out)
  have n1_:=Aside0.mk (Kd.V_drew HO425.out)
  have n2_:=Aside0.mk (Kd.V_drew HO428.out)
  have n3_:=Aside0.mk (Kd.V_drew HO431.out)
  have n4_:=Aside0.mk (blk_drew BK433.out)
  have n5_:=Aside0.mk (blk_drew BK434.out)
  have n6_:=Aside0.mk (below_drew1 HB.out)
  clear HO422
  clear HO425
  clear HO428
  clear HO431
  clear BK433
  clear BK434
  clear HB
  have HO422:=n0_
  have HO425:=n1_
  have HO428:=n2_
  have HO431:=n3_
  have BK433:=n4_
  have BK434:=n5_
  have HB:=n6_
  clear n0_ n1_ n2_ n3_ n4_ n5_ n6_
  refine start_ (n:=13) (S:=fun w' => True) (ds:=[]) #[false,false,false,false,false,false,false,false,false,false,false,false,false] (by kernel_rfl) rfl rfl trivial (fun hHeld => ?_);refine with_tabW sacristylaw01_lives.tab2 sacristylaw01_lives.bits2 (fun HT_ HW_ => ?_)
  generalize w59.drew = w60 at HO422 HO425 HO428 HO431 BK433 BK434 HB hHeld ⊢
  refine pure_ (i:=0) (N:=some 11) (v:=?_) (a':=?_) #[true,false,false,false,false,false,false,false,false,false,false,false,false] rfl rfl (any_of HT_.out (by kernel_rfl)) (fun _ _ _ h => h) (Or.inl ⟨by rfl,?_⟩) ?_ ?_
  rotate_left
  ·intro w'
   go_simp
   with_reducible rfl
  rotate_left
  ·simp only [Act.put,List.setIfInBounds_toArray,List.set_cons_zero,List.set_cons_succ,i64_w,i32_w]
   rfl
  refine pure_ (i:=1) (N:=some 12) (v:=?_) (a':=?_) #[true,true,false,false,false,false,false,false,false,false,false,false,false] rfl rfl (any_of HT_.out (by kernel_rfl)) (fun _ _ _ h => h) (Or.inl ⟨by rfl,?_⟩) ?_ ?_
  rotate_left
  ·intro w'
   go_simp
   with_reducible rfl
  rotate_left
  ·simp only [Act.put,List.setIfInBounds_toArray,List.set_cons_zero,List.set_cons_succ,i64_w,i32_w]
   rfl
  refine pure_ (i:=2) (N:=some 13) (v:=?_) (a':=?_) #[true,true,true,false,false,false,false,false,false,false,false,false,false] rfl rfl (any_of HT_.out (by kernel_rfl)) (fun _ _ _ h => h) (Or.inl ⟨by rfl,?_⟩) ?_ ?_
  rotate_left
  ·intro w'
   go_simp
   with_reducible rfl
  rotate_left
  ·simp only [Act.put,List.setIfInBounds_toArray,List.set_cons_zero,List.set_cons_succ,i64_w,i32_w]
   rfl
  refine pure_ (i:=3) (N:=some 14) (v:=undef) (a':=?_) #[true,true,true,true,false,false,false,false,false,false,false,false,false] rfl rfl (any_of HT_.out (by kernel_rfl)) (fun _ _ _ h => h) (Or.inr ⟨by rfl,rfl⟩) ?_ ?_
  rotate_left
  ·simp only [Act.put,List.setIfInBounds_toArray,List.set_cons_zero,List.set_cons_succ,i64_w,i32_w]
   rfl
  refine pure_ (i:=4) (N:=some 15) (v:=undef) (a':=?_) #[true,true,true,true,true,false,false,false,false,false,false,false,false] rfl rfl (any_of HT_.out (by kernel_rfl)) (fun _ _ _ h => h) (Or.inr ⟨by rfl,rfl⟩) ?_ ?_
  rotate_left
  ·simp only [Act.put,List.setIfInBounds_toArray,List.set_cons_zero,List.set_cons_succ,i64_w,i32_w]
   rfl
  refine pure_ (i:=5) (N:=some 16) (v:=undef) (a':=?_) #[true,true,true,true,true,true,false,false,false,false,false,false,false] rfl rfl (any_of HT_.out (by kernel_rfl)) (fun _ _ _ h => h) (Or.inr ⟨by rfl,rfl⟩) ?_ ?_
  rotate_left
  ·simp only [Act.put,List.setIfInBounds_toArray,List.set_cons_zero,List.set_cons_succ,i64_w,i32_w]
   rfl
  refine pure_ (i:=6) (N:=some 17) (v:=?_) (a':=?_) #[true,true,true,true,true,true,true,false,false,false,false,false,false] rfl rfl (any_of HT_.out (by kernel_rfl)) (fun _ _ _ h => h) (Or.inl ⟨by rfl,?_⟩) ?_ ?_
  rotate_left
  ·intro w'
   go_simp
   with_reducible rfl
  rotate_left
  ·simp only [Act.put,List.setIfInBounds_toArray,List.set_cons_zero,List.set_cons_succ,i64_w,i32_w]
   rfl
  refine pure_ (i:=7) (N:=some 18) (v:=?_) (a':=?_) #[true,true,true,true,true,true,true,true,false,false,false,false,false] rfl rfl (any_of HT_.out (by kernel_rfl)) (fun _ _ _ h => h) (Or.inl ⟨by rfl,?_⟩) ?_ ?_
  rotate_left
  ·intro w'
   go_simp
   with_reducible rfl
  rotate_left
  ·simp only [Act.put,List.setIfInBounds_toArray,List.set_cons_zero,List.set_cons_succ,i64_w,i32_w]
   rfl
  refine pure_ (i:=8) (N:=some 19) (v:=undef) (a':=?_) #[true,true,true,true,true,true,true,true,true,false,false,false,false] rfl rfl (any_of HT_.out (by kernel_rfl)) (fun _ _ _ h => h) (Or.inr ⟨by rfl,rfl⟩) ?_ ?_
  rotate_left
  ·simp only [Act.put,List.setIfInBounds_toArray,List.set_cons_zero,List.set_cons_succ,i64_w,i32_w]
   rfl
  refine pure_ (i:=9) (N:=some 20) (v:=undef) (a':=?_) #[true,true,true,true,true,true,true,true,true,true,false,false,false] rfl rfl (any_of HT_.out (by kernel_rfl)) (fun _ _ _ h => h) (Or.inr ⟨by rfl,rfl⟩) ?_ ?_
  rotate_left
  ·simp only [Act.put,List.setIfInBounds_toArray,List.set_cons_zero,List.set_cons_succ,i64_w,i32_w]
   rfl
  refine pure_ (i:=10) (N:=some 21) (v:=undef) (a':=?_) #[true,true,true,true,true,true,true,true,true,true,true,false,false] rfl rfl (any_of HT_.out (by kernel_rfl)) (fun _ _ _ h => h) (Or.inr ⟨by rfl,rfl⟩) ?_ ?_
  rotate_left
  ·simp only [Act.put,List.setIfInBounds_toArray,List.set_cons_zero,List.set_cons_succ,i64_w,i32_w]
   rfl
  refine pure_ (i:=11) (N:=some 22) (v:=?_) (a':=?_) #[true,true,true,true,true,true,true,true,true,true,true,true,false] rfl rfl (any_of HT_.out (by kernel_rfl)) (fun _ _ _ h => h) (Or.inl ⟨by rfl,?_⟩) ?_ ?_
  rotate_left
  ·intro w'
   go_simp
   with_reducible rfl
  rotate_left
  ·simp only [Act.put,List.setIfInBounds_toArray,List.set_cons_zero,List.set_cons_succ,i64_w,i32_w]
   rfl
  refine pure_ (i:=12) (N:=some 0) (v:=?_) (a':=?_) #[true,true,true,true,true,true,true,true,true,true,true,true,true] rfl rfl (any_of HT_.out (by kernel_rfl)) (fun _ _ _ h => h) (Or.inl ⟨by rfl,?_⟩) ?_ ?_
  rotate_left
  ·intro w'
   go_simp
   with_reducible rfl
  rotate_left
  ·simp only [Act.put,List.setIfInBounds_toArray,List.set_cons_zero,List.set_cons_succ,i64_w,i32_w]
   rfl
  refine done_ (done_of HT_.out (by kernel_rfl)) ?_
  try go_wp2
  (first|go_ret|(refine ⟨_,results_tmp rfl _ _ _,?_⟩))
  exact ⟨by first|rfl|(simp [errW_none,errW_some] <;> rfl)|(simp [*,errW_none,errW_some] <;> rfl),by repeat (first|(with_reducible first|exact HB.out|apply below_alloc|apply pw_below_drewN|apply below_drew1|refine below_set ?_ GE433.out|refine below_set ?_ GE434.out)|exact HB.out)⟩
end Go.Proofs.Yteejcpbngnojkaa.P
end
section
namespace Go.Proofs.Yteejcpbngnojkaa.P
open Go.RowKit Go.Proofs.YteejcpbngnojkaaW.PrintWords Go.Proofs.YteejcpbngnojkaaW.PrintLast Go.Proofs.YteejcpbngnojkaaW.PrintMore
attribute [local go_sem] max2_int min2_int max_two min_two max_three min_three max_four min_four
set_option linter.unusedVariables false
set_option linter.unusedSimpArgs false
def nat_FromBytes.l0 : Nat → List Int → List Int → Int → Int → Option (List Int × Int)
 |0,_,_,_,_ => none
 |k + 1,x0,x4,x17,x18 => if x18 < x17 then (if 0 ≤ (wrap64 ((wrap64 ((x0.length : Int) - 1)) - x18)) then (if (wrap64 ((wrap64 ((x0.length : Int) - 1)) - x18)) < (x0.length : Int) then (if 0 ≤ (wrap64 (Int.tdiv x18 4)) then (if (wrap64 (Int.tdiv x18 4)) < (x4.length : Int) then (if 0 ≤ (wrap64 (8 * (Int.tmod x18 4))) then (nat_FromBytes.l0 k x0 (x4.set ((wrap64 (Int.tdiv x18 4)) : Int).toNat (Go.bits .or .u32 (rd x4 (wrap64 (Int.tdiv x18 4))) (shl .u32 ((rd x0 (wrap64 ((wrap64 ((x0.length : Int) - 1)) - x18))) % 4294967296) (wrap64 (8 * (Int.tmod x18 4)))))) x17 (wrap64 (x18 + 1))) else (none)) else (none)) else (none)) else (none)) else (none)) else ((nat_trim.f k x4).bind fun t450 => (some (t450,0)))
def nat_FromBytes.f (k : Nat) (l0 : List Int) : Option (List Int × Int):=if (l0.length : Int) > 128 then (some (([] : List Int),4)) else (if 0 ≤ (wrap64 (Int.tdiv (wrap64 ((l0.length : Int) + 3)) 4)) then (if (wrap64 (Int.tdiv (wrap64 ((l0.length : Int) + 3)) 4) : Int).toNat ≤ 70368744177664 then (nat_FromBytes.l0 k l0 (List.replicate (wrap64 (Int.tdiv (wrap64 ((l0.length : Int) + 3)) 4) : Int).toNat 0) (l0.length : Int) 0) else (none)) else (none))
theorem nat_FromBytes.mono_l : ∀ k,(∀ y0 y1 y2 y3,LeO (nat_FromBytes.l0 k y0 y1 y2 y3) (nat_FromBytes.l0 (k + 1) y0 y1 y2 y3))
 |0 => fun _ _ _ _ r h => by simp [nat_FromBytes.l0] at h
 |k + 1 => by
  have ih0:=nat_FromBytes.mono_l k
  ·intro y0 y1 y2 y3
   unfold nat_FromBytes.l0
   repeat' first
   |(with_reducible exact ih0 _ _ _ _)
   |(with_reducible exact nat_trim.mono _ _)
   |(with_reducible exact LeO.refl _)
   |(with_reducible exact LeO.none _)
   |(with_reducible refine LeO.ite ?_ ?_)
   |(with_reducible refine LeO.bind ?_ (fun _ => ?_))
   |exact ih0 _ _ _ _
   |exact nat_trim.mono _ _
   |exact LeO.none _
   |refine LeO.ite ?_ ?_
   |refine LeO.bind ?_ (fun _ => ?_)
theorem nat_FromBytes.mono : ∀ a0 k,LeO (nat_FromBytes.f k a0) (nat_FromBytes.f (k + 1) a0):=by
 intro a0 k
 have ih0:=nat_FromBytes.mono_l k
 unfold nat_FromBytes.f
 repeat' first
   |(with_reducible exact ih0 _ _ _ _)
   |(with_reducible exact nat_trim.mono _ _)
   |(with_reducible exact LeO.refl _)
   |(with_reducible exact LeO.none _)
   |(with_reducible refine LeO.ite ?_ ?_)
   |(with_reducible refine LeO.bind ?_ (fun _ => ?_))
   |exact ih0 _ _ _ _
   |exact nat_trim.mono _ _
   |exact LeO.none _
   |refine LeO.ite ?_ ?_
   |refine LeO.bind ?_ (fun _ => ?_)
def nat_FromBytes.T8 : Bool × List (List Nat × List Nat):=(true,[([],[]),([],[]),([1],[1]),([0,2],[0,2]),([3],[3]),([],[]),([5],[5]),([],[]),([7],[7]),([8],[8]),([6,9],[6,9]),([4,10],[4,10]),([0,2,0,1,2,3,4,5,6,7,8,9,10,11],[0,2]),([12,11,0,1,2,3,4,5,6,7,8,9,10,11],[11,12])])
def nat_FromBytes.B8 : List Nat:=[0,0,2,7,15,0,32,0,128,384,992,2047,4095,8191]
theorem nat_FromBytes.tab8 : rtab .any (opsOf Try.f35 8) = nat_FromBytes.T8:=by kernel_rfl
theorem nat_FromBytes.bits8 : waitsOk nat_FromBytes.T8.2 nat_FromBytes.B8 = true:=by kernel_rfl
set_option maxHeartbeats 8000000 in
set_option maxRecDepth 100000 in
theorem nat_FromBytes.calls (k : Nat) (A0 : Option Addr) (c0 : Nat) (l0 : List Int) (r1 : List Int) (r2 : Int) (w : World) (hr0 : Kd.C (Kd.int .u8) w A0 l0.length l0) (hc0 : l0.length ≤ c0) (h : nat_FromBytes.f k l0 = some (r1,r2)) :
  Calls Try.prog 35 #[.slice A0 l0.length c0] w fun e w' => ∃ v0_ : Value,e = .returned (.tuple #[.agg #[v0_],.int .i64 r2]) ∧ Kd.V (Kd.int .u32) 23 w' w.heap.size (fun k_ => (w.heap.size ≤ k_)) v0_ r1 ∧ Below w.heap.size w w':=by
 have hu38:=Try.underlying38
 have HR0:=Aside0.mk hr0
 have HC0:=Aside0.mk hc0
 clear hr0 hc0
 have HB:=Aside0.mk (Below.refl w.heap.size w)
 have H : (if (l0.length : Int) > 128 then (some (([] : List Int),4)) else (if 0 ≤ (wrap64 (Int.tdiv (wrap64 ((l0.length : Int) + 3)) 4)) then (if (wrap64 (Int.tdiv (wrap64 ((l0.length : Int) + 3)) 4) : Int).toNat ≤ 70368744177664 then (nat_FromBytes.l0 k l0 (List.replicate (wrap64 (Int.tdiv (wrap64 ((l0.length : Int) + 3)) 4) : Int).toNat 0) (l0.length : Int) 0) else (none)) else (none))) = some (r1,r2):=h
 clear h
 by_cases c2 : (l0.length : Int) > 128
 ·rw [if_pos c2] at H
  have c2b0 : decide (128 < (l0.length : Int)) = true:=decide_eq_true c2
  have c2b1 : decide (128 < l0.length) = true:=decide_eq_true (by omega)
  clear c2
  simp only [Option.some.injEq,Prod.mk.injEq] at H
  obtain ⟨rfl,rfl⟩:=H
  go_enter Try.func35,Try.ntmps35
  go_wp2_with (first|((with_reducible refine gate_dst (N:=2) rfl ?_);refine box_event ?hg (N:=2) ?hd (cs:=#[.slice none 0 0]) (t:=38) ?hr ?_;(case hd => rfl);(case hg => rfl);(case hr => first|(go_simp;done)|(go_simp;rfl));intro gb443 hg w3 hbox hb;have n0_:=Aside0.mk (below_step (by repeat (first|(with_reducible first|exact HB.out|apply below_alloc|apply pw_below_drewN|apply below_drew1)|exact HB.out)) hb);have n1_:=Aside0.mk (hbox);have n2_:=Aside0.mk ((by rw [hg];exact (below_size (by repeat (first|(with_reducible first|exact HB.out|apply below_alloc|apply pw_below_drewN|apply below_drew1)|exact HB.out))) : w.heap.size ≤ gb443));have n3_:=Aside0.mk ((by rw [hg];exact (below_size (by repeat (first|(with_reducible first|exact HB.out|apply below_alloc|apply pw_below_drewN|apply below_drew1)|exact HB.out))) : w.heap.size ≤ gb443));clear HB;have HB:=n0_;have BK443:=n1_;have GW443:=n2_;have GE443:=n3_;clear n0_ n1_ n2_ n3_;clear hb hbox hg;have hcz4_0 : w3.cell? ⟨gb443,0,none⟩ = some (.slice none 0 0):=(blk_cell BK443.out 0).trans rfl;have hfz4_0:=blk_frozen BK443.out 0))
  refine bodyPost_ret (results_ct rfl _ _ gb443 38 #[.slice none 0 0] (0,0) _ rfl (by (with_reducible repeat (first|refine blk_drewN ?_ _|refine blk_drew ?_|refine blk_alloc ?_ _));refine blk_put (cs:=#[.slice none 0 0]) ?_ 0 _ rfl;(with_reducible repeat (first|refine blk_drewN ?_ _|refine blk_drew ?_|refine blk_alloc ?_ _));exact BK443.out) Try.underlying38 rfl (by kernel_rfl)) rfl ?_
  exact ⟨_,by first|rfl|(simp [errW_none,errW_some] <;> rfl)|(simp [*,errW_none,errW_some] <;> rfl),Kd.V_nil _ _ _ _ _,by repeat (first|(with_reducible first|exact HB.out|apply below_alloc|apply pw_below_drewN|apply below_drew1|refine below_set ?_ GE443.out)|exact HB.out)⟩
 ·rw [if_neg c2] at H
  have c2b0 : decide (128 < (l0.length : Int)) = false:=decide_eq_false c2
  have c2b1 : decide (128 < l0.length) = false:=decide_eq_false (by omega)
  clear c2
  obtain ⟨ji5,hji5⟩ : ∃ j_ : Int,(wrap64 (Int.tdiv (wrap64 ((l0.length : Int) + 3)) 4)) = j_:=⟨_,rfl⟩
  replace H : (if 0 ≤ (ji5) then (if (ji5 : Int).toNat ≤ 70368744177664 then (nat_FromBytes.l0 k l0 (List.replicate (ji5 : Int).toNat 0) (l0.length : Int) 0) else (none)) else (none)) = some (r1,r2):=by first|(rw [hji5] at H;exact H)|(simp only [hji5] at H ⊢;exact H)
  have hji5w : (IntKind.i64.wrap (Int.tdiv (wrap64 ((l0.length : Int) + 3)) 4)) = ji5:=(i64_w _).trans hji5
  by_cases c6 : 0 ≤ (ji5)
  ·rw [if_pos c6] at H
   have c6b0:=eq_true c6
   have c6b1 : decide (0 ≤ (ji5)) = true:=decide_eq_true c6
   clear c6
   by_cases c7 : (ji5 : Int).toNat ≤ 70368744177664
   ·rw [if_pos c7] at H
    have c7b0:=eq_true c7
    have c7b1 : decide ((ji5 : Int).toNat ≤ 70368744177664) = true:=decide_eq_true c7
    clear c7
    obtain ⟨y444,hy444⟩ : ∃ y_ : List Int,y_ = (List.replicate (ji5 : Int).toNat 0):=⟨_,rfl⟩
    replace H : (nat_FromBytes.l0 k l0 y444 (l0.length : Int) 0) = some (r1,r2):=by first|(rw [hy444];with_reducible exact H)|(have H2_:=(Option.bind_some _ _).symm.trans H;rw [hy444];with_reducible exact H2_)|(have H2_:=(Option.bind_some _ _).symm.trans H;with_reducible exact H2_)|with_reducible exact H|(rw [hy444];exact H)|exact H
    have Ny444:=Aside0.mk hy444
    clear hy444
    have H':=Aside0.mk H
    clear H
    go_enter Try.func35,Try.ntmps35
    go_wp2_with (first|((with_reducible refine gate_dst (N:=2) rfl ?_);refine box_event ?hg (N:=2) ?hd (cs:=#[.slice none 0 0]) (t:=38) ?hr ?_;(case hd => rfl);(case hg => rfl);(case hr => first|(go_simp;done)|(go_simp;rfl));intro gb443 hg w8 hbox hb;have n0_:=Aside0.mk (below_step (by repeat (first|(with_reducible first|exact HB.out|apply below_alloc|apply pw_below_drewN|apply below_drew1)|exact HB.out)) hb);have n1_:=Aside0.mk (hbox);have n2_:=Aside0.mk ((by rw [hg];exact (below_size (by repeat (first|(with_reducible first|exact HB.out|apply below_alloc|apply pw_below_drewN|apply below_drew1)|exact HB.out))) : w.heap.size ≤ gb443));have n3_:=Aside0.mk ((by rw [hg];exact (below_size (by repeat (first|(with_reducible first|exact HB.out|apply below_alloc|apply pw_below_drewN|apply below_drew1)|exact HB.out))) : w.heap.size ≤ gb443));clear HB;have HB:=n0_;have BK443:=n1_;have GW443:=n2_;have GE443:=n3_;clear n0_ n1_ n2_ n3_;clear hb hbox hg)|((with_reducible refine gate_dst (N:=15) rfl ?_);refine Kd.R_make (Kd.int .u32) _ 23 rfl (N:=15) rfl 36 _ _ rfl ji5 rfl rfl Try.underlying36 (.int .u32 0) 4 info23 rfl (by decide) (by omega) 0 (ok:=fun _ => True) (okp:=fun _ => True) rfl (fun _ hk => hk) trivial (of_decide_eq_true (by first|(with_reducible assumption)|assumption)) (Nat.le_trans (Nat.mul_le_mul_right _ (of_decide_eq_true (by first|(with_reducible assumption)|assumption) : ji5.toNat ≤ 70368744177664)) (by omega)) (Below.refl _ _) (Nat.le_refl _) ?_;intro v445 w9 ho10 hb hg_ hnew_;clear hg_ hnew_;(first|rw [← Ny444.out] at ho10|(simp only [Int.reduceToNat] at ho10;rw [← Ny444.out] at ho10));have n0_:=Aside0.mk (Kd.R_lower (Kd.R_newM (M:=fun k_ => (w.heap.size ≤ k_)) ho10 (below_size (by repeat (first|(with_reducible first|exact HB.out|apply below_alloc|apply pw_below_drewN|apply below_drew1|refine below_set ?_ GE443.out)|exact HB.out))) (fun k_ h_ => h_)) (below_size (by repeat (first|(with_reducible first|exact HB.out|apply below_alloc|apply pw_below_drewN|apply below_drew1|refine below_set ?_ GE443.out)|exact HB.out))));have n1_:=Aside0.mk (blk_below (g:=gb443) (o:=.cells #[.slice none 0 0] 38 (0,0)) (by (with_reducible repeat (first|refine blk_drewN ?_ _|refine blk_drew ?_|refine blk_alloc ?_ _));exact BK443.out) hb);have n2_:=Aside0.mk (below_step (by repeat (first|(with_reducible first|exact HB.out|apply below_alloc|apply pw_below_drewN|apply below_drew1|refine below_set ?_ GE443.out)|exact HB.out)) hb);clear BK443;clear HB;have HO446:=n0_;have BK443:=n1_;have HB:=n2_;clear n0_ n1_ n2_;clear hb ho10))
    go_loopg [18] k (fun kq v18 w' => ∃ (x4_1 : List Int) (x18_1 : Int),v18 = .int .i64 x18_1 ∧ Aside0 (nat_FromBytes.l0 kq l0 x4_1 (l0.length : Int) x18_1 = some (r1,r2)) ∧ Aside0 (kq ≤ k) ∧ Aside0 (Kd.R (Kd.int .u32) 23 w' w.heap.size (fun k_ => (w.heap.size ≤ k_)) v445 x4_1) ∧ Aside0 (w'.heap[gb443]? = some (.cells #[(.slice none 0 0)] 38 (0,0))) ∧ Aside0 (Below w.heap.size w w'))
    case atStart => exact ⟨(y444),(0),(by first|rfl|(simp;done)|(simp [*];done)),H',⟨Nat.le_refl _⟩,⟨by (with_reducible repeat (first|apply Kd.R_alloc|apply Kd.R_drewN|apply Kd.R_drew));exact Kd.R_mono HO446.out (fun _ hk => hk.1)⟩,⟨by (with_reducible repeat (first|refine blk_drewN ?_ _|refine blk_drew ?_|refine blk_alloc ?_ _));exact BK443.out⟩,⟨by repeat (first|(with_reducible first|exact HB.out|apply below_alloc|apply pw_below_drewN|apply below_drew1|refine below_set ?_ GE443.out)|exact HB.out)⟩⟩
    case round =>
     clear H'
     try clear c2
     try clear c2b0
     try clear c2b1
     try clear p2
     try clear c3
     try clear c6
     try clear c6b0
     try clear c6b1
     try clear p6
     try clear c7
     try clear c7b0
     try clear c7b1
     try clear hcz4_0
     try clear hfz4_0
     obtain ⟨x4_1,x18_1,rfl,HA,HK1,HO_4,BK443,HB⟩:=hrel
     cases gk with
     |zero => exact absurd HA.out (by simp [nat_FromBytes.l0])
     |succ k1 =>
      have H:=HA.out
      clear HA
      simp only [nat_FromBytes.l0] at H
      by_cases c11 : x18_1 < (l0.length : Int)
      ·rw [if_pos c11] at H
       have c11b0 : decide (x18_1 < (l0.length : Int)) = true:=decide_eq_true c11
       clear c11
       obtain ⟨ji12,hji12⟩ : ∃ j_ : Int,(wrap64 ((wrap64 ((l0.length : Int) - 1)) - x18_1)) = j_:=⟨_,rfl⟩
       replace H : (if 0 ≤ (ji12) then (if (ji12) < (l0.length : Int) then (if 0 ≤ (wrap64 (Int.tdiv x18_1 4)) then (if (wrap64 (Int.tdiv x18_1 4)) < (x4_1.length : Int) then (if 0 ≤ (wrap64 (8 * (Int.tmod x18_1 4))) then (nat_FromBytes.l0 k1 l0 (x4_1.set ((wrap64 (Int.tdiv x18_1 4)) : Int).toNat (Go.bits .or .u32 (rd x4_1 (wrap64 (Int.tdiv x18_1 4))) (shl .u32 ((rd l0 (ji12)) % 4294967296) (wrap64 (8 * (Int.tmod x18_1 4)))))) (l0.length : Int) (wrap64 (x18_1 + 1))) else (none)) else (none)) else (none)) else (none)) else (none)) = some (r1,r2):=by first|(rw [hji12] at H;exact H)|(simp only [hji12] at H ⊢;exact H)
       have hji12w : (IntKind.i64.wrap ((wrap64 ((l0.length : Int) - 1)) - x18_1)) = ji12:=(i64_w _).trans hji12
       by_cases c13 : 0 ≤ (ji12)
       ·rw [if_pos c13] at H
        have c13b0 : decide (0 ≤ (ji12)) = true:=decide_eq_true c13
        clear c13
        by_cases c14 : (ji12) < (l0.length : Int)
        ·rw [if_pos c14] at H
         have c14b0 : decide ((ji12) < (l0.length : Int)) = true:=decide_eq_true c14
         clear c14
         obtain ⟨ji15,hji15⟩ : ∃ j_ : Int,(wrap64 (Int.tdiv x18_1 4)) = j_:=⟨_,rfl⟩
         replace H : (if 0 ≤ (ji15) then (if (ji15) < (x4_1.length : Int) then (if 0 ≤ (wrap64 (8 * (Int.tmod x18_1 4))) then (nat_FromBytes.l0 k1 l0 (x4_1.set ((ji15) : Int).toNat (Go.bits .or .u32 (rd x4_1 (ji15)) (shl .u32 ((rd l0 (ji12)) % 4294967296) (wrap64 (8 * (Int.tmod x18_1 4)))))) (l0.length : Int) (wrap64 (x18_1 + 1))) else (none)) else (none)) else (none)) = some (r1,r2):=by first|(rw [hji15] at H;exact H)|(simp only [hji15] at H ⊢;exact H)
         have hji15w : (IntKind.i64.wrap (Int.tdiv x18_1 4)) = ji15:=(i64_w _).trans hji15
         by_cases c16 : 0 ≤ (ji15)
         ·rw [if_pos c16] at H
          have c16b0 : decide (0 ≤ (ji15)) = true:=decide_eq_true c16
          clear c16
          by_cases c17 : (ji15) < (x4_1.length : Int)
          ·rw [if_pos c17] at H
           have c17b0 : decide ((ji15) < (x4_1.length : Int)) = true:=decide_eq_true c17
           clear c17
           obtain ⟨ji18,hji18⟩ : ∃ j_ : Int,(wrap64 (8 * (Int.tmod x18_1 4))) = j_:=⟨_,rfl⟩
           replace H : (if 0 ≤ (ji18) then (nat_FromBytes.l0 k1 l0 (x4_1.set ((ji15) : Int).toNat (Go.bits .or .u32 (rd x4_1 (ji15)) (shl .u32 ((rd l0 (ji12)) % 4294967296) (ji18)))) (l0.length : Int) (wrap64 (x18_1 + 1))) else (none)) = some (r1,r2):=by first|(rw [hji18] at H;exact H)|(simp only [hji18] at H ⊢;exact H)
           have hji18w : (IntKind.i64.wrap (8 * (Int.tmod x18_1 4))) = ji18:=(i64_w _).trans hji18
           by_cases c19 : 0 ≤ (ji18)
           ·rw [if_pos c19] at H
            have c19b0:=eq_true c19
            have c19b1 : decide (0 ≤ (ji18)) = true:=decide_eq_true c19
            clear c19
            obtain ⟨ji20,hji20⟩ : ∃ j_ : Int,(shl .u32 ((rd l0 (ji12)) % 4294967296) (ji18)) = j_:=⟨_,rfl⟩
            replace H : (nat_FromBytes.l0 k1 l0 (x4_1.set ((ji15) : Int).toNat (Go.bits .or .u32 (rd x4_1 (ji15)) (ji20))) (l0.length : Int) (wrap64 (x18_1 + 1))) = some (r1,r2):=by first|(rw [hji20] at H;exact H)|(simp only [hji20] at H ⊢;exact H)
            have hji20_ : (IntKind.u32.wrap (((rd l0 (ji12)) % 4294967296) * 2 ^ min (ji18).toNat 32)) = ji20:=hji20
            have hji20m : ((rd l0 (ji12)) % 4294967296) * 2 ^ min (ji18).toNat 32 % 4294967296 = ji20:=hji20_
            have hji20z : (ji18) ≤ 32 → (IntKind.u32.wrap (((rd l0 (ji12)) % 4294967296) * 2 ^ (ji18).toNat)) = ji20:=shl_small hji20
            obtain ⟨y449,hy449⟩ : ∃ y_ : List Int,y_ = (x4_1.set ((ji15) : Int).toNat (Go.bits .or .u32 (rd x4_1 (ji15)) (ji20))):=⟨_,rfl⟩
            replace H : (nat_FromBytes.l0 k1 l0 y449 (l0.length : Int) (wrap64 (x18_1 + 1))) = some (r1,r2):=by first|(rw [hy449];with_reducible exact H)|(have H2_:=(Option.bind_some _ _).symm.trans H;rw [hy449];with_reducible exact H2_)|(have H2_:=(Option.bind_some _ _).symm.trans H;with_reducible exact H2_)|with_reducible exact H|(rw [hy449];exact H)|exact H
            have Ny449:=Aside0.mk hy449
            clear hy449
            have H':=Aside0.mk H
            clear H
            have p447 : 0 ≤ ((ji12) : Int):=of_decide_eq_true (by first|(with_reducible assumption)|assumption)
            have q447 : (ji12) < (l0.length : Int):=of_decide_eq_true (by first|(with_reducible assumption)|assumption)
            obtain ⟨ad447,e447,hx447_0⟩:=Kd.at_int HR0.out (ji12) p447 q447
            cases e447
            replace hx447_0:=(HB.out.cell (World.block_lt_of_cell? w _ hx447_0)).trans hx447_0
            replace p447:=eq_true p447
            replace q447:=eq_true q447
            try go_wp2
            have n0_:=Aside0.mk (Kd.R_drew HO_4.out)
            have n1_:=Aside0.mk (blk_drew BK443.out)
            have n2_:=Aside0.mk (below_drew1 HB.out)
            clear HO_4
            clear BK443
            clear HB
            have HO_4:=n0_
            have BK443:=n1_
            have HB:=n2_
            clear n0_ n1_ n2_
            obtain ⟨Ao23,co23,eo23⟩:=Kd.R_slice HO_4.out
            (first|subst eo23|(injection eo23 with f1_ f2_ f3_;have f4_:=f1_.symm;have f5_:=f3_.symm;clear f1_ f2_ f3_;subst f4_;subst f5_))
            have p448 : 0 ≤ ((ji15) : Int):=of_decide_eq_true (by first|(with_reducible assumption)|assumption)
            have q448 : (ji15) < (x4_1.length : Int):=of_decide_eq_true (by first|(with_reducible assumption)|assumption)
            obtain ⟨ad448,e448,hx448_0⟩:=Kd.at_int (Kd.R_reads' HO_4.out).2.2 (ji15) p448 q448
            cases e448
            replace p448:=eq_true p448
            replace q448:=eq_true q448
            have p21 : 0 ≤ ((ji15) : Int):=of_decide_eq_true (by first|(with_reducible assumption)|assumption)
            have q21 : ((ji15) : Int) < ((x4_1.length : Int) : Int):=of_decide_eq_true (by first|(with_reducible assumption)|assumption)
            obtain ⟨go21,co21,eo21,gb21,gl21,cl21,HG21⟩:=Kd.R_form HO_4.out (by omega)
            (first|cases eo21|(injection eo21 with ea_ en_ ec_;(first|subst ea_|(injection ea_ with ea_;subst ea_));subst ec_;clear en_))
            have GB21:=Aside0.mk gb21
            have GG21:=Aside0.mk HG21
            clear gb21 gl21 HG21
            (first|simp only [add_plain] at hx448_0|skip)
            obtain ⟨hx21_0,hf21_0⟩:=Kd.R_celln 0 HO_4.out ((ji15) : Int) p21 q21
            replace p21:=eq_true p21
            replace q21:=eq_true q21
            have HP24:=Kd.R_putn HO_4.out ((ji15) : Int) (Go.bits .or .u32 (rd x4_1 (ji15)) (ji20))
            rw [← Ny449.out] at HP24
            have HQ24:=Aside0.mk HP24
            clear HP24
            refine start_ (n:=14) (S:=fun w' => w'.cell? ⟨go21,((ji15)).toNat,none⟩ = some (.int .u32 (rd x4_1 (ji15)))) (ds:=[13]) #[false,false,false,false,false,false,false,false,false,false,false,false,false,false] (by kernel_rfl) rfl rfl (hx448_0) (fun hHeld => ?_);refine with_tabW nat_FromBytes.tab8 nat_FromBytes.bits8 (fun HT_ HW_ => ?_)
            generalize wr.drew = w22 at HO_4 BK443 HB GG21 HQ24 hf21_0 hx21_0 hx448_0 hHeld ⊢
            refine pure_ (i:=0) (N:=some 29) (v:=?_) (a':=?_) #[true,false,false,false,false,false,false,false,false,false,false,false,false,false] rfl rfl (any_of HT_.out (by kernel_rfl)) (fun _ _ _ h => h) (Or.inl ⟨by rfl,?_⟩) ?_ ?_
            rotate_left
            ·intro w'
             go_simp
             with_reducible rfl
            rotate_left
            ·simp only [Act.put,List.setIfInBounds_toArray,List.set_cons_zero,List.set_cons_succ,i64_w,i32_w]
             rfl
            refine pure_ (i:=1) (N:=some 30) (v:=?_) (a':=?_) #[true,true,false,false,false,false,false,false,false,false,false,false,false,false] rfl rfl (any_of HT_.out (by kernel_rfl)) (fun _ _ _ h => h) (Or.inl ⟨by rfl,?_⟩) ?_ ?_
            rotate_left
            ·intro w'
             go_simp
             with_reducible rfl
            rotate_left
            ·simp only [Act.put,List.setIfInBounds_toArray,List.set_cons_zero,List.set_cons_succ,i64_w,i32_w]
             rfl
            refine pure_ (i:=2) (N:=some 31) (v:=?_) (a':=?_) #[true,true,true,false,false,false,false,false,false,false,false,false,false,false] rfl rfl (any_of HT_.out (by kernel_rfl)) (fun _ _ _ h => h) (Or.inl ⟨by rfl,?_⟩) ?_ ?_
            rotate_left
            ·intro w'
             go_simp
             with_reducible rfl
            rotate_left
            ·simp only [Act.put,List.setIfInBounds_toArray,List.set_cons_zero,List.set_cons_succ,i64_w,i32_w]
             rfl
            refine pure_ (i:=3) (N:=some 32) (v:=?_) (a':=?_) #[true,true,true,true,false,false,false,false,false,false,false,false,false,false] rfl rfl (any_of HT_.out (by kernel_rfl)) (fun _ _ _ h => h) (Or.inl ⟨by rfl,?_⟩) ?_ ?_
            rotate_left
            ·intro w'
             go_simp
             with_reducible rfl
            rotate_left
            ·simp only [Act.put,List.setIfInBounds_toArray,List.set_cons_zero,List.set_cons_succ,i64_w,i32_w]
             rfl
            refine pure_ (i:=5) (N:=some 34) (v:=?_) (a':=?_) #[true,true,true,true,false,true,false,false,false,false,false,false,false,false] rfl rfl (any_of HT_.out (by kernel_rfl)) (fun _ _ _ h => h) (Or.inl ⟨by rfl,?_⟩) ?_ ?_
            rotate_left
            ·intro w'
             go_simp
             with_reducible rfl
            rotate_left
            ·simp only [Act.put,List.setIfInBounds_toArray,List.set_cons_zero,List.set_cons_succ,i64_w,i32_w]
             rfl
            refine pure_ (i:=6) (N:=some 35) (v:=?_) (a':=?_) #[true,true,true,true,false,true,true,false,false,false,false,false,false,false] rfl rfl (any_of HT_.out (by kernel_rfl)) (fun _ _ _ h => h) (Or.inl ⟨by rfl,?_⟩) ?_ ?_
            rotate_left
            ·intro w'
             go_simp
             with_reducible rfl
            rotate_left
            ·simp only [Act.put,List.setIfInBounds_toArray,List.set_cons_zero,List.set_cons_succ,i64_w,i32_w]
             rfl
            refine pure_ (i:=7) (N:=some 36) (v:=?_) (a':=?_) #[true,true,true,true,false,true,true,true,false,false,false,false,false,false] rfl rfl (any_of HT_.out (by kernel_rfl)) (fun _ _ _ h => h) (Or.inl ⟨by rfl,?_⟩) ?_ ?_
            rotate_left
            ·intro w'
             go_simp
             with_reducible rfl
            rotate_left
            ·simp only [Act.put,List.setIfInBounds_toArray,List.set_cons_zero,List.set_cons_succ,i64_w,i32_w]
             rfl
            refine pure_ (i:=8) (N:=some 37) (v:=?_) (a':=?_) #[true,true,true,true,false,true,true,true,true,false,false,false,false,false] rfl rfl (any_of HT_.out (by kernel_rfl)) (fun _ _ _ h => h) (Or.inl ⟨by rfl,?_⟩) ?_ ?_
            rotate_left
            ·intro w'
             go_simp
             with_reducible rfl
            rotate_left
            ·simp only [Act.put,List.setIfInBounds_toArray,List.set_cons_zero,List.set_cons_succ,i64_w,i32_w]
             rfl
            refine pure_ (i:=9) (N:=some 38) (v:=?_) (a':=?_) #[true,true,true,true,false,true,true,true,true,true,false,false,false,false] rfl rfl (any_of HT_.out (by kernel_rfl)) (fun _ _ _ h => h) (Or.inl ⟨by rfl,?_⟩) ?_ ?_
            rotate_left
            ·intro w'
             go_simp
             with_reducible rfl
            rotate_left
            ·simp only [Act.put,List.setIfInBounds_toArray,List.set_cons_zero,List.set_cons_succ,i64_w,i32_w]
             rfl
            refine pure_ (i:=10) (N:=some 39) (v:=?_) (a':=?_) #[true,true,true,true,false,true,true,true,true,true,true,false,false,false] rfl rfl (any_of HT_.out (by kernel_rfl)) (fun _ _ _ h => h) (Or.inl ⟨by rfl,?_⟩) ?_ ?_
            rotate_left
            ·intro w'
             go_simp
             with_reducible rfl
            rotate_left
            ·simp only [Act.put,List.setIfInBounds_toArray,List.set_cons_zero,List.set_cons_succ,i64_w,i32_w]
             rfl
            refine take_ (i:=4) (N:=some 33) (v:=?_) (a':=?_) #[true,true,true,true,true,true,true,true,true,true,true,false,false,false] rfl rfl (take_ofW HT_.out HW_.out (by kernel_rfl)) (fun _ _ _ h => h) (Or.inl ⟨by rfl,?_⟩) hHeld ?_ ?_
            rotate_left
            ·intro w' s0
             go_simp
             with_reducible rfl
            rotate_left
            ·simp only [Act.put,List.setIfInBounds_toArray,List.set_cons_zero,List.set_cons_succ,i64_w,i32_w]
             rfl
            refine pure_ (i:=11) (N:=some 40) (v:=?_) (a':=?_) #[true,true,true,true,true,true,true,true,true,true,true,true,false,false] rfl rfl (any_of HT_.out (by kernel_rfl)) (fun _ _ _ h => h) (Or.inl ⟨by rfl,?_⟩) ?_ ?_
            rotate_left
            ·intro w'
             go_simp
             with_reducible rfl
            rotate_left
            ·simp only [Act.put,List.setIfInBounds_toArray,List.set_cons_zero,List.set_cons_succ,i64_w,i32_w]
             rfl
            refine pure_ (i:=12) (N:=some 41) (v:=?_) (a':=?_) #[true,true,true,true,true,true,true,true,true,true,true,true,true,false] rfl rfl (any_of HT_.out (by kernel_rfl)) (fun _ _ _ h => h) (Or.inl ⟨by rfl,?_⟩) ?_ ?_
            rotate_left
            ·intro w'
             go_simp
             with_reducible rfl
            rotate_left
            ·simp only [Act.put,List.setIfInBounds_toArray,List.set_cons_zero,List.set_cons_succ,i64_w,i32_w]
             rfl
            refine last_ (i:=13) (N:=none) #[true,true,true,true,true,true,true,true,true,true,true,true,true,true] rfl rfl (one_of HT_.out (by kernel_rfl)) (by decide) (fun K hK => ?_)
            refine skip_ (w1:=?_) (by rfl) rfl ?_ ?_
            rotate_left
            ·go_simp
             rfl
            refine hK.out _ _ ?_
            clear hK K
            refine done_ (done_of HT_.out (by kernel_rfl)) ?_
            try go_wp2
            go_roundg k1
            case measure => have:=HK1.out;omega
            case rel => exact ⟨(y449),(wrap64 (x18_1 + 1)),(by first|rfl|(simp;done)|(simp [*];done)),H',⟨by have:=HK1.out;omega⟩,⟨by (with_reducible repeat (first|apply Kd.R_alloc|apply Kd.R_drewN|apply Kd.R_drew));(first|exact HQ24.out|(rw [hji20m];exact HQ24.out))⟩,⟨by (with_reducible repeat (first|refine blk_drewN ?_ _|refine blk_drew ?_|refine blk_alloc ?_ _));refine blk_far ?_ (by have h_:=Kd.R_ne HO_4.out BK443.out (by decide);intro e_;exact h_ (by rw [e_];rfl)) _;(with_reducible repeat (first|refine blk_drewN ?_ _|refine blk_drew ?_|refine blk_alloc ?_ _));exact BK443.out⟩,⟨by repeat (first|(with_reducible first|exact HB.out|apply below_alloc|apply pw_below_drewN|apply below_drew1|refine below_set ?_ GB21.out|refine below_set ?_ GE443.out)|exact HB.out)⟩⟩
           ·rw [if_neg c19] at H
            exact absurd H (by simp)
          ·rw [if_neg c17] at H
           exact absurd H (by simp)
         ·rw [if_neg c16] at H
          exact absurd H (by simp)
        ·rw [if_neg c14] at H
         exact absurd H (by simp)
       ·rw [if_neg c13] at H
        exact absurd H (by simp)
      ·rw [if_neg c11] at H
       have c11b0 : decide (x18_1 < (l0.length : Int)) = false:=decide_eq_false c11
       clear c11
       replace H:=Option.bind_eq_some_iff.mp H
       obtain ⟨t450,A250,H⟩:=H
       replace H : (some (t450,0)) = some (r1,r2):=H
       have A25:=Aside0.mk A250
       clear A250
       simp only [Option.some.injEq,Prod.mk.injEq] at H
       obtain ⟨rfl,rfl⟩:=H
       obtain ⟨Ao26,co26,eo26⟩:=Kd.R_slice HO_4.out
       subst eo26
       go_wp2_with (first|((with_reducible refine gate_callee (f:=100) rfl ?_);refine goesL_ (some 44) rfl rfl Try.func100 (by kernel_rfl) rfl #[.slice Ao26 x4_1.length co26] rfl (by (try simp only [List.map_toArray,List.map_cons,List.map_nil]);first|done|rfl|(simp only [List.length_drop,List.length_take];rfl)) ?_;(with_reducible refine (nat_trim.calls k1 (fun k_ => some k_ = (.slice Ao26 x4_1.length co26 : Value).ownBlock) _ _ x4_1 t450 _ ?side1 A25.out).mono ?_);(case side1 => exact Kd.R_V (Kd.R_tight rfl (Kd.R_types (HO_4.out) BK443.out (by decide))));rintro e w27 ⟨v451,rfl,ho0,hb⟩;refine ⟨_,rfl,?_⟩;have n0_:=Aside0.mk (Kd.R_below (by (with_reducible repeat (first|apply Kd.R_alloc|apply Kd.R_drewN|apply Kd.R_drew));exact HO_4.out) hb);have n1_:=Aside0.mk (Kd.V_lower (Kd.V_mono (ok':=fun k_ => (w.heap.size ≤ k_) ∧ k_ ≠ gb443) ho0 (fun k_ hk_ => ⟨Or.elim hk_ (fun hs_ => ((Kd.R_types (HO_4.out) BK443.out (by decide)).1 k_ hs_.symm).1) (fun hn_ => (Nat.le_trans (below_size (by repeat (first|(with_reducible first|exact HB.out|apply below_alloc|apply pw_below_drewN|apply below_drew1|refine below_set ?_ GE443.out)|exact HB.out))) hn_)),Or.elim hk_ (fun hs_ => ((Kd.R_types (HO_4.out) BK443.out (by decide)).1 k_ hs_.symm).2) (fun hn_ => (Kd.freshB (g:=gb443) (o:=.cells #[.slice none 0 0] 38 (0,0)) (by (with_reducible repeat (first|refine blk_drewN ?_ _|refine blk_drew ?_|refine blk_alloc ?_ _));exact BK443.out) k_ hn_))⟩)) (below_size (by repeat (first|(with_reducible first|exact HB.out|apply below_alloc|apply pw_below_drewN|apply below_drew1|refine below_set ?_ GE443.out)|exact HB.out))));have n2_:=Aside0.mk (blk_below (g:=gb443) (o:=.cells #[.slice none 0 0] 38 (0,0)) (by (with_reducible repeat (first|refine blk_drewN ?_ _|refine blk_drew ?_|refine blk_alloc ?_ _));exact BK443.out) hb);have n3_:=Aside0.mk (below_step (by repeat (first|(with_reducible first|exact HB.out|apply below_alloc|apply pw_below_drewN|apply below_drew1|refine below_set ?_ GE443.out)|exact HB.out)) hb);clear HO_4;clear BK443;clear HB;have HO_4:=n0_;have HO452:=n1_;have BK443:=n2_;have HB:=n3_;clear n0_ n1_ n2_ n3_;(try clear hb);(try clear hb2);(try clear hk);(try clear hi);(try clear ho0);obtain ⟨Ao28,co28,eo28⟩:=Kd.V_slice HO452.out;subst eo28;have hcz29_0 : w27.cell? ⟨gb443,0,none⟩ = some (.slice none 0 0):=(blk_cell BK443.out 0).trans rfl;have hfz29_0:=blk_frozen BK443.out 0))
       refine bodyPost_ret (results_ct rfl _ _ gb443 38 #[.slice Ao28 t450.length co28] (0,0) _ rfl (by (with_reducible repeat (first|refine blk_drewN ?_ _|refine blk_drew ?_|refine blk_alloc ?_ _));refine blk_put (cs:=#[.slice none 0 0]) ?_ 0 _ rfl;(with_reducible repeat (first|refine blk_drewN ?_ _|refine blk_drew ?_|refine blk_alloc ?_ _));exact BK443.out) Try.underlying38 rfl (by kernel_rfl)) rfl ?_
       exact ⟨_,by first|rfl|(simp [errW_none,errW_some] <;> rfl)|(simp only [← hji5];first|rfl|(simp [errW_none,errW_some] <;> rfl))|(simp [*,errW_none,errW_some] <;> rfl),by (with_reducible repeat (first|apply Kd.V_alloc|apply Kd.V_drewN|apply Kd.V_drew));exact Kd.V_mono (Kd.V_far (p:=⟨gb443,0,none⟩) (Kd.V_mono HO452.out (fun k_ hk => (⟨hk,hk.2⟩ : _ ∧ k_ ≠ gb443))) (fun _ hk => hk.2) (.slice Ao28 t450.length co28)) (fun _ hk => hk.1.1),by repeat (first|(with_reducible first|exact HB.out|apply below_alloc|apply pw_below_drewN|apply below_drew1|refine below_set ?_ GE443.out)|exact HB.out)⟩
   ·rw [if_neg c7] at H
    exact absurd H (by simp)
  ·rw [if_neg c6] at H
   exact absurd H (by simp)
end Go.Proofs.Yteejcpbngnojkaa.P
end
section
namespace Go.Proofs.Yteejcpbngnojkaa.P
open Go.RowKit Go.Proofs.YteejcpbngnojkaaW.PrintWords Go.Proofs.YteejcpbngnojkaaW.PrintLast Go.Proofs.YteejcpbngnojkaaW.PrintMore
attribute [local go_sem] max2_int min2_int max_two min_two max_three min_three max_four min_four
set_option linter.unusedVariables false
set_option linter.unusedSimpArgs false
def sacristylaw01_Num.f (k : Nat) (l0 : List Int) : Option (List Int):=if 0 ≤ (mn (l0.length : Int) 48) then (if (mn (l0.length : Int) 48) ≤ (l0.length : Int) then ((nat_FromBytes.f k (l0.take ((mn (l0.length : Int) 48) : Int).toNat)).bind fun bt506 => (some bt506.1)) else (none)) else (none)
theorem sacristylaw01_Num.mono : ∀ a0 k,LeO (sacristylaw01_Num.f k a0) (sacristylaw01_Num.f (k + 1) a0):=by
 intro a0 k
 unfold sacristylaw01_Num.f
 repeat' first
   |(with_reducible exact nat_FromBytes.mono _ _)
   |(with_reducible exact LeO.refl _)
   |(with_reducible exact LeO.none _)
   |(with_reducible refine LeO.ite ?_ ?_)
   |(with_reducible refine LeO.bind ?_ (fun _ => ?_))
   |exact nat_FromBytes.mono _ _
   |exact LeO.none _
   |refine LeO.ite ?_ ?_
   |refine LeO.bind ?_ (fun _ => ?_)
set_option maxHeartbeats 8000000 in
set_option maxRecDepth 100000 in
theorem sacristylaw01_Num.calls (k : Nat) (A0 : Option Addr) (c0 : Nat) (l0 : List Int) (r : List Int) (w : World) (hr0 : Kd.C (Kd.int .u8) w A0 l0.length l0) (hc0 : l0.length ≤ c0) (h : sacristylaw01_Num.f k l0 = some r) :
  Calls Try.prog 40 #[.slice A0 l0.length c0] w fun e w' => ∃ v0_ : Value,e = .returned (.agg #[v0_]) ∧ Kd.V (Kd.int .u32) 23 w' w.heap.size (fun k_ => (w.heap.size ≤ k_)) v0_ r ∧ Below w.heap.size w w':=by
 have hu38:=Try.underlying38
 have HR0:=Aside0.mk hr0
 have HC0:=Aside0.mk hc0
 clear hr0 hc0
 have HB:=Aside0.mk (Below.refl w.heap.size w)
 have H : (if 0 ≤ (mn (l0.length : Int) 48) then (if (mn (l0.length : Int) 48) ≤ (l0.length : Int) then ((nat_FromBytes.f k (l0.take ((mn (l0.length : Int) 48) : Int).toNat)).bind fun bt506 => (some bt506.1)) else (none)) else (none)) = some r:=h
 clear h
 obtain ⟨ji2,hji2⟩ : ∃ j_ : Int,(mn (l0.length : Int) 48) = j_:=⟨_,rfl⟩
 replace H : (if 0 ≤ (ji2) then (if (ji2) ≤ (l0.length : Int) then ((nat_FromBytes.f k (l0.take ((ji2) : Int).toNat)).bind fun bt506 => (some bt506.1)) else (none)) else (none)) = some r:=by first|(rw [hji2] at H;exact H)|(simp only [hji2] at H ⊢;exact H)
 (try (have hji2h : ji2 ≤ 48:=by (rw [← hji2];unfold mn;(repeat' split) <;> omega)))
 (try (have hji2g : ji2 ≤ 64:=by omega))
 (try (have hji2l : 0 ≤ ji2:=by (rw [← hji2];unfold mn;(repeat' split) <;> omega)))
 (try (have hji2m : 0 ≤ ji2:=by omega))
 have hji2_ : (if 48 < (l0.length : Int) then 48 else (l0.length : Int)) = ji2:=hji2
 by_cases c3 : 0 ≤ (ji2)
 ·rw [if_pos c3] at H
  have c3b0:=eq_true c3
  have c3b1 : decide (0 ≤ (ji2)) = true:=decide_eq_true c3
  clear c3
  by_cases c4 : (ji2) ≤ (l0.length : Int)
  ·rw [if_pos c4] at H
   have c4b0:=eq_true c4
   have c4b1 : decide ((ji2) ≤ (l0.length : Int)) = true:=decide_eq_true c4
   clear c4
   replace H:=Option.bind_eq_some_iff.mp H
   obtain ⟨⟨t506,t509⟩,A50,H⟩:=H
   replace H : (some t506) = some r:=H
   have A5:=Aside0.mk A50
   clear A50
   obtain rfl:=Option.some.inj H
   go_enter Try.func40,Try.ntmps40
   go_wp2_with (first|((with_reducible refine gate_dst (N:=2) rfl ?_);refine box_event ?hg (N:=2) ?hd (cs:=#[.slice none 0 0]) (t:=38) ?hr ?_;(case hd => rfl);(case hg => rfl);(case hr => first|(go_simp;done)|(go_simp;rfl));intro gb504 hg w6 hbox hb;have n0_:=Aside0.mk (below_step (by repeat (first|(with_reducible first|exact HB.out|apply below_alloc|apply pw_below_drewN|apply below_drew1)|exact HB.out)) hb);have n1_:=Aside0.mk (hbox);have n2_:=Aside0.mk ((by rw [hg];exact (below_size (by repeat (first|(with_reducible first|exact HB.out|apply below_alloc|apply pw_below_drewN|apply below_drew1)|exact HB.out))) : w.heap.size ≤ gb504));have n3_:=Aside0.mk ((by rw [hg];exact (below_size (by repeat (first|(with_reducible first|exact HB.out|apply below_alloc|apply pw_below_drewN|apply below_drew1)|exact HB.out))) : w.heap.size ≤ gb504));clear HB;have HB:=n0_;have BK504:=n1_;have GW504:=n2_;have GE504:=n3_;clear n0_ n1_ n2_ n3_;clear hb hbox hg;obtain ⟨i07,hi07,_,hsz7,_⟩:=info_parts info5;obtain ⟨hcut7,hA7,hC7⟩:=print_take_of (P:=Try.prog) (Value.int .u8) 0 22 5 .i64 Try.underlying22 hi07 hsz7 A0 c0 l0 (ji2) (of_decide_eq_true (by first|(with_reducible assumption)|assumption)) (of_decide_eq_true (by first|(with_reducible assumption)|assumption)) HC0.out;have HR505:=Aside0.mk (Kd.C_of_reads (h1:=fun _ => rfl) (hA7 _ (Kd.reads_of_C HR0.out)));have HC505:=Aside0.mk hC7;clear hA7 hC7 hi07 hsz7)|((with_reducible refine gate_callee (f:=35) rfl ?_);refine goesL_ (some 11) rfl rfl Try.func35 (by kernel_rfl) rfl #[.slice A0 (l0.take ((ji2) : Int).toNat).length c0] rfl (by (try simp only [List.map_toArray,List.map_cons,List.map_nil]);first|done|(rw [show (l0.take ((ji2) : Int).toNat).length = (ji2).toNat from (by rw [List.length_take];have h_ : ((ji2) : Int) ≤ (l0.length : Int):=of_decide_eq_true (by first|(with_reducible assumption)|assumption);omega)] <;> rfl)|(simp only [hji2];rfl)|rfl|(simp only [List.length_drop,List.length_take];rfl)) ?_;(with_reducible refine (nat_FromBytes.calls k _ _ (l0.take ((ji2) : Int).toNat) t506 t509 _ ?side1 ?side2 A5.out).mono ?_);(case side1 => repeat (first|exact (Kd.C_below HR505.out HB.out)|(with_reducible refine Kd.C_alloc ?_ _)|(with_reducible refine Kd.C_drewN ?_ _)|(with_reducible refine Kd.C_drew ?_)));(case side2 => exact HC505.out);rintro e w8 ⟨v507,rfl,ho0,hb⟩;refine ⟨_,rfl,?_⟩;have n0_:=Aside0.mk (Kd.V_lower (Kd.V_mono (ok':=fun k_ => (w.heap.size ≤ k_) ∧ k_ ≠ gb504) ho0 (fun k_ hk_ => ⟨(Nat.le_trans (below_size (by repeat (first|(with_reducible first|exact HB.out|apply below_alloc|apply pw_below_drewN|apply below_drew1|refine below_set ?_ GE504.out)|exact HB.out))) hk_),(Kd.freshB (g:=gb504) (o:=.cells #[.slice none 0 0] 38 (0,0)) (by (with_reducible repeat (first|refine blk_drewN ?_ _|refine blk_drew ?_|refine blk_alloc ?_ _));exact BK504.out) k_ hk_)⟩)) (below_size (by repeat (first|(with_reducible first|exact HB.out|apply below_alloc|apply pw_below_drewN|apply below_drew1|refine below_set ?_ GE504.out)|exact HB.out))));have n1_:=Aside0.mk (blk_below (g:=gb504) (o:=.cells #[.slice none 0 0] 38 (0,0)) (by (with_reducible repeat (first|refine blk_drewN ?_ _|refine blk_drew ?_|refine blk_alloc ?_ _));exact BK504.out) hb);have n2_:=Aside0.mk (below_step (by repeat (first|(with_reducible first|exact HB.out|apply below_alloc|apply pw_below_drewN|apply below_drew1|refine below_set ?_ GE504.out)|exact HB.out)) hb);clear BK504;clear HB;have HO508:=n0_;have BK504:=n1_;have HB:=n2_;clear n0_ n1_ n2_;(try clear hb);(try clear hb2);(try clear hk);(try clear hi);(try clear ho0))|((with_reducible refine gate_dst (N:=3) rfl ?_);refine box_event ?hg (N:=3) ?hd (cs:=#[.slice none 0 0]) (t:=38) ?hr ?_;(case hd => rfl);(case hg => rfl);(case hr => first|(go_simp;done)|(go_simp;rfl));intro gb510 hg w9 hbox hb;have n0_:=Aside0.mk (Kd.V_below (Kd.V_elderB (by (with_reducible repeat (first|apply Kd.V_alloc|apply Kd.V_drewN|apply Kd.V_drew));exact HO508.out) gb510 (Nat.le_of_eq hg.symm)) hb);have n1_:=Aside0.mk (blk_below (g:=gb504) (o:=.cells #[.slice none 0 0] 38 (0,0)) (by (with_reducible repeat (first|refine blk_drewN ?_ _|refine blk_drew ?_|refine blk_alloc ?_ _));exact BK504.out) hb);have n2_:=Aside0.mk (below_step (by repeat (first|(with_reducible first|exact HB.out|apply below_alloc|apply pw_below_drewN|apply below_drew1|refine below_set ?_ GE504.out)|exact HB.out)) hb);have n3_:=Aside0.mk (hbox);have n4_:=Aside0.mk ((by rw [hg];exact (below_size (by repeat (first|(with_reducible first|exact HB.out|apply below_alloc|apply pw_below_drewN|apply below_drew1|refine below_set ?_ GE504.out)|exact HB.out))) : w.heap.size ≤ gb510));have n5_:=Aside0.mk ((by rw [hg];exact (below_size (by repeat (first|(with_reducible first|exact HB.out|apply below_alloc|apply pw_below_drewN|apply below_drew1|refine below_set ?_ GE504.out)|exact HB.out))) : w.heap.size ≤ gb510));have n6_:=Aside0.mk ((by rw [hg];exact Nat.ne_of_lt (blk_lt (g:=gb504) (o:=.cells #[.slice none 0 0] 38 (0,0)) (by (with_reducible repeat (first|refine blk_drewN ?_ _|refine blk_drew ?_|refine blk_alloc ?_ _));exact BK504.out)) : gb504 ≠ gb510));have n7_:=Aside0.mk ((by rw [hg];exact Nat.ne_of_gt (blk_lt (g:=gb504) (o:=.cells #[.slice none 0 0] 38 (0,0)) (by (with_reducible repeat (first|refine blk_drewN ?_ _|refine blk_drew ?_|refine blk_alloc ?_ _));exact BK504.out)) : gb510 ≠ gb504));clear HO508;clear BK504;clear HB;have HO508:=n0_;have BK504:=n1_;have HB:=n2_;have BK510:=n3_;have GW510:=n4_;have GE510:=n5_;have NB504_510:=n6_;have NB510_504:=n7_;clear n0_ n1_ n2_ n3_ n4_ n5_ n6_ n7_;clear hb hbox hg;obtain ⟨Ao10,co10,eo10⟩:=Kd.V_slice HO508.out;subst eo10;have hnb11:=NB510_504.out;have hnc11:=NB504_510.out;have hcz12_0 : w9.cell? ⟨gb510,0,none⟩ = some (.slice none 0 0):=(blk_cell BK510.out 0).trans rfl;have hfz12_0:=blk_frozen BK510.out 0;have hcz13_0 : w9.cell? ⟨gb504,0,none⟩ = some (.slice none 0 0):=(blk_cell BK504.out 0).trans rfl;have hfz13_0:=blk_frozen BK504.out 0))
   refine bodyPost_ret (results_cell_row rfl _ _ gb504 38 #[.slice Ao10 t506.length co10] (0,0) _ rfl (by (with_reducible repeat (first|refine blk_drewN ?_ _|refine blk_drew ?_|refine blk_alloc ?_ _));refine blk_put (cs:=#[.slice none 0 0]) ?_ 0 _ rfl;(with_reducible repeat (first|refine blk_drewN ?_ _|refine blk_drew ?_|refine blk_alloc ?_ _));refine blk_far ?_ NB504_510.out _;(with_reducible repeat (first|refine blk_drewN ?_ _|refine blk_drew ?_|refine blk_alloc ?_ _));exact BK504.out) Try.underlying38 rfl (by kernel_rfl)) rfl ?_
   exact ⟨_,by first|rfl|(simp [errW_none,errW_some] <;> rfl)|(simp only [← hji2];first|rfl|(simp [errW_none,errW_some] <;> rfl))|(simp [*,errW_none,errW_some] <;> rfl),by (with_reducible repeat (first|apply Kd.V_alloc|apply Kd.V_drewN|apply Kd.V_drew));exact Kd.V_mono (Kd.V_far (p:=⟨gb504,0,none⟩) (Kd.V_far (p:=⟨gb510,0,none⟩) (Kd.V_mono (Kd.V_mono HO508.out (fun k_ hk => (⟨hk,hk.2⟩ : _ ∧ k_ ≠ gb510))) (fun k_ hk => (⟨hk,hk.1.1.2⟩ : _ ∧ k_ ≠ gb504))) (fun _ hk => hk.1.2) (.slice Ao10 t506.length co10)) (fun _ hk => hk.2) (.slice Ao10 t506.length co10)) (fun _ hk => hk.1.1.1.1),by repeat (first|(with_reducible first|exact HB.out|apply below_alloc|apply pw_below_drewN|apply below_drew1|refine below_set ?_ GE504.out|refine below_set ?_ GE510.out)|exact HB.out)⟩
  ·rw [if_neg c4] at H
   exact absurd H (by simp)
 ·rw [if_neg c3] at H
  exact absurd H (by simp)
end Go.Proofs.Yteejcpbngnojkaa.P
end
section
namespace Go.Proofs.Yteejcpbngnojkaa.P
open Go.RowKit Go.Proofs.YteejcpbngnojkaaW.PrintWords Go.Proofs.YteejcpbngnojkaaW.PrintLast Go.Proofs.YteejcpbngnojkaaW.PrintMore
attribute [local go_sem] max2_int min2_int max_two min_two max_three min_three max_four min_four
set_option linter.unusedVariables false
set_option linter.unusedSimpArgs false
def sacristyref01_Trim.l0 : Nat → List Bool → Option (List Bool)
 |0,_ => none
 |k + 1,x0 => if (x0.length : Int) > 0 then (if 0 ≤ (wrap64 ((x0.length : Int) - 1)) then (if (wrap64 ((x0.length : Int) - 1)) < (x0.length : Int) then (if (rdOf false x0 (wrap64 ((x0.length : Int) - 1)) = true) then (some x0) else (if (wrap64 ((x0.length : Int) - 1)) ≤ (x0.length : Int) then (sacristyref01_Trim.l0 k (x0.take ((wrap64 ((x0.length : Int) - 1)) : Int).toNat)) else (none))) else (none)) else (none)) else (some x0)
def sacristyref01_Trim.f (k : Nat) (l0 : List Bool) : Option (List Bool):=sacristyref01_Trim.l0 k l0
theorem sacristyref01_Trim.mono_l : ∀ k,(∀ y0,LeO (sacristyref01_Trim.l0 k y0) (sacristyref01_Trim.l0 (k + 1) y0))
 |0 => fun _ r h => by simp [sacristyref01_Trim.l0] at h
 |k + 1 => by
  have ih0:=sacristyref01_Trim.mono_l k
  ·intro y0
   unfold sacristyref01_Trim.l0
   repeat' first
   |(with_reducible exact ih0 _)
   |(with_reducible exact LeO.refl _)
   |(with_reducible exact LeO.none _)
   |(with_reducible refine LeO.ite ?_ ?_)
   |(with_reducible refine LeO.bind ?_ (fun _ => ?_))
   |exact ih0 _
   |exact LeO.none _
   |refine LeO.ite ?_ ?_
   |refine LeO.bind ?_ (fun _ => ?_)
theorem sacristyref01_Trim.mono : ∀ a0 k,LeO (sacristyref01_Trim.f k a0) (sacristyref01_Trim.f (k + 1) a0):=by
 intro a0 k
 have ih0:=sacristyref01_Trim.mono_l k
 unfold sacristyref01_Trim.f
 repeat' first
   |(with_reducible exact ih0 _)
   |(with_reducible exact LeO.refl _)
   |(with_reducible exact LeO.none _)
   |(with_reducible refine LeO.ite ?_ ?_)
   |(with_reducible refine LeO.bind ?_ (fun _ => ?_))
   |exact ih0 _
   |exact LeO.none _
   |refine LeO.ite ?_ ?_
   |refine LeO.bind ?_ (fun _ => ?_)
set_option maxHeartbeats 8000000 in
set_option maxRecDepth 100000 in
theorem sacristyref01_Trim.calls (k : Nat) (P0_ : Nat → Prop) (A0 : Option Addr) (c0 : Nat) (l0 : List Bool) (r : List Bool) (w : World) (hs0 : Kd.V Kd.bool 4 w w.heap.size (fun k_ => P0_ k_) (.slice A0 l0.length c0) l0) (h : sacristyref01_Trim.f k l0 = some r) :
  Calls Try.prog 111 #[.slice A0 l0.length c0] w fun e w' => ∃ v0_ : Value,e = .returned (v0_) ∧ Kd.V Kd.bool 4 w' w.heap.size (fun k_ => (P0_ k_ ∨ w.heap.size ≤ k_)) v0_ r ∧ Below w.heap.size w w':=by
 have HO0:=Aside0.mk (show Kd.V Kd.bool 4 w w.heap.size (fun k_ => (P0_ k_ ∨ w.heap.size ≤ k_)) (.slice A0 l0.length c0) l0 from Kd.V_mono hs0 (fun k_ hk => .inl hk))
 have HB:=Aside0.mk (Below.refl w.heap.size w)
 have H : (sacristyref01_Trim.l0 k l0) = some r:=h
 clear h
 have H':=Aside0.mk H
 clear H
 go_enter Try.func111,Try.ntmps111
 go_wp2
 go_loopg [0] k (fun kq v0 w' => ∃ (x0_1 : List Bool),Aside0 (sacristyref01_Trim.l0 kq x0_1 = some r) ∧ Aside0 (kq ≤ k) ∧ Aside0 (Kd.V Kd.bool 4 w' w.heap.size (fun k_ => (P0_ k_ ∨ w.heap.size ≤ k_)) v0 x0_1) ∧ Aside0 (Below w.heap.size w w'))
 case atStart => exact ⟨(l0),H',⟨Nat.le_refl _⟩,⟨by (with_reducible repeat (first|apply Kd.V_alloc|apply Kd.V_drewN|apply Kd.V_drew));exact HO0.out⟩,⟨by repeat (first|(with_reducible first|exact HB.out|apply below_alloc|apply pw_below_drewN|apply below_drew1)|exact HB.out)⟩⟩
 case round =>
  clear H'
  try clear c1
  obtain ⟨x0_1,HA,HK1,HO_0,HB⟩:=hrel
  cases gk with
  |zero => exact absurd HA.out (by simp [sacristyref01_Trim.l0])
  |succ k1 =>
   have H:=HA.out
   clear HA
   simp only [sacristyref01_Trim.l0] at H
   by_cases c2 : (x0_1.length : Int) > 0
   ·rw [if_pos c2] at H
    have c2b0 : decide (0 < (x0_1.length : Int)) = true:=decide_eq_true c2
    have c2b1 : decide (0 < x0_1.length) = true:=decide_eq_true (by omega)
    clear c2
    obtain ⟨ji3,hji3⟩ : ∃ j_ : Int,(wrap64 ((x0_1.length : Int) - 1)) = j_:=⟨_,rfl⟩
    replace H : (if 0 ≤ (ji3) then (if (ji3) < (x0_1.length : Int) then (if (rdOf false x0_1 (ji3) = true) then (some x0_1) else (if (ji3) ≤ (x0_1.length : Int) then (sacristyref01_Trim.l0 k1 (x0_1.take ((ji3) : Int).toNat)) else (none))) else (none)) else (none)) = some r:=by first|(rw [hji3] at H;exact H)|(simp only [hji3] at H ⊢;exact H)
    have hji3w : (IntKind.i64.wrap ((x0_1.length : Int) - 1)) = ji3:=(i64_w _).trans hji3
    by_cases c4 : 0 ≤ (ji3)
    ·rw [if_pos c4] at H
     have c4b0 : decide (0 ≤ (ji3)) = true:=decide_eq_true c4
     clear c4
     by_cases c5 : (ji3) < (x0_1.length : Int)
     ·rw [if_pos c5] at H
      have c5b0 : decide ((ji3) < (x0_1.length : Int)) = true:=decide_eq_true c5
      clear c5
      obtain ⟨bq6,hbq6⟩ : ∃ b_ : Bool,b_ = (rdOf false x0_1 (ji3)):=⟨_,rfl⟩
      replace H : (if (bq6 = true) then (some x0_1) else (if (ji3) ≤ (x0_1.length : Int) then (sacristyref01_Trim.l0 k1 (x0_1.take ((ji3) : Int).toNat)) else (none))) = some r:=by rw [← hbq6] at H;exact H
      have Nbq6:=Aside0.mk hbq6
      clear hbq6
      by_cases c7 : (bq6 = true)
      ·subst c7
       have H1 : (some x0_1) = some r:=by rw [if_pos rfl] at H;exact H
       clear H
       have H:=H1
       clear H1
       obtain rfl:=Option.some.inj H
       obtain ⟨Ao8,co8,eo8⟩:=Kd.V_slice HO_0.out
       subst eo8
       have p453 : 0 ≤ ((ji3) : Int):=of_decide_eq_true (by first|(with_reducible assumption)|assumption)
       have q453 : (ji3) < (x0_1.length : Int):=of_decide_eq_true (by first|(with_reducible assumption)|assumption)
       obtain ⟨ad453,e453,hx453_0⟩:=Kd.at_bool (Kd.V_reads' HO_0.out).2.2 (ji3) p453 q453
       (try rw [← Nbq6.out] at hx453_0)
       cases e453
       replace p453:=eq_true p453
       replace q453:=eq_true q453
       go_wp2
       (first|go_ret|(refine ⟨_,results_tmp rfl _ _ _,?_⟩))
       exact ⟨_,by first|rfl|(simp [errW_none,errW_some] <;> rfl)|(simp only [← hji3];first|rfl|(simp [errW_none,errW_some] <;> rfl))|(simp [*,errW_none,errW_some] <;> rfl),by (with_reducible repeat (first|apply Kd.V_alloc|apply Kd.V_drewN|apply Kd.V_drew));exact HO_0.out,by repeat (first|(with_reducible first|exact HB.out|apply below_alloc|apply pw_below_drewN|apply below_drew1)|exact HB.out)⟩
      ·replace c7:=Bool.eq_false_iff.mpr c7
       subst c7
       have H1 : (if (ji3) ≤ (x0_1.length : Int) then (sacristyref01_Trim.l0 k1 (x0_1.take ((ji3) : Int).toNat)) else (none)) = some r:=by rw [if_neg (show ¬ (false = true) by decide)] at H;exact H
       clear H
       have H:=H1
       clear H1
       have c9b0:=eq_true (of_decide_eq_true (by first|(with_reducible assumption)|assumption) : 0 ≤ (ji3))
       by_cases c10 : (ji3) ≤ (x0_1.length : Int)
       ·rw [if_pos c10] at H
        have c10b0:=eq_true c10
        have c10b1 : decide ((ji3) ≤ (x0_1.length : Int)) = true:=decide_eq_true c10
        clear c10
        obtain ⟨y454,hy454⟩ : ∃ y_ : List Bool,y_ = (x0_1.take ((ji3) : Int).toNat):=⟨_,rfl⟩
        replace H : (sacristyref01_Trim.l0 k1 y454) = some r:=by first|(rw [hy454];with_reducible exact H)|(have H2_:=(Option.bind_some _ _).symm.trans H;rw [hy454];with_reducible exact H2_)|(have H2_:=(Option.bind_some _ _).symm.trans H;with_reducible exact H2_)|with_reducible exact H|(rw [hy454];exact H)|exact H
        have Ny454:=Aside0.mk hy454
        clear hy454
        have H':=Aside0.mk H
        clear H
        obtain ⟨Ao11,co11,eo11⟩:=Kd.V_slice HO_0.out
        subst eo11
        have p453 : 0 ≤ ((ji3) : Int):=of_decide_eq_true (by first|(with_reducible assumption)|assumption)
        have q453 : (ji3) < (x0_1.length : Int):=of_decide_eq_true (by first|(with_reducible assumption)|assumption)
        obtain ⟨ad453,e453,hx453_0⟩:=Kd.at_bool (Kd.V_reads' HO_0.out).2.2 (ji3) p453 q453
        (try rw [← Nbq6.out] at hx453_0)
        cases e453
        replace p453:=eq_true p453
        replace q453:=eq_true q453
        have q12 : ((ji3) : Int) ≤ ((x0_1.length : Int) : Int):=of_decide_eq_true (by first|(with_reducible assumption)|assumption)
        obtain ⟨i012,hi012,_,hsz12,_⟩:=info_parts info4
        have hroom12 : x0_1.length ≤ co11:=(Kd.V_reads' HO_0.out).2.1
        have hC12 : Kd.F Kd.bool _ _ (some ad453) x0_1.length x0_1:=(Kd.V_at (base:=w.heap.size) HO_0.out).2.2
        have hcut12:=cut_to (P:=Try.prog) 42 4 .i64 Try.underlying42 hi012 (some ad453) x0_1.length co11 (ji3) (of_decide_eq_true (by first|(with_reducible assumption)|assumption)) q12 hroom12
        have hr12:=Kd.F_take (m:=((ji3) : Int).toNat) hC12 (by omega)
        have hy12 : y454.length = ((ji3) : Int).toNat:=(by rw [Ny454.out,List.length_take];omega)
        rw [← Ny454.out] at hr12
        rw [← hy12] at hcut12
        have HO458:=Aside0.mk (show Kd.V Kd.bool 4 _ w.heap.size _ (.slice (some ad453) y454.length co11) y454 from Kd.V_mk (by omega) hr12)
        have HC458:=Aside0.mk (show y454.length ≤ co11 from by omega)
        clear hr12 hC12 hroom12 hi012 hsz12
        have KY12:=Aside0.mk hy12
        clear hy12
        replace q12:=eq_true q12
        go_wp2
        go_roundg k1
        case measure => have:=HK1.out;omega
        case rel => exact ⟨(y454),H',⟨by have:=HK1.out;omega⟩,⟨by (with_reducible repeat (first|apply Kd.V_alloc|apply Kd.V_drewN|apply Kd.V_drew));exact HO458.out⟩,⟨by repeat (first|(with_reducible first|exact HB.out|apply below_alloc|apply pw_below_drewN|apply below_drew1)|exact HB.out)⟩⟩
       ·rw [if_neg c10] at H
        exact absurd H (by simp)
     ·rw [if_neg c5] at H
      exact absurd H (by simp)
    ·rw [if_neg c4] at H
     exact absurd H (by simp)
   ·rw [if_neg c2] at H
    have c2b0 : decide (0 < (x0_1.length : Int)) = false:=decide_eq_false c2
    have c2b1 : decide (0 < x0_1.length) = false:=decide_eq_false (by omega)
    clear c2
    obtain rfl:=Option.some.inj H
    obtain ⟨Ao13,co13,eo13⟩:=Kd.V_slice HO_0.out
    subst eo13
    go_wp2
    (first|go_ret|(refine ⟨_,results_tmp rfl _ _ _,?_⟩))
    exact ⟨_,by first|rfl|(simp [errW_none,errW_some] <;> rfl)|(simp [*,errW_none,errW_some] <;> rfl),by (with_reducible repeat (first|apply Kd.V_alloc|apply Kd.V_drewN|apply Kd.V_drew));exact HO_0.out,by repeat (first|(with_reducible first|exact HB.out|apply below_alloc|apply pw_below_drewN|apply below_drew1)|exact HB.out)⟩
end Go.Proofs.Yteejcpbngnojkaa.P
end
section
namespace Go.Proofs.Yteejcpbngnojkaa.P
open Go.RowKit Go.Proofs.YteejcpbngnojkaaW.PrintWords Go.Proofs.YteejcpbngnojkaaW.PrintLast Go.Proofs.YteejcpbngnojkaaW.PrintMore
attribute [local go_sem] max2_int min2_int max_two min_two max_three min_three max_four min_four
set_option linter.unusedVariables false
set_option linter.unusedSimpArgs false
mutual
def sacristyref01_Of.l0 : Nat → List Int → List Bool → Int → Option (List Bool)
 |0,_,_,_ => none
 |k + 1,x0,x3,x4 => if x4 ≥ 0 then (sacristyref01_Of.l1 k x0 x3 x4 0) else ((sacristyref01_Trim.f k x3).bind fun t462 => (some t462))
def sacristyref01_Of.l1 : Nat → List Int → List Bool → Int → Int → Option (List Bool)
 |0,_,_,_,_ => none
 |k + 1,x0,x3,x4,x5 => if x5 < 8 then (if 0 ≤ x4 then (if x4 < (x0.length : Int) then (if 0 ≤ x5 then (if x3.length < 140737488355328 then (sacristyref01_Of.l1 k x0 (x3 ++ [((Int.tmod (shr .u8 (rd x0 x4) x5) 2) == 1)]) x4 (wrap64 (x5 + 1))) else (none)) else (none)) else (none)) else (none)) else (sacristyref01_Of.l0 k x0 x3 (wrap64 (x4 - 1)))
end
def sacristyref01_Of.f (k : Nat) (l0 : List Int) : Option (List Bool):=sacristyref01_Of.l0 k l0 (([] : List Bool)) (wrap64 ((l0.length : Int) - 1))
theorem sacristyref01_Of.mono_l : ∀ k,(∀ y0 y1 y2,LeO (sacristyref01_Of.l0 k y0 y1 y2) (sacristyref01_Of.l0 (k + 1) y0 y1 y2)) ∧ (∀ y0 y1 y2 y3,LeO (sacristyref01_Of.l1 k y0 y1 y2 y3) (sacristyref01_Of.l1 (k + 1) y0 y1 y2 y3))
 |0 => ⟨fun _ _ _ r h => by simp [sacristyref01_Of.l0] at h,fun _ _ _ _ r h => by simp [sacristyref01_Of.l1] at h⟩
 |k + 1 => by
  obtain ⟨ih0,ih1⟩:=sacristyref01_Of.mono_l k
  refine ⟨?_,?_⟩
  ·intro y0 y1 y2
   unfold sacristyref01_Of.l0
   repeat' first
   |(with_reducible exact ih0 _ _ _)
   |(with_reducible exact ih1 _ _ _ _)
   |(with_reducible exact sacristyref01_Trim.mono _ _)
   |(with_reducible exact LeO.refl _)
   |(with_reducible exact LeO.none _)
   |(with_reducible refine LeO.ite ?_ ?_)
   |(with_reducible refine LeO.bind ?_ (fun _ => ?_))
   |exact ih0 _ _ _
   |exact ih1 _ _ _ _
   |exact sacristyref01_Trim.mono _ _
   |exact LeO.none _
   |refine LeO.ite ?_ ?_
   |refine LeO.bind ?_ (fun _ => ?_)
  ·intro y0 y1 y2 y3
   unfold sacristyref01_Of.l1
   repeat' first
   |(with_reducible exact ih0 _ _ _)
   |(with_reducible exact ih1 _ _ _ _)
   |(with_reducible exact sacristyref01_Trim.mono _ _)
   |(with_reducible exact LeO.refl _)
   |(with_reducible exact LeO.none _)
   |(with_reducible refine LeO.ite ?_ ?_)
   |(with_reducible refine LeO.bind ?_ (fun _ => ?_))
   |exact ih0 _ _ _
   |exact ih1 _ _ _ _
   |exact sacristyref01_Trim.mono _ _
   |exact LeO.none _
   |refine LeO.ite ?_ ?_
   |refine LeO.bind ?_ (fun _ => ?_)
theorem sacristyref01_Of.mono : ∀ a0 k,LeO (sacristyref01_Of.f k a0) (sacristyref01_Of.f (k + 1) a0):=by
 intro a0 k
 obtain ⟨ih0,ih1⟩:=sacristyref01_Of.mono_l k
 unfold sacristyref01_Of.f
 repeat' first
   |(with_reducible exact ih0 _ _ _)
   |(with_reducible exact ih1 _ _ _ _)
   |(with_reducible exact sacristyref01_Trim.mono _ _)
   |(with_reducible exact LeO.refl _)
   |(with_reducible exact LeO.none _)
   |(with_reducible refine LeO.ite ?_ ?_)
   |(with_reducible refine LeO.bind ?_ (fun _ => ?_))
   |exact ih0 _ _ _
   |exact ih1 _ _ _ _
   |exact sacristyref01_Trim.mono _ _
   |exact LeO.none _
   |refine LeO.ite ?_ ?_
   |refine LeO.bind ?_ (fun _ => ?_)
set_option maxHeartbeats 8000000 in
set_option maxRecDepth 100000 in
theorem sacristyref01_Of.calls (k : Nat) (A0 : Option Addr) (c0 : Nat) (l0 : List Int) (r : List Bool) (w : World) (hr0 : Kd.C (Kd.int .u8) w A0 l0.length l0) (hc0 : l0.length ≤ c0) (h : sacristyref01_Of.f k l0 = some r) :
  Calls Try.prog 101 #[.slice A0 l0.length c0] w fun e w' => ∃ v0_ : Value,e = .returned (v0_) ∧ Kd.V Kd.bool 4 w' w.heap.size (fun k_ => (w.heap.size ≤ k_)) v0_ r ∧ Below w.heap.size w w':=by
 have HR0:=Aside0.mk hr0
 have HC0:=Aside0.mk hc0
 clear hr0 hc0
 have HB:=Aside0.mk (Below.refl w.heap.size w)
 have H : (sacristyref01_Of.l0 k l0 (([] : List Bool)) (wrap64 ((l0.length : Int) - 1))) = some r:=h
 clear h
 obtain ⟨y459,hy459⟩ : ∃ y_ : List Bool,y_ = (([] : List Bool)):=⟨_,rfl⟩
 replace H : (sacristyref01_Of.l0 k l0 y459 (wrap64 ((l0.length : Int) - 1))) = some r:=by first|(rw [hy459];with_reducible exact H)|(have H2_:=(Option.bind_some _ _).symm.trans H;rw [hy459];with_reducible exact H2_)|(have H2_:=(Option.bind_some _ _).symm.trans H;with_reducible exact H2_)|with_reducible exact H|(rw [hy459];exact H)|exact H
 have Ny459:=Aside0.mk hy459
 clear hy459
 have H':=Aside0.mk H
 clear H
 go_enter Try.func101,Try.ntmps101
 go_wp2_with (first|((with_reducible refine gate_dst (N:=6) rfl ?_);refine Kd.R_lit Kd.bool _ 4 ?hg (N:=6) ?hd (xs:=([] : List Bool)) (inner:=[]) (ok:=fun _ => True) (okp:=fun _ => True) ?hr ?hp (fun _ hk => hk) trivial (Below.refl _ _) (Nat.le_refl _) (by simp) ?_;(case hd => rfl);(case hg => rfl);(case hr => first|(go_simp;done)|(go_simp;rfl));(case hp => exact (Reps.none _ _));intro v460 w2 ho3 hb hg_ hnew_;clear hg_ hnew_;(first|rw [← Ny459.out] at ho3|(simp only [Int.reduceToNat] at ho3;rw [← Ny459.out] at ho3));have n0_:=Aside0.mk (Kd.R_lower (Kd.R_newM (M:=fun k_ => (w.heap.size ≤ k_)) ho3 (below_size (by repeat (first|(with_reducible first|exact HB.out|apply below_alloc|apply pw_below_drewN|apply below_drew1)|exact HB.out))) (fun k_ h_ => h_)) (below_size (by repeat (first|(with_reducible first|exact HB.out|apply below_alloc|apply pw_below_drewN|apply below_drew1)|exact HB.out))));have n1_:=Aside0.mk (below_step (by repeat (first|(with_reducible first|exact HB.out|apply below_alloc|apply pw_below_drewN|apply below_drew1)|exact HB.out)) hb);clear HB;have HO461:=n0_;have HB:=n1_;clear n0_ n1_;clear hb ho3))
 go_loopg [3,4] k (fun kq v3 v4 w' => ∃ (x3_1 : List Bool) (x4_1 : Int),v4 = .int .i64 x4_1 ∧ Aside0 (sacristyref01_Of.l0 kq l0 x3_1 x4_1 = some r) ∧ Aside0 (kq ≤ k) ∧ Aside0 (Kd.R Kd.bool 4 w' w.heap.size (fun k_ => (w.heap.size ≤ k_)) v3 x3_1) ∧ Aside0 (Below w.heap.size w w'))
 case atStart => exact ⟨(y459),(wrap64 ((l0.length : Int) - 1)),(by first|rfl|(simp;done)|(simp [*];done)),H',⟨Nat.le_refl _⟩,⟨by (with_reducible repeat (first|apply Kd.R_alloc|apply Kd.R_drewN|apply Kd.R_drew));exact Kd.R_mono HO461.out (fun _ hk => hk.1)⟩,⟨by repeat (first|(with_reducible first|exact HB.out|apply below_alloc|apply pw_below_drewN|apply below_drew1)|exact HB.out)⟩⟩
 case round =>
  clear H'
  try clear c1
  try clear p2
  obtain ⟨x3_1,x4_1,rfl,HA,HK1,HO_3,HB⟩:=hrel
  cases gk with
  |zero => exact absurd HA.out (by simp [sacristyref01_Of.l0])
  |succ k1 =>
   have H:=HA.out
   clear HA
   simp only [sacristyref01_Of.l0] at H
   by_cases c4 : x4_1 ≥ 0
   ·rw [if_pos c4] at H
    have c4b0 : decide (0 ≤ x4_1) = true:=decide_eq_true c4
    clear c4
    have H':=Aside0.mk H
    clear H
    go_wp2
    go_loopg [3,5] k1 (fun kq v3 v5 w' => ∃ (x3_2 : List Bool) (x5_2 : Int),v5 = .int .i64 x5_2 ∧ Aside0 (sacristyref01_Of.l1 kq l0 x3_2 x4_1 x5_2 = some r) ∧ Aside0 (kq ≤ k1) ∧ Aside0 (Kd.R Kd.bool 4 w' w.heap.size (fun k_ => (w.heap.size ≤ k_)) v3 x3_2) ∧ Aside0 (Below w.heap.size w w'))
    case atStart => exact ⟨(x3_1),(0),(by first|rfl|(simp;done)|(simp [*];done)),H',⟨Nat.le_refl _⟩,⟨by (with_reducible repeat (first|apply Kd.R_alloc|apply Kd.R_drewN|apply Kd.R_drew));exact HO_3.out⟩,⟨by repeat (first|(with_reducible first|exact HB.out|apply below_alloc|apply pw_below_drewN|apply below_drew1)|exact HB.out)⟩⟩
    case round =>
     clear H'
     try clear c1
     try clear p2
     try clear c4
     try clear c4b0
     try clear p2
     obtain ⟨x3_2,x5_2,rfl,HA,HK2,HO_3,HB⟩:=hrel
     cases gk with
     |zero => exact absurd HA.out (by simp [sacristyref01_Of.l1])
     |succ k2 =>
      have H:=HA.out
      clear HA
      simp only [sacristyref01_Of.l1] at H
      by_cases c5 : x5_2 < 8
      ·rw [if_pos c5] at H
       have c5b0 : decide (x5_2 < 8) = true:=decide_eq_true c5
       clear c5
       by_cases c6 : 0 ≤ x4_1
       ·rw [if_pos c6] at H
        have c6b0 : decide (0 ≤ x4_1) = true:=decide_eq_true c6
        clear c6
        by_cases c7 : x4_1 < (l0.length : Int)
        ·rw [if_pos c7] at H
         have c7b0 : decide (x4_1 < (l0.length : Int)) = true:=decide_eq_true c7
         clear c7
         by_cases c8 : 0 ≤ x5_2
         ·rw [if_pos c8] at H
          have c8b0:=eq_true c8
          have c8b1 : decide (0 ≤ x5_2) = true:=decide_eq_true c8
          clear c8
          obtain ⟨ji9,hji9⟩ : ∃ j_ : Int,(shr .u8 (rd l0 x4_1) x5_2) = j_:=⟨_,rfl⟩
          replace H : (if x3_2.length < 140737488355328 then (sacristyref01_Of.l1 k2 l0 (x3_2 ++ [((Int.tmod (ji9) 2) == 1)]) x4_1 (wrap64 (x5_2 + 1))) else (none)) = some r:=by first|(rw [hji9] at H;exact H)|(simp only [hji9] at H ⊢;exact H)
          have hji9_ : ((rd l0 x4_1) / 2 ^ min x5_2.toNat 8) = ji9:=hji9
          have hji9z : x5_2 ≤ 8 → ((rd l0 x4_1) / 2 ^ x5_2.toNat) = ji9:=shr_small hji9
          by_cases c10 : x3_2.length < 140737488355328
          ·rw [if_pos c10] at H
           have LMc10:=Aside0.mk c10
           clear c10
           obtain ⟨y466,hy466⟩ : ∃ y_ : List Bool,y_ = (x3_2 ++ [((Int.tmod (ji9) 2) == 1)]):=⟨_,rfl⟩
           replace H : (sacristyref01_Of.l1 k2 l0 y466 x4_1 (wrap64 (x5_2 + 1))) = some r:=by first|(rw [hy466];with_reducible exact H)|(have H2_:=(Option.bind_some _ _).symm.trans H;rw [hy466];with_reducible exact H2_)|(have H2_:=(Option.bind_some _ _).symm.trans H;with_reducible exact H2_)|with_reducible exact H|(rw [hy466];exact H)|exact H
           have Ny466:=Aside0.mk hy466
           clear hy466
           have H':=Aside0.mk H
           clear H
           have p465 : 0 ≤ (x4_1 : Int):=of_decide_eq_true (by first|(with_reducible assumption)|assumption)
           have q465 : x4_1 < (l0.length : Int):=of_decide_eq_true (by first|(with_reducible assumption)|assumption)
           obtain ⟨ad465,e465,hx465_0⟩:=Kd.at_int HR0.out x4_1 p465 q465
           cases e465
           replace hx465_0:=(HB.out.cell (World.block_lt_of_cell? w _ hx465_0)).trans hx465_0
           replace p465:=eq_true p465
           replace q465:=eq_true q465
           go_wp2_with (first|((with_reducible refine gate_builtin (b:=.append) (xs:=#[.tmp 18,.tmp 27]) rfl ?_);at_builtin;refine Kd.R_append Kd.bool (w0:=w) w.heap.size rfl (.tmp 18) (.tmp 27) 42 4 (.bool false) 1 rfl Try.underlying42 info4 rfl (by decide) (by omega) u3 x3_2 ((Int.tmod (ji9) 2) == 1) [.bool ((Int.tmod (ji9) 2) == 1)] (fun k_ => (w.heap.size ≤ k_)) (fun _ => False) rfl rfl ?aP (fun _ hk => hk.elim) ?aF ?aO ?aB ?aS ?aL ?_;(case aP => exact rfl);(case aB => exact (by repeat (first|(with_reducible first|exact HB.out|apply below_alloc|apply pw_below_drewN|apply below_drew1)|exact HB.out)));(case aF => exact (fun k_ hk => (Nat.le_trans (below_size (by repeat (first|(with_reducible first|exact HB.out|apply below_alloc|apply pw_below_drewN|apply below_drew1)|exact HB.out))) hk)));(case aO => exact (by (with_reducible repeat (first|apply Kd.R_alloc|apply Kd.R_drewN|apply Kd.R_drew));exact HO_3.out));(case aS => exact (below_size (by repeat (first|(with_reducible first|exact HB.out|apply below_alloc|apply pw_below_drewN|apply below_drew1)|exact HB.out))));(case aL => have:=LMc10.out;omega);intro v467 w11 ho hb hg hat;rw [← Ny466.out] at ho;have n0_:=Aside0.mk (hb);have n1_:=Aside0.mk (ho);clear HB;clear HO_3;have HB:=n0_;have HO468:=n1_;clear n0_ n1_;clear ho hb hg hat))
           go_roundg k2
           case measure => have:=HK1.out;have:=HK2.out;omega
           case rel => exact ⟨(y466),(wrap64 (x5_2 + 1)),(by first|rfl|(simp;done)|(simp [*];done)),H',⟨by have:=HK1.out;have:=HK2.out;omega⟩,⟨by (with_reducible repeat (first|apply Kd.R_alloc|apply Kd.R_drewN|apply Kd.R_drew));exact HO468.out⟩,⟨by repeat (first|(with_reducible first|exact HB.out|apply below_alloc|apply pw_below_drewN|apply below_drew1)|exact HB.out)⟩⟩
          ·rw [if_neg c10] at H
           exact absurd H (by simp)
         ·rw [if_neg c8] at H
          exact absurd H (by simp)
        ·rw [if_neg c7] at H
         exact absurd H (by simp)
       ·rw [if_neg c6] at H
        exact absurd H (by simp)
      ·rw [if_neg c5] at H
       have c5b0 : decide (x5_2 < 8) = false:=decide_eq_false c5
       clear c5
       have H':=Aside0.mk H
       clear H
       go_wp2
       go_roundg k2
       case measure => have:=HK1.out;have:=HK2.out;omega
       case rel => exact ⟨(x3_2),(wrap64 (x4_1 - 1)),(by first|rfl|(simp;done)|(simp [*];done)),H',⟨by have:=HK1.out;have:=HK2.out;omega⟩,⟨by (with_reducible repeat (first|apply Kd.R_alloc|apply Kd.R_drewN|apply Kd.R_drew));exact HO_3.out⟩,⟨by repeat (first|(with_reducible first|exact HB.out|apply below_alloc|apply pw_below_drewN|apply below_drew1)|exact HB.out)⟩⟩
   ·rw [if_neg c4] at H
    have c4b0 : decide (0 ≤ x4_1) = false:=decide_eq_false c4
    clear c4
    replace H:=Option.bind_eq_some_iff.mp H
    obtain ⟨t462,A120,H⟩:=H
    replace H : (some t462) = some r:=H
    have A12:=Aside0.mk A120
    clear A120
    obtain rfl:=Option.some.inj H
    obtain ⟨Ao13,co13,eo13⟩:=Kd.R_slice HO_3.out
    subst eo13
    go_wp2_with (first|((with_reducible refine gate_callee (f:=111) rfl ?_);refine goesL_ (some 30) rfl rfl Try.func111 (by kernel_rfl) rfl #[.slice Ao13 x3_1.length co13] rfl (by (try simp only [List.map_toArray,List.map_cons,List.map_nil]);first|done|rfl|(simp only [List.length_drop,List.length_take];rfl)) ?_;(with_reducible refine (sacristyref01_Trim.calls k1 (fun k_ => some k_ = (.slice Ao13 x3_1.length co13 : Value).ownBlock) _ _ x3_1 t462 _ ?side1 A12.out).mono ?_);(case side1 => exact Kd.R_V (Kd.R_tight rfl (HO_3.out)));rintro e w14 ⟨v463,rfl,ho0,hb⟩;refine ⟨_,rfl,?_⟩;have n0_:=Aside0.mk (Kd.R_below (by (with_reducible repeat (first|apply Kd.R_alloc|apply Kd.R_drewN|apply Kd.R_drew));exact HO_3.out) hb);have n1_:=Aside0.mk (Kd.V_lower (Kd.V_mono (ok':=fun k_ => (w.heap.size ≤ k_)) ho0 (fun k_ hk_ => Or.elim hk_ (fun hs_ => ((HO_3.out).1 k_ hs_.symm)) (fun hn_ => (Nat.le_trans (below_size (by repeat (first|(with_reducible first|exact HB.out|apply below_alloc|apply pw_below_drewN|apply below_drew1)|exact HB.out))) hn_)))) (below_size (by repeat (first|(with_reducible first|exact HB.out|apply below_alloc|apply pw_below_drewN|apply below_drew1)|exact HB.out))));have n2_:=Aside0.mk (below_step (by repeat (first|(with_reducible first|exact HB.out|apply below_alloc|apply pw_below_drewN|apply below_drew1)|exact HB.out)) hb);clear HO_3;clear HB;have HO_3:=n0_;have HO464:=n1_;have HB:=n2_;clear n0_ n1_ n2_;(try clear hb);(try clear hb2);(try clear hk);(try clear hi);(try clear ho0)))
    (first|go_ret|(refine ⟨_,results_tmp rfl _ _ _,?_⟩))
    exact ⟨_,by first|rfl|(simp [errW_none,errW_some] <;> rfl)|(simp [*,errW_none,errW_some] <;> rfl),by (with_reducible repeat (first|apply Kd.V_alloc|apply Kd.V_drewN|apply Kd.V_drew));exact HO464.out,by repeat (first|(with_reducible first|exact HB.out|apply below_alloc|apply pw_below_drewN|apply below_drew1)|exact HB.out)⟩
end Go.Proofs.Yteejcpbngnojkaa.P
end
section
namespace Go.Proofs.Yteejcpbngnojkaa.P
open Go.RowKit Go.Proofs.YteejcpbngnojkaaW.PrintWords Go.Proofs.YteejcpbngnojkaaW.PrintLast Go.Proofs.YteejcpbngnojkaaW.PrintMore
attribute [local go_sem] max2_int min2_int max_two min_two max_three min_three max_four min_four
set_option linter.unusedVariables false
set_option linter.unusedSimpArgs false
def sacristylaw01_ref.f (k : Nat) (l0 : List Int) : Option (List Bool):=if 0 ≤ (mn (l0.length : Int) 48) then (if (mn (l0.length : Int) 48) ≤ (l0.length : Int) then ((sacristyref01_Of.f k (l0.take ((mn (l0.length : Int) 48) : Int).toNat)).bind fun t512 => (some t512)) else (none)) else (none)
theorem sacristylaw01_ref.mono : ∀ a0 k,LeO (sacristylaw01_ref.f k a0) (sacristylaw01_ref.f (k + 1) a0):=by
 intro a0 k
 unfold sacristylaw01_ref.f
 repeat' first
   |(with_reducible exact sacristyref01_Of.mono _ _)
   |(with_reducible exact LeO.refl _)
   |(with_reducible exact LeO.none _)
   |(with_reducible refine LeO.ite ?_ ?_)
   |(with_reducible refine LeO.bind ?_ (fun _ => ?_))
   |exact sacristyref01_Of.mono _ _
   |exact LeO.none _
   |refine LeO.ite ?_ ?_
   |refine LeO.bind ?_ (fun _ => ?_)
set_option maxHeartbeats 8000000 in
set_option maxRecDepth 100000 in
theorem sacristylaw01_ref.calls (k : Nat) (A0 : Option Addr) (c0 : Nat) (l0 : List Int) (r : List Bool) (w : World) (hr0 : Kd.C (Kd.int .u8) w A0 l0.length l0) (hc0 : l0.length ≤ c0) (h : sacristylaw01_ref.f k l0 = some r) :
  Calls Try.prog 41 #[.slice A0 l0.length c0] w fun e w' => ∃ v0_ : Value,e = .returned (v0_) ∧ Kd.V Kd.bool 4 w' w.heap.size (fun k_ => (w.heap.size ≤ k_)) v0_ r ∧ Below w.heap.size w w':=by
 have HR0:=Aside0.mk hr0
 have HC0:=Aside0.mk hc0
 clear hr0 hc0
 have HB:=Aside0.mk (Below.refl w.heap.size w)
 have H : (if 0 ≤ (mn (l0.length : Int) 48) then (if (mn (l0.length : Int) 48) ≤ (l0.length : Int) then ((sacristyref01_Of.f k (l0.take ((mn (l0.length : Int) 48) : Int).toNat)).bind fun t512 => (some t512)) else (none)) else (none)) = some r:=h
 clear h
 obtain ⟨ji2,hji2⟩ : ∃ j_ : Int,(mn (l0.length : Int) 48) = j_:=⟨_,rfl⟩
 replace H : (if 0 ≤ (ji2) then (if (ji2) ≤ (l0.length : Int) then ((sacristyref01_Of.f k (l0.take ((ji2) : Int).toNat)).bind fun t512 => (some t512)) else (none)) else (none)) = some r:=by first|(rw [hji2] at H;exact H)|(simp only [hji2] at H ⊢;exact H)
 (try (have hji2h : ji2 ≤ 48:=by (rw [← hji2];unfold mn;(repeat' split) <;> omega)))
 (try (have hji2g : ji2 ≤ 64:=by omega))
 (try (have hji2l : 0 ≤ ji2:=by (rw [← hji2];unfold mn;(repeat' split) <;> omega)))
 (try (have hji2m : 0 ≤ ji2:=by omega))
 have hji2_ : (if 48 < (l0.length : Int) then 48 else (l0.length : Int)) = ji2:=hji2
 by_cases c3 : 0 ≤ (ji2)
 ·rw [if_pos c3] at H
  have c3b0:=eq_true c3
  have c3b1 : decide (0 ≤ (ji2)) = true:=decide_eq_true c3
  clear c3
  by_cases c4 : (ji2) ≤ (l0.length : Int)
  ·rw [if_pos c4] at H
   have c4b0:=eq_true c4
   have c4b1 : decide ((ji2) ≤ (l0.length : Int)) = true:=decide_eq_true c4
   clear c4
   replace H:=Option.bind_eq_some_iff.mp H
   obtain ⟨t512,A50,H⟩:=H
   replace H : (some t512) = some r:=H
   have A5:=Aside0.mk A50
   clear A50
   obtain rfl:=Option.some.inj H
   obtain ⟨i06,hi06,_,hsz6,_⟩:=info_parts info5
   obtain ⟨hcut6,hA6,hC6⟩:=print_take_of (P:=Try.prog) (Value.int .u8) 0 22 5 .i64 Try.underlying22 hi06 hsz6 A0 c0 l0 (ji2) (of_decide_eq_true (by first|(with_reducible assumption)|assumption)) (of_decide_eq_true (by first|(with_reducible assumption)|assumption)) HC0.out
   have HR511:=Aside0.mk (Kd.C_of_reads (h1:=fun _ => rfl) (hA6 _ (Kd.reads_of_C HR0.out)))
   have HC511:=Aside0.mk hC6
   clear hA6 hC6 hi06 hsz6
   go_enter Try.func41,Try.ntmps41
   go_wp2_with (first|((with_reducible refine gate_callee (f:=101) rfl ?_);refine goesL_ (some 8) rfl rfl Try.func101 (by kernel_rfl) rfl #[.slice A0 (l0.take ((ji2) : Int).toNat).length c0] rfl (by (try simp only [List.map_toArray,List.map_cons,List.map_nil]);first|done|(rw [show (l0.take ((ji2) : Int).toNat).length = (ji2).toNat from (by rw [List.length_take];have h_ : ((ji2) : Int) ≤ (l0.length : Int):=of_decide_eq_true (by first|(with_reducible assumption)|assumption);omega)] <;> rfl)|(simp only [hji2];rfl)|rfl|(simp only [List.length_drop,List.length_take];rfl)) ?_;(with_reducible refine (sacristyref01_Of.calls k _ _ (l0.take ((ji2) : Int).toNat) t512 _ ?side1 ?side2 A5.out).mono ?_);(case side1 => repeat (first|exact HR511.out|(with_reducible refine Kd.C_alloc ?_ _)|(with_reducible refine Kd.C_drewN ?_ _)|(with_reducible refine Kd.C_drew ?_)));(case side2 => exact HC511.out);rintro e w7 ⟨v513,rfl,ho0,hb⟩;refine ⟨_,rfl,?_⟩;have n0_:=Aside0.mk (Kd.V_lower (Kd.V_mono (ok':=fun k_ => (w.heap.size ≤ k_)) ho0 (fun k_ hk_ => (Nat.le_trans (below_size (by repeat (first|(with_reducible first|exact HB.out|apply below_alloc|apply pw_below_drewN|apply below_drew1)|exact HB.out))) hk_))) (below_size (by repeat (first|(with_reducible first|exact HB.out|apply below_alloc|apply pw_below_drewN|apply below_drew1)|exact HB.out))));have n1_:=Aside0.mk (below_step (by repeat (first|(with_reducible first|exact HB.out|apply below_alloc|apply pw_below_drewN|apply below_drew1)|exact HB.out)) hb);clear HB;have HO514:=n0_;have HB:=n1_;clear n0_ n1_;(try clear hb);(try clear hb2);(try clear hk);(try clear hi);(try clear ho0)))
   (first|go_ret|(refine ⟨_,results_tmp rfl _ _ _,?_⟩))
   exact ⟨_,by first|rfl|(simp [errW_none,errW_some] <;> rfl)|(simp only [← hji2];first|rfl|(simp [errW_none,errW_some] <;> rfl))|(simp [*,errW_none,errW_some] <;> rfl),by (with_reducible repeat (first|apply Kd.V_alloc|apply Kd.V_drewN|apply Kd.V_drew));exact HO514.out,by repeat (first|(with_reducible first|exact HB.out|apply below_alloc|apply pw_below_drewN|apply below_drew1)|exact HB.out)⟩
  ·rw [if_neg c4] at H
   exact absurd H (by simp)
 ·rw [if_neg c3] at H
  exact absurd H (by simp)
end Go.Proofs.Yteejcpbngnojkaa.P
end
section
namespace Go.Proofs.Yteejcpbngnojkaa.P
open Go.RowKit Go.Proofs.YteejcpbngnojkaaW.PrintWords Go.Proofs.YteejcpbngnojkaaW.PrintLast Go.Proofs.YteejcpbngnojkaaW.PrintMore
attribute [local go_sem] max2_int min2_int max_two min_two max_three min_three max_four min_four
set_option linter.unusedVariables false
set_option linter.unusedSimpArgs false
def nat_Nat_Gcd.l0 : Nat → List Int → List Int → Option (List Int)
 |0,_,_ => none
 |k + 1,x719000,x720000 => (nat_Nat_Zero.f x720000).bind fun t721 => (if t721 = true then (some x719000) else ((nat_Nat_Div.f k x719000 x720000).bind fun bt722 => (nat_Nat_Gcd.l0 k x720000 bt722.2.1)))
def nat_Nat_Gcd.f (k : Nat) (l0_0 : List Int) (l1_0 : List Int) : Option (List Int):=nat_Nat_Gcd.l0 k l0_0 l1_0
theorem nat_Nat_Gcd.mono_l : ∀ k,(∀ y0 y1,LeO (nat_Nat_Gcd.l0 k y0 y1) (nat_Nat_Gcd.l0 (k + 1) y0 y1))
 |0 => fun _ _ r h => by simp [nat_Nat_Gcd.l0] at h
 |k + 1 => by
  have ih0:=nat_Nat_Gcd.mono_l k
  ·intro y0 y1
   unfold nat_Nat_Gcd.l0
   repeat' first
   |(with_reducible exact ih0 _ _)
   |(with_reducible exact nat_Nat_Div.mono _ _ _)
   |(with_reducible exact LeO.refl _)
   |(with_reducible exact LeO.none _)
   |(with_reducible refine LeO.ite ?_ ?_)
   |(with_reducible refine LeO.bind ?_ (fun _ => ?_))
   |exact ih0 _ _
   |exact nat_Nat_Div.mono _ _ _
   |exact LeO.none _
   |refine LeO.ite ?_ ?_
   |refine LeO.bind ?_ (fun _ => ?_)
theorem nat_Nat_Gcd.mono : ∀ a0 a1 k,LeO (nat_Nat_Gcd.f k a0 a1) (nat_Nat_Gcd.f (k + 1) a0 a1):=by
 intro a0 a1 k
 have ih0:=nat_Nat_Gcd.mono_l k
 unfold nat_Nat_Gcd.f
 repeat' first
   |(with_reducible exact ih0 _ _)
   |(with_reducible exact nat_Nat_Div.mono _ _ _)
   |(with_reducible exact LeO.refl _)
   |(with_reducible exact LeO.none _)
   |(with_reducible refine LeO.ite ?_ ?_)
   |(with_reducible refine LeO.bind ?_ (fun _ => ?_))
   |exact ih0 _ _
   |exact nat_Nat_Div.mono _ _ _
   |exact LeO.none _
   |refine LeO.ite ?_ ?_
   |refine LeO.bind ?_ (fun _ => ?_)
set_option maxHeartbeats 8000000 in
set_option maxRecDepth 100000 in
theorem nat_Nat_Gcd.calls (k : Nat) (P0_0_ : Nat → Prop) (A0_0 : Option Addr) (c0_0 : Nat) (l0_0 : List Int) (P1_0_ : Nat → Prop) (A1_0 : Option Addr) (c1_0 : Nat) (l1_0 : List Int) (r : List Int) (w : World) (hs0_0 : Kd.V (Kd.int .u32) 23 w w.heap.size (fun k_ => P0_0_ k_) (.slice A0_0 l0_0.length c0_0) l0_0) (hs1_0 : Kd.V (Kd.int .u32) 23 w w.heap.size (fun k_ => P1_0_ k_) (.slice A1_0 l1_0.length c1_0) l1_0) (h : nat_Nat_Gcd.f k l0_0 l1_0 = some r) :
  Calls Try.prog 51 #[.agg #[.slice A0_0 l0_0.length c0_0],.agg #[.slice A1_0 l1_0.length c1_0]] w fun e w' => ∃ v0_ : Value,e = .returned (.agg #[v0_]) ∧ Kd.V (Kd.int .u32) 23 w' w.heap.size (fun k_ => ((P0_0_ k_ ∨ P1_0_ k_) ∨ w.heap.size ≤ k_)) v0_ r ∧ Below w.heap.size w w':=by
 have hu38:=Try.underlying38
 have HO0_0:=Aside0.mk (show Kd.V (Kd.int .u32) 23 w w.heap.size (fun k_ => ((P0_0_ k_ ∨ P1_0_ k_) ∨ w.heap.size ≤ k_)) (.slice A0_0 l0_0.length c0_0) l0_0 from Kd.V_mono hs0_0 (fun k_ hk => .inl (.inl hk)))
 have HO1_0:=Aside0.mk (show Kd.V (Kd.int .u32) 23 w w.heap.size (fun k_ => ((P0_0_ k_ ∨ P1_0_ k_) ∨ w.heap.size ≤ k_)) (.slice A1_0 l1_0.length c1_0) l1_0 from Kd.V_mono hs1_0 (fun k_ hk => .inl (.inr hk)))
 have HB:=Aside0.mk (Below.refl w.heap.size w)
 have H : (nat_Nat_Gcd.l0 k l0_0 l1_0) = some r:=h
 clear h
 have H':=Aside0.mk H
 clear H
 go_enter Try.func51,Try.ntmps51
 go_wp2_with (first|((with_reducible refine gate_dst (N:=2) rfl ?_);refine box_event ?hg (N:=2) ?hd (cs:=#[.slice A0_0 l0_0.length c0_0]) (t:=38) ?hr ?_;(case hd => rfl);(case hg => rfl);(case hr => first|(go_simp;done)|(go_simp;rfl));intro gb718 hg w3 hbox hb;have n0_:=Aside0.mk (Kd.V_below (Kd.V_elderB (by (with_reducible repeat (first|apply Kd.V_alloc|apply Kd.V_drewN|apply Kd.V_drew));exact HO0_0.out) gb718 (Nat.le_of_eq hg.symm)) hb);have n1_:=Aside0.mk (Kd.V_below (Kd.V_elderB (by (with_reducible repeat (first|apply Kd.V_alloc|apply Kd.V_drewN|apply Kd.V_drew));exact HO1_0.out) gb718 (Nat.le_of_eq hg.symm)) hb);have n2_:=Aside0.mk (below_step (by repeat (first|(with_reducible first|exact HB.out|apply below_alloc|apply pw_below_drewN|apply below_drew1)|exact HB.out)) hb);have n3_:=Aside0.mk (hbox);have n4_:=Aside0.mk ((by rw [hg];exact (below_size (by repeat (first|(with_reducible first|exact HB.out|apply below_alloc|apply pw_below_drewN|apply below_drew1)|exact HB.out))) : w.heap.size ≤ gb718));have n5_:=Aside0.mk ((by rw [hg];exact (below_size (by repeat (first|(with_reducible first|exact HB.out|apply below_alloc|apply pw_below_drewN|apply below_drew1)|exact HB.out))) : w.heap.size ≤ gb718));clear HO0_0;clear HO1_0;clear HB;have HO0_0:=n0_;have HO1_0:=n1_;have HB:=n2_;have BK718:=n3_;have GW718:=n4_;have GE718:=n5_;clear n0_ n1_ n2_ n3_ n4_ n5_;clear hb hbox hg)|((with_reducible refine gate_dst (N:=3) rfl ?_);refine box_event ?hg (N:=3) ?hd (cs:=#[.slice A1_0 l1_0.length c1_0]) (t:=38) ?hr ?_;(case hd => rfl);(case hg => rfl);(case hr => first|(go_simp;done)|(go_simp;rfl));intro gb719 hg w4 hbox hb;have n0_:=Aside0.mk (Kd.V_below (Kd.V_elderB (by (with_reducible repeat (first|apply Kd.V_alloc|apply Kd.V_drewN|apply Kd.V_drew));exact HO0_0.out) gb719 (Nat.le_of_eq hg.symm)) hb);have n1_:=Aside0.mk (Kd.V_below (Kd.V_elderB (by (with_reducible repeat (first|apply Kd.V_alloc|apply Kd.V_drewN|apply Kd.V_drew));exact HO1_0.out) gb719 (Nat.le_of_eq hg.symm)) hb);have n2_:=Aside0.mk (blk_below (g:=gb718) (o:=.cells #[.slice A0_0 l0_0.length c0_0] 38 (0,0)) (by (with_reducible repeat (first|refine blk_drewN ?_ _|refine blk_drew ?_|refine blk_alloc ?_ _));exact BK718.out) hb);have n3_:=Aside0.mk (below_step (by repeat (first|(with_reducible first|exact HB.out|apply below_alloc|apply pw_below_drewN|apply below_drew1|refine below_set ?_ GE718.out)|exact HB.out)) hb);have n4_:=Aside0.mk (hbox);have n5_:=Aside0.mk ((by rw [hg];exact (below_size (by repeat (first|(with_reducible first|exact HB.out|apply below_alloc|apply pw_below_drewN|apply below_drew1|refine below_set ?_ GE718.out)|exact HB.out))) : w.heap.size ≤ gb719));have n6_:=Aside0.mk ((by rw [hg];exact (below_size (by repeat (first|(with_reducible first|exact HB.out|apply below_alloc|apply pw_below_drewN|apply below_drew1|refine below_set ?_ GE718.out)|exact HB.out))) : w.heap.size ≤ gb719));have n7_:=Aside0.mk ((by rw [hg];exact Nat.ne_of_lt (blk_lt (g:=gb718) (o:=.cells #[.slice A0_0 l0_0.length c0_0] 38 (0,0)) (by (with_reducible repeat (first|refine blk_drewN ?_ _|refine blk_drew ?_|refine blk_alloc ?_ _));exact BK718.out)) : gb718 ≠ gb719));have n8_:=Aside0.mk ((by rw [hg];exact Nat.ne_of_gt (blk_lt (g:=gb718) (o:=.cells #[.slice A0_0 l0_0.length c0_0] 38 (0,0)) (by (with_reducible repeat (first|refine blk_drewN ?_ _|refine blk_drew ?_|refine blk_alloc ?_ _));exact BK718.out)) : gb719 ≠ gb718));clear HO0_0;clear HO1_0;clear BK718;clear HB;have HO0_0:=n0_;have HO1_0:=n1_;have BK718:=n2_;have HB:=n3_;have BK719:=n4_;have GW719:=n5_;have GE719:=n6_;have NB718_719:=n7_;have NB719_718:=n8_;clear n0_ n1_ n2_ n3_ n4_ n5_ n6_ n7_ n8_;clear hb hbox hg)|((with_reducible refine gate_dst (N:=4) rfl ?_);refine box_event ?hg (N:=4) ?hd (cs:=#[.slice none 0 0]) (t:=38) ?hr ?_;(case hd => rfl);(case hg => rfl);(case hr => first|(go_simp;done)|(go_simp;rfl));intro gb720 hg w5 hbox hb;have n0_:=Aside0.mk (Kd.V_below (Kd.V_elderB (by (with_reducible repeat (first|apply Kd.V_alloc|apply Kd.V_drewN|apply Kd.V_drew));exact HO0_0.out) gb720 (Nat.le_of_eq hg.symm)) hb);have n1_:=Aside0.mk (Kd.V_below (Kd.V_elderB (by (with_reducible repeat (first|apply Kd.V_alloc|apply Kd.V_drewN|apply Kd.V_drew));exact HO1_0.out) gb720 (Nat.le_of_eq hg.symm)) hb);have n2_:=Aside0.mk (blk_below (g:=gb718) (o:=.cells #[.slice A0_0 l0_0.length c0_0] 38 (0,0)) (by (with_reducible repeat (first|refine blk_drewN ?_ _|refine blk_drew ?_|refine blk_alloc ?_ _));exact BK718.out) hb);have n3_:=Aside0.mk (blk_below (g:=gb719) (o:=.cells #[.slice A1_0 l1_0.length c1_0] 38 (0,0)) (by (with_reducible repeat (first|refine blk_drewN ?_ _|refine blk_drew ?_|refine blk_alloc ?_ _));exact BK719.out) hb);have n4_:=Aside0.mk (below_step (by repeat (first|(with_reducible first|exact HB.out|apply below_alloc|apply pw_below_drewN|apply below_drew1|refine below_set ?_ GE718.out|refine below_set ?_ GE719.out)|exact HB.out)) hb);have n5_:=Aside0.mk (hbox);have n6_:=Aside0.mk ((by rw [hg];exact (below_size (by repeat (first|(with_reducible first|exact HB.out|apply below_alloc|apply pw_below_drewN|apply below_drew1|refine below_set ?_ GE718.out|refine below_set ?_ GE719.out)|exact HB.out))) : w.heap.size ≤ gb720));have n7_:=Aside0.mk ((by rw [hg];exact (below_size (by repeat (first|(with_reducible first|exact HB.out|apply below_alloc|apply pw_below_drewN|apply below_drew1|refine below_set ?_ GE718.out|refine below_set ?_ GE719.out)|exact HB.out))) : w.heap.size ≤ gb720));have n8_:=Aside0.mk ((by rw [hg];exact Nat.ne_of_lt (blk_lt (g:=gb718) (o:=.cells #[.slice A0_0 l0_0.length c0_0] 38 (0,0)) (by (with_reducible repeat (first|refine blk_drewN ?_ _|refine blk_drew ?_|refine blk_alloc ?_ _));exact BK718.out)) : gb718 ≠ gb720));have n9_:=Aside0.mk ((by rw [hg];exact Nat.ne_of_gt (blk_lt (g:=gb718) (o:=.cells #[.slice A0_0 l0_0.length c0_0] 38 (0,0)) (by (with_reducible repeat (first|refine blk_drewN ?_ _|refine blk_drew ?_|refine blk_alloc ?_ _));exact BK718.out)) : gb720 ≠ gb718));have n10_:=Aside0.mk ((by rw [hg];exact Nat.ne_of_lt (blk_lt (g:=gb719) (o:=.cells #[.slice A1_0 l1_0.length c1_0] 38 (0,0)) (by (with_reducible repeat (first|refine blk_drewN ?_ _|refine blk_drew ?_|refine blk_alloc ?_ _));exact BK719.out)) : gb719 ≠ gb720));have n11_:=Aside0.mk ((by rw [hg];exact Nat.ne_of_gt (blk_lt (g:=gb719) (o:=.cells #[.slice A1_0 l1_0.length c1_0] 38 (0,0)) (by (with_reducible repeat (first|refine blk_drewN ?_ _|refine blk_drew ?_|refine blk_alloc ?_ _));exact BK719.out)) : gb720 ≠ gb719));clear HO0_0;clear HO1_0;clear BK718;clear BK719;clear HB;have HO0_0:=n0_;have HO1_0:=n1_;have BK718:=n2_;have BK719:=n3_;have HB:=n4_;have BK720:=n5_;have GW720:=n6_;have GE720:=n7_;have NB718_720:=n8_;have NB720_718:=n9_;have NB719_720:=n10_;have NB720_719:=n11_;clear n0_ n1_ n2_ n3_ n4_ n5_ n6_ n7_ n8_ n9_ n10_ n11_;clear hb hbox hg))
 simp only [Act.put,List.setIfInBounds_toArray,List.set_cons_zero,List.set_cons_succ]
 go_loopg [] k (fun kq w' => ∃ (x719000_1 : List Int) (x720000_1 : List Int) (u719000 : Value) (u720000 : Value),Aside0 (nat_Nat_Gcd.l0 kq x719000_1 x720000_1 = some r) ∧ Aside0 (kq ≤ k) ∧ Aside0 (Kd.V (Kd.int .u32) 23 w' w.heap.size (fun k_ => ((P0_0_ k_ ∨ P1_0_ k_) ∨ w.heap.size ≤ k_) ∧ k_ ≠ gb718 ∧ k_ ≠ gb719 ∧ k_ ≠ gb720) u719000 x719000_1) ∧ Aside0 (Kd.V (Kd.int .u32) 23 w' w.heap.size (fun k_ => ((P0_0_ k_ ∨ P1_0_ k_) ∨ w.heap.size ≤ k_) ∧ k_ ≠ gb718 ∧ k_ ≠ gb719 ∧ k_ ≠ gb720) u720000 x720000_1) ∧ Aside0 (w'.heap[gb718]? = some (.cells #[u719000] 38 (0,0))) ∧ Aside0 (w'.heap[gb719]? = some (.cells #[u720000] 38 (0,0))) ∧ Aside0 (w'.heap[gb720]? = some (.cells #[(.slice none 0 0)] 38 (0,0))) ∧ Aside0 (Below w.heap.size w w'))
 case atStart => exact ⟨(l0_0),(l1_0),(.slice A0_0 l0_0.length c0_0),(.slice A1_0 l1_0.length c1_0),H',⟨Nat.le_refl _⟩,⟨by (with_reducible repeat (first|apply Kd.V_alloc|apply Kd.V_drewN|apply Kd.V_drew));exact Kd.V_mono HO0_0.out (fun _ hk => ⟨hk.1.1.1,⟨hk.1.1.2,⟨hk.1.2,hk.2⟩⟩⟩)⟩,⟨by (with_reducible repeat (first|apply Kd.V_alloc|apply Kd.V_drewN|apply Kd.V_drew));exact Kd.V_mono HO1_0.out (fun _ hk => ⟨hk.1.1.1,⟨hk.1.1.2,⟨hk.1.2,hk.2⟩⟩⟩)⟩,⟨by (with_reducible repeat (first|refine blk_drewN ?_ _|refine blk_drew ?_|refine blk_alloc ?_ _));exact BK718.out⟩,⟨by (with_reducible repeat (first|refine blk_drewN ?_ _|refine blk_drew ?_|refine blk_alloc ?_ _));exact BK719.out⟩,⟨by (with_reducible repeat (first|refine blk_drewN ?_ _|refine blk_drew ?_|refine blk_alloc ?_ _));exact BK720.out⟩,⟨by repeat (first|(with_reducible first|exact HB.out|apply below_alloc|apply pw_below_drewN|apply below_drew1|refine below_set ?_ GE718.out|refine below_set ?_ GE719.out|refine below_set ?_ GE720.out)|exact HB.out)⟩⟩
 case round =>
  clear H'
  try clear c1
  try clear p2
  try clear c5
  obtain ⟨x719000_1,x720000_1,u719000,u720000,HA,HK1,HO_719000,HO_720000,BK718,BK719,BK720,HB⟩:=hrel
  cases gk with
  |zero => exact absurd HA.out (by simp [nat_Nat_Gcd.l0])
  |succ k1 =>
   have H:=HA.out
   clear HA
   simp only [nat_Nat_Gcd.l0] at H
   replace H:=Option.bind_eq_some_iff.mp H
   obtain ⟨t721,A60,H⟩:=H
   replace H : (if t721 = true then (some x719000_1) else ((nat_Nat_Div.f k1 x719000_1 x720000_1).bind fun bt722 => (nat_Nat_Gcd.l0 k1 x720000_1 bt722.2.1))) = some r:=H
   have A6:=Aside0.mk A60
   clear A60
   by_cases c7 : t721 = true
   ·subst c7
    have H1 : (some x719000_1) = some r:=by rw [if_pos rfl] at H;exact H
    clear H
    have H:=H1
    clear H1
    obtain rfl:=Option.some.inj H
    have hnb8:=NB719_718.out
    have hnc8:=NB718_719.out
    have hnb9:=NB719_720.out
    have hnc9:=NB720_719.out
    have hcz10_0 : wr.cell? ⟨gb719,0,none⟩ = some (u720000):=(blk_cell BK719.out 0).trans rfl
    have hfz10_0:=blk_frozen BK719.out 0
    obtain ⟨Ao11,co11,eo11⟩:=Kd.V_slice HO_720000.out
    subst eo11
    go_wp2_with (first|((with_reducible refine gate_callee (f:=44) rfl ?_);refine goesL_ (some 9) rfl rfl Try.func44 (by kernel_rfl) rfl #[.agg #[.slice Ao11 x720000_1.length co11]] rfl (by (try simp only [List.map_toArray,List.map_cons,List.map_nil]);first|done|rfl|(simp only [List.length_drop,List.length_take];rfl)) ?_;(with_reducible refine (nat_Nat_Zero.calls _ _ x720000_1 true _ ?side1 ?side2 A6.out).mono ?_);(case side1 => repeat (first|exact (Kd.V_reads' HO_720000.out).2.2|(with_reducible refine Kd.C_alloc ?_ _)|(with_reducible refine Kd.C_drewN ?_ _)|(with_reducible refine Kd.C_drew ?_)));(case side2 => exact (Kd.V_reads' HO_720000.out).2.1);rintro e w12 ⟨rfl,hb⟩;refine ⟨_,rfl,?_⟩;have n0_:=Aside0.mk (Kd.V_below (by (with_reducible repeat (first|apply Kd.V_alloc|apply Kd.V_drewN|apply Kd.V_drew));exact HO_719000.out) hb);have n1_:=Aside0.mk (Kd.V_below (by (with_reducible repeat (first|apply Kd.V_alloc|apply Kd.V_drewN|apply Kd.V_drew));exact HO_720000.out) hb);have n2_:=Aside0.mk (blk_below (g:=gb718) (o:=.cells #[u719000] 38 (0,0)) (by (with_reducible repeat (first|refine blk_drewN ?_ _|refine blk_drew ?_|refine blk_alloc ?_ _));exact BK718.out) hb);have n3_:=Aside0.mk (blk_below (g:=gb719) (o:=.cells #[.slice Ao11 x720000_1.length co11] 38 (0,0)) (by (with_reducible repeat (first|refine blk_drewN ?_ _|refine blk_drew ?_|refine blk_alloc ?_ _));exact BK719.out) hb);have n4_:=Aside0.mk (blk_below (g:=gb720) (o:=.cells #[.slice none 0 0] 38 (0,0)) (by (with_reducible repeat (first|refine blk_drewN ?_ _|refine blk_drew ?_|refine blk_alloc ?_ _));exact BK720.out) hb);have n5_:=Aside0.mk (below_step (by repeat (first|(with_reducible first|exact HB.out|apply below_alloc|apply pw_below_drewN|apply below_drew1|refine below_set ?_ GE718.out|refine below_set ?_ GE719.out|refine below_set ?_ GE720.out)|exact HB.out)) hb);clear HO_719000;clear HO_720000;clear BK718;clear BK719;clear BK720;clear HB;have HO_719000:=n0_;have HO_720000:=n1_;have BK718:=n2_;have BK719:=n3_;have BK720:=n4_;have HB:=n5_;clear n0_ n1_ n2_ n3_ n4_ n5_;(try clear hb);(try clear hb2);(try clear hk);(try clear hi);have hnb13:=NB718_720.out;have hnc13:=NB720_718.out;have hcz14_0 : w12.cell? ⟨gb718,0,none⟩ = some (u719000):=(blk_cell BK718.out 0).trans rfl;have hfz14_0:=blk_frozen BK718.out 0;obtain ⟨Ao15,co15,eo15⟩:=Kd.V_slice HO_719000.out;subst eo15;have hcz16_0 : w12.cell? ⟨gb720,0,none⟩ = some (.slice none 0 0):=(blk_cell BK720.out 0).trans rfl;have hfz16_0:=blk_frozen BK720.out 0))
    refine bodyPost_ret (results_cell_row rfl _ _ gb720 38 #[.slice Ao15 x719000_1.length co15] (0,0) _ rfl (by (with_reducible repeat (first|refine blk_drewN ?_ _|refine blk_drew ?_|refine blk_alloc ?_ _));refine blk_put (cs:=#[.slice none 0 0]) ?_ 0 _ rfl;(with_reducible repeat (first|refine blk_drewN ?_ _|refine blk_drew ?_|refine blk_alloc ?_ _));exact BK720.out) Try.underlying38 rfl (by kernel_rfl)) rfl ?_
    exact ⟨_,by first|rfl|(simp [errW_none,errW_some] <;> rfl)|(simp [*,errW_none,errW_some] <;> rfl),by (with_reducible repeat (first|apply Kd.V_alloc|apply Kd.V_drewN|apply Kd.V_drew));exact Kd.V_mono (Kd.V_far (p:=⟨gb720,0,none⟩) (Kd.V_mono HO_719000.out (fun k_ hk => (⟨hk,hk.2.2.2⟩ : _ ∧ k_ ≠ gb720))) (fun _ hk => hk.2) (.slice Ao15 x719000_1.length co15)) (fun _ hk => hk.1.1),by repeat (first|(with_reducible first|exact HB.out|apply below_alloc|apply pw_below_drewN|apply below_drew1|refine below_set ?_ GE718.out|refine below_set ?_ GE719.out|refine below_set ?_ GE720.out)|exact HB.out)⟩
   ·replace c7:=Bool.eq_false_iff.mpr c7
    subst c7
    have H1 : ((nat_Nat_Div.f k1 x719000_1 x720000_1).bind fun bt722 => (nat_Nat_Gcd.l0 k1 x720000_1 bt722.2.1)) = some r:=by rw [if_neg (show ¬ (false = true) by decide)] at H;exact H
    clear H
    have H:=H1
    clear H1
    replace H:=Option.bind_eq_some_iff.mp H
    obtain ⟨⟨t722,t725,t728⟩,A170,H⟩:=H
    replace H : (nat_Nat_Gcd.l0 k1 x720000_1 t725) = some r:=H
    have A17:=Aside0.mk A170
    clear A170
    have H':=Aside0.mk H
    clear H
    have hnb18:=NB719_718.out
    have hnc18:=NB718_719.out
    have hnb19:=NB719_720.out
    have hnc19:=NB720_719.out
    have hcz20_0 : wr.cell? ⟨gb719,0,none⟩ = some (u720000):=(blk_cell BK719.out 0).trans rfl
    have hfz20_0:=blk_frozen BK719.out 0
    obtain ⟨Ao21,co21,eo21⟩:=Kd.V_slice HO_720000.out
    subst eo21
    try go_wp2_with (first|((with_reducible refine gate_callee (f:=44) rfl ?_);refine goesL_ (some 9) rfl rfl Try.func44 (by kernel_rfl) rfl #[.agg #[.slice Ao21 x720000_1.length co21]] rfl (by (try simp only [List.map_toArray,List.map_cons,List.map_nil]);first|done|rfl|(simp only [List.length_drop,List.length_take];rfl)) ?_;(with_reducible refine (nat_Nat_Zero.calls _ _ x720000_1 false _ ?side1 ?side2 A6.out).mono ?_);(case side1 => repeat (first|exact (Kd.V_reads' HO_720000.out).2.2|(with_reducible refine Kd.C_alloc ?_ _)|(with_reducible refine Kd.C_drewN ?_ _)|(with_reducible refine Kd.C_drew ?_)));(case side2 => exact (Kd.V_reads' HO_720000.out).2.1);rintro e w22 ⟨rfl,hb⟩;refine ⟨_,rfl,?_⟩;have n0_:=Aside0.mk (Kd.V_below (by (with_reducible repeat (first|apply Kd.V_alloc|apply Kd.V_drewN|apply Kd.V_drew));exact HO_719000.out) hb);have n1_:=Aside0.mk (Kd.V_below (by (with_reducible repeat (first|apply Kd.V_alloc|apply Kd.V_drewN|apply Kd.V_drew));exact HO_720000.out) hb);have n2_:=Aside0.mk (blk_below (g:=gb718) (o:=.cells #[u719000] 38 (0,0)) (by (with_reducible repeat (first|refine blk_drewN ?_ _|refine blk_drew ?_|refine blk_alloc ?_ _));exact BK718.out) hb);have n3_:=Aside0.mk (blk_below (g:=gb719) (o:=.cells #[.slice Ao21 x720000_1.length co21] 38 (0,0)) (by (with_reducible repeat (first|refine blk_drewN ?_ _|refine blk_drew ?_|refine blk_alloc ?_ _));exact BK719.out) hb);have n4_:=Aside0.mk (blk_below (g:=gb720) (o:=.cells #[.slice none 0 0] 38 (0,0)) (by (with_reducible repeat (first|refine blk_drewN ?_ _|refine blk_drew ?_|refine blk_alloc ?_ _));exact BK720.out) hb);have n5_:=Aside0.mk (below_step (by repeat (first|(with_reducible first|exact HB.out|apply below_alloc|apply pw_below_drewN|apply below_drew1|refine below_set ?_ GE718.out|refine below_set ?_ GE719.out|refine below_set ?_ GE720.out)|exact HB.out)) hb);clear HO_719000;clear HO_720000;clear BK718;clear BK719;clear BK720;clear HB;have HO_719000:=n0_;have HO_720000:=n1_;have BK718:=n2_;have BK719:=n3_;have BK720:=n4_;have HB:=n5_;clear n0_ n1_ n2_ n3_ n4_ n5_;(try clear hb);(try clear hb2);(try clear hk);(try clear hi);have hnb23:=NB718_720.out;have hnc23:=NB720_718.out;have hcz24_0 : w22.cell? ⟨gb718,0,none⟩ = some (u719000):=(blk_cell BK718.out 0).trans rfl;have hfz24_0:=blk_frozen BK718.out 0;have hcz25_0 : w22.cell? ⟨gb719,0,none⟩ = some (.slice Ao21 x720000_1.length co21):=(blk_cell BK719.out 0).trans rfl;have hfz25_0:=blk_frozen BK719.out 0;obtain ⟨Ao26,co26,eo26⟩:=Kd.V_slice HO_719000.out;subst eo26)|((with_reducible refine gate_callee (f:=53) rfl ?_);refine goesL_ (some 14) rfl rfl Try.func53 (by kernel_rfl) rfl #[.agg #[.slice Ao26 x719000_1.length co26],.agg #[.slice Ao21 x720000_1.length co21]] rfl (by (try simp only [List.map_toArray,List.map_cons,List.map_nil]);first|done|rfl|(simp only [List.length_drop,List.length_take];rfl)) ?_;(with_reducible refine (nat_Nat_Div.calls k1 (fun k_ => (((P0_0_ k_ ∨ P1_0_ k_) ∨ w.heap.size ≤ k_) ∧ (k_ ≠ gb718 ∧ (k_ ≠ gb719 ∧ k_ ≠ gb720)))) _ _ x719000_1 _ _ x720000_1 t722 t725 t728 _ ?side1 ?side2 ?side3 A17.out).mono ?_);(case side1 => exact HO_719000.out);(case side2 => repeat (first|exact (Kd.V_reads' HO_720000.out).2.2|(with_reducible refine Kd.C_alloc ?_ _)|(with_reducible refine Kd.C_drewN ?_ _)|(with_reducible refine Kd.C_drew ?_)));(case side3 => exact (Kd.V_reads' HO_720000.out).2.1);rintro e w27 ⟨v723,v726,rfl,ho0,ho1,hb⟩;refine ⟨_,rfl,?_⟩;have n0_:=Aside0.mk (Kd.V_below (by (with_reducible repeat (first|apply Kd.V_alloc|apply Kd.V_drewN|apply Kd.V_drew));exact HO_719000.out) hb);have n1_:=Aside0.mk (Kd.V_below (by (with_reducible repeat (first|apply Kd.V_alloc|apply Kd.V_drewN|apply Kd.V_drew));exact HO_720000.out) hb);have n2_:=Aside0.mk (Kd.V_lower (Kd.V_mono (ok':=fun k_ => ((P0_0_ k_ ∨ P1_0_ k_) ∨ w.heap.size ≤ k_) ∧ k_ ≠ gb718 ∧ k_ ≠ gb719 ∧ k_ ≠ gb720) ho0 (fun k_ hk_ => ⟨Or.elim hk_ (fun hs_ => hs_.1) (fun hn_ => (.inr (Nat.le_trans (below_size (by repeat (first|(with_reducible first|exact HB.out|apply below_alloc|apply pw_below_drewN|apply below_drew1|refine below_set ?_ GE718.out|refine below_set ?_ GE719.out|refine below_set ?_ GE720.out)|exact HB.out))) hn_))),Or.elim hk_ (fun hs_ => hs_.2.1) (fun hn_ => (Kd.freshB (g:=gb718) (o:=.cells #[.slice Ao26 x719000_1.length co26] 38 (0,0)) (by (with_reducible repeat (first|refine blk_drewN ?_ _|refine blk_drew ?_|refine blk_alloc ?_ _));exact BK718.out) k_ hn_)),Or.elim hk_ (fun hs_ => hs_.2.2.1) (fun hn_ => (Kd.freshB (g:=gb719) (o:=.cells #[.slice Ao21 x720000_1.length co21] 38 (0,0)) (by (with_reducible repeat (first|refine blk_drewN ?_ _|refine blk_drew ?_|refine blk_alloc ?_ _));exact BK719.out) k_ hn_)),Or.elim hk_ (fun hs_ => hs_.2.2.2) (fun hn_ => (Kd.freshB (g:=gb720) (o:=.cells #[.slice none 0 0] 38 (0,0)) (by (with_reducible repeat (first|refine blk_drewN ?_ _|refine blk_drew ?_|refine blk_alloc ?_ _));exact BK720.out) k_ hn_))⟩)) (below_size (by repeat (first|(with_reducible first|exact HB.out|apply below_alloc|apply pw_below_drewN|apply below_drew1|refine below_set ?_ GE718.out|refine below_set ?_ GE719.out|refine below_set ?_ GE720.out)|exact HB.out))));have n3_:=Aside0.mk (Kd.V_lower (Kd.V_mono (ok':=fun k_ => ((P0_0_ k_ ∨ P1_0_ k_) ∨ w.heap.size ≤ k_) ∧ k_ ≠ gb718 ∧ k_ ≠ gb719 ∧ k_ ≠ gb720) ho1 (fun k_ hk_ => ⟨Or.elim hk_ (fun hs_ => hs_.1) (fun hn_ => (.inr (Nat.le_trans (below_size (by repeat (first|(with_reducible first|exact HB.out|apply below_alloc|apply pw_below_drewN|apply below_drew1|refine below_set ?_ GE718.out|refine below_set ?_ GE719.out|refine below_set ?_ GE720.out)|exact HB.out))) hn_))),Or.elim hk_ (fun hs_ => hs_.2.1) (fun hn_ => (Kd.freshB (g:=gb718) (o:=.cells #[.slice Ao26 x719000_1.length co26] 38 (0,0)) (by (with_reducible repeat (first|refine blk_drewN ?_ _|refine blk_drew ?_|refine blk_alloc ?_ _));exact BK718.out) k_ hn_)),Or.elim hk_ (fun hs_ => hs_.2.2.1) (fun hn_ => (Kd.freshB (g:=gb719) (o:=.cells #[.slice Ao21 x720000_1.length co21] 38 (0,0)) (by (with_reducible repeat (first|refine blk_drewN ?_ _|refine blk_drew ?_|refine blk_alloc ?_ _));exact BK719.out) k_ hn_)),Or.elim hk_ (fun hs_ => hs_.2.2.2) (fun hn_ => (Kd.freshB (g:=gb720) (o:=.cells #[.slice none 0 0] 38 (0,0)) (by (with_reducible repeat (first|refine blk_drewN ?_ _|refine blk_drew ?_|refine blk_alloc ?_ _));exact BK720.out) k_ hn_))⟩)) (below_size (by repeat (first|(with_reducible first|exact HB.out|apply below_alloc|apply pw_below_drewN|apply below_drew1|refine below_set ?_ GE718.out|refine below_set ?_ GE719.out|refine below_set ?_ GE720.out)|exact HB.out))));have n4_:=Aside0.mk (blk_below (g:=gb718) (o:=.cells #[.slice Ao26 x719000_1.length co26] 38 (0,0)) (by (with_reducible repeat (first|refine blk_drewN ?_ _|refine blk_drew ?_|refine blk_alloc ?_ _));exact BK718.out) hb);have n5_:=Aside0.mk (blk_below (g:=gb719) (o:=.cells #[.slice Ao21 x720000_1.length co21] 38 (0,0)) (by (with_reducible repeat (first|refine blk_drewN ?_ _|refine blk_drew ?_|refine blk_alloc ?_ _));exact BK719.out) hb);have n6_:=Aside0.mk (blk_below (g:=gb720) (o:=.cells #[.slice none 0 0] 38 (0,0)) (by (with_reducible repeat (first|refine blk_drewN ?_ _|refine blk_drew ?_|refine blk_alloc ?_ _));exact BK720.out) hb);have n7_:=Aside0.mk (below_step (by repeat (first|(with_reducible first|exact HB.out|apply below_alloc|apply pw_below_drewN|apply below_drew1|refine below_set ?_ GE718.out|refine below_set ?_ GE719.out|refine below_set ?_ GE720.out)|exact HB.out)) hb);clear HO_719000;clear HO_720000;clear BK718;clear BK719;clear BK720;clear HB;have HO_719000:=n0_;have HO_720000:=n1_;have HO724:=n2_;have HO727:=n3_;have BK718:=n4_;have BK719:=n5_;have BK720:=n6_;have HB:=n7_;clear n0_ n1_ n2_ n3_ n4_ n5_ n6_ n7_;(try clear hb);(try clear hb2);(try clear hk);(try clear hi);(try clear ho0);(try clear ho1))|((with_reducible refine gate_dst (N:=5) rfl ?_);refine box_event ?hg (N:=5) ?hd (cs:=#[.slice none 0 0]) (t:=38) ?hr ?_;(case hd => rfl);(case hg => rfl);(case hr => first|(go_simp;done)|(go_simp;rfl));intro gb729 hg w28 hbox hb;have n0_:=Aside0.mk (Kd.V_below (Kd.V_elderB (by (with_reducible repeat (first|apply Kd.V_alloc|apply Kd.V_drewN|apply Kd.V_drew));exact HO_719000.out) gb729 (Nat.le_of_eq hg.symm)) hb);have n1_:=Aside0.mk (Kd.V_below (Kd.V_elderB (by (with_reducible repeat (first|apply Kd.V_alloc|apply Kd.V_drewN|apply Kd.V_drew));exact HO_720000.out) gb729 (Nat.le_of_eq hg.symm)) hb);have n2_:=Aside0.mk (Kd.V_below (Kd.V_elderB (by (with_reducible repeat (first|apply Kd.V_alloc|apply Kd.V_drewN|apply Kd.V_drew));exact HO724.out) gb729 (Nat.le_of_eq hg.symm)) hb);have n3_:=Aside0.mk (Kd.V_below (Kd.V_elderB (by (with_reducible repeat (first|apply Kd.V_alloc|apply Kd.V_drewN|apply Kd.V_drew));exact HO727.out) gb729 (Nat.le_of_eq hg.symm)) hb);have n4_:=Aside0.mk (blk_below (g:=gb718) (o:=.cells #[.slice Ao26 x719000_1.length co26] 38 (0,0)) (by (with_reducible repeat (first|refine blk_drewN ?_ _|refine blk_drew ?_|refine blk_alloc ?_ _));exact BK718.out) hb);have n5_:=Aside0.mk (blk_below (g:=gb719) (o:=.cells #[.slice Ao21 x720000_1.length co21] 38 (0,0)) (by (with_reducible repeat (first|refine blk_drewN ?_ _|refine blk_drew ?_|refine blk_alloc ?_ _));exact BK719.out) hb);have n6_:=Aside0.mk (blk_below (g:=gb720) (o:=.cells #[.slice none 0 0] 38 (0,0)) (by (with_reducible repeat (first|refine blk_drewN ?_ _|refine blk_drew ?_|refine blk_alloc ?_ _));exact BK720.out) hb);have n7_:=Aside0.mk (below_step (by repeat (first|(with_reducible first|exact HB.out|apply below_alloc|apply pw_below_drewN|apply below_drew1|refine below_set ?_ GE718.out|refine below_set ?_ GE719.out|refine below_set ?_ GE720.out)|exact HB.out)) hb);have n8_:=Aside0.mk (hbox);have n9_:=Aside0.mk ((by rw [hg];exact (below_size (by repeat (first|(with_reducible first|exact HB.out|apply below_alloc|apply pw_below_drewN|apply below_drew1|refine below_set ?_ GE718.out|refine below_set ?_ GE719.out|refine below_set ?_ GE720.out)|exact HB.out))) : w.heap.size ≤ gb729));have n10_:=Aside0.mk ((by rw [hg];exact (below_size (by repeat (first|(with_reducible first|exact HB.out|apply below_alloc|apply pw_below_drewN|apply below_drew1|refine below_set ?_ GE718.out|refine below_set ?_ GE719.out|refine below_set ?_ GE720.out)|exact HB.out))) : w.heap.size ≤ gb729));have n11_:=Aside0.mk ((by rw [hg];exact Nat.ne_of_lt (blk_lt (g:=gb718) (o:=.cells #[.slice Ao26 x719000_1.length co26] 38 (0,0)) (by (with_reducible repeat (first|refine blk_drewN ?_ _|refine blk_drew ?_|refine blk_alloc ?_ _));exact BK718.out)) : gb718 ≠ gb729));have n12_:=Aside0.mk ((by rw [hg];exact Nat.ne_of_gt (blk_lt (g:=gb718) (o:=.cells #[.slice Ao26 x719000_1.length co26] 38 (0,0)) (by (with_reducible repeat (first|refine blk_drewN ?_ _|refine blk_drew ?_|refine blk_alloc ?_ _));exact BK718.out)) : gb729 ≠ gb718));have n13_:=Aside0.mk ((by rw [hg];exact Nat.ne_of_lt (blk_lt (g:=gb719) (o:=.cells #[.slice Ao21 x720000_1.length co21] 38 (0,0)) (by (with_reducible repeat (first|refine blk_drewN ?_ _|refine blk_drew ?_|refine blk_alloc ?_ _));exact BK719.out)) : gb719 ≠ gb729));have n14_:=Aside0.mk ((by rw [hg];exact Nat.ne_of_gt (blk_lt (g:=gb719) (o:=.cells #[.slice Ao21 x720000_1.length co21] 38 (0,0)) (by (with_reducible repeat (first|refine blk_drewN ?_ _|refine blk_drew ?_|refine blk_alloc ?_ _));exact BK719.out)) : gb729 ≠ gb719));have n15_:=Aside0.mk ((by rw [hg];exact Nat.ne_of_lt (blk_lt (g:=gb720) (o:=.cells #[.slice none 0 0] 38 (0,0)) (by (with_reducible repeat (first|refine blk_drewN ?_ _|refine blk_drew ?_|refine blk_alloc ?_ _));exact BK720.out)) : gb720 ≠ gb729));have n16_:=Aside0.mk ((by rw [hg];exact Nat.ne_of_gt (blk_lt (g:=gb720) (o:=.cells #[.slice none 0 0] 38 (0,0)) (by (with_reducible repeat (first|refine blk_drewN ?_ _|refine blk_drew ?_|refine blk_alloc ?_ _));exact BK720.out)) : gb729 ≠ gb720));clear HO_719000;clear HO_720000;clear HO724;clear HO727;clear BK718;clear BK719;clear BK720;clear HB;have HO_719000:=n0_;have HO_720000:=n1_;have HO724:=n2_;have HO727:=n3_;have BK718:=n4_;have BK719:=n5_;have BK720:=n6_;have HB:=n7_;have BK729:=n8_;have GW729:=n9_;have GE729:=n10_;have NB718_729:=n11_;have NB729_718:=n12_;have NB719_729:=n13_;have NB729_719:=n14_;have NB720_729:=n15_;have NB729_720:=n16_;clear n0_ n1_ n2_ n3_ n4_ n5_ n6_ n7_ n8_ n9_ n10_ n11_ n12_ n13_ n14_ n15_ n16_;clear hb hbox hg)|((with_reducible refine gate_dst (N:=6) rfl ?_);refine box_event ?hg (N:=6) ?hd (cs:=#[.slice none 0 0]) (t:=38) ?hr ?_;(case hd => rfl);(case hg => rfl);(case hr => first|(go_simp;done)|(go_simp;rfl));intro gb730 hg w29 hbox hb;have n0_:=Aside0.mk (Kd.V_below (Kd.V_elderB (by (with_reducible repeat (first|apply Kd.V_alloc|apply Kd.V_drewN|apply Kd.V_drew));exact HO_719000.out) gb730 (Nat.le_of_eq hg.symm)) hb);have n1_:=Aside0.mk (Kd.V_below (Kd.V_elderB (by (with_reducible repeat (first|apply Kd.V_alloc|apply Kd.V_drewN|apply Kd.V_drew));exact HO_720000.out) gb730 (Nat.le_of_eq hg.symm)) hb);have n2_:=Aside0.mk (Kd.V_below (Kd.V_elderB (by (with_reducible repeat (first|apply Kd.V_alloc|apply Kd.V_drewN|apply Kd.V_drew));exact HO724.out) gb730 (Nat.le_of_eq hg.symm)) hb);have n3_:=Aside0.mk (Kd.V_below (Kd.V_elderB (by (with_reducible repeat (first|apply Kd.V_alloc|apply Kd.V_drewN|apply Kd.V_drew));exact HO727.out) gb730 (Nat.le_of_eq hg.symm)) hb);have n4_:=Aside0.mk (blk_below (g:=gb718) (o:=.cells #[.slice Ao26 x719000_1.length co26] 38 (0,0)) (by (with_reducible repeat (first|refine blk_drewN ?_ _|refine blk_drew ?_|refine blk_alloc ?_ _));exact BK718.out) hb);have n5_:=Aside0.mk (blk_below (g:=gb719) (o:=.cells #[.slice Ao21 x720000_1.length co21] 38 (0,0)) (by (with_reducible repeat (first|refine blk_drewN ?_ _|refine blk_drew ?_|refine blk_alloc ?_ _));exact BK719.out) hb);have n6_:=Aside0.mk (blk_below (g:=gb720) (o:=.cells #[.slice none 0 0] 38 (0,0)) (by (with_reducible repeat (first|refine blk_drewN ?_ _|refine blk_drew ?_|refine blk_alloc ?_ _));exact BK720.out) hb);have n7_:=Aside0.mk (blk_below (g:=gb729) (o:=.cells #[.slice none 0 0] 38 (0,0)) (by (with_reducible repeat (first|refine blk_drewN ?_ _|refine blk_drew ?_|refine blk_alloc ?_ _));exact BK729.out) hb);have n8_:=Aside0.mk (below_step (by repeat (first|(with_reducible first|exact HB.out|apply below_alloc|apply pw_below_drewN|apply below_drew1|refine below_set ?_ GE718.out|refine below_set ?_ GE719.out|refine below_set ?_ GE720.out|refine below_set ?_ GE729.out)|exact HB.out)) hb);have n9_:=Aside0.mk (hbox);have n10_:=Aside0.mk ((by rw [hg];exact (below_size (by repeat (first|(with_reducible first|exact HB.out|apply below_alloc|apply pw_below_drewN|apply below_drew1|refine below_set ?_ GE718.out|refine below_set ?_ GE719.out|refine below_set ?_ GE720.out|refine below_set ?_ GE729.out)|exact HB.out))) : w.heap.size ≤ gb730));have n11_:=Aside0.mk ((by rw [hg];exact (below_size (by repeat (first|(with_reducible first|exact HB.out|apply below_alloc|apply pw_below_drewN|apply below_drew1|refine below_set ?_ GE718.out|refine below_set ?_ GE719.out|refine below_set ?_ GE720.out|refine below_set ?_ GE729.out)|exact HB.out))) : w.heap.size ≤ gb730));have n12_:=Aside0.mk ((by rw [hg];exact Nat.ne_of_lt (blk_lt (g:=gb718) (o:=.cells #[.slice Ao26 x719000_1.length co26] 38 (0,0)) (by (with_reducible repeat (first|refine blk_drewN ?_ _|refine blk_drew ?_|refine blk_alloc ?_ _));exact BK718.out)) : gb718 ≠ gb730));have n13_:=Aside0.mk ((by rw [hg];exact Nat.ne_of_gt (blk_lt (g:=gb718) (o:=.cells #[.slice Ao26 x719000_1.length co26] 38 (0,0)) (by (with_reducible repeat (first|refine blk_drewN ?_ _|refine blk_drew ?_|refine blk_alloc ?_ _));exact BK718.out)) : gb730 ≠ gb718));have n14_:=Aside0.mk ((by rw [hg];exact Nat.ne_of_lt (blk_lt (g:=gb719) (o:=.cells #[.slice Ao21 x720000_1.length co21] 38 (0,0)) (by (with_reducible repeat (first|refine blk_drewN ?_ _|refine blk_drew ?_|refine blk_alloc ?_ _));exact BK719.out)) : gb719 ≠ gb730));have n15_:=Aside0.mk ((by rw [hg];exact Nat.ne_of_gt (blk_lt (g:=gb719) (o:=.cells #[.slice Ao21 x720000_1.length co21] 38 (0,0)) (by (with_reducible repeat (first|refine blk_drewN ?_ _|refine blk_drew ?_|refine blk_alloc ?_ _));exact BK719.out)) : gb730 ≠ gb719));have n16_:=Aside0.mk ((by rw [hg];exact Nat.ne_of_lt (blk_lt (g:=gb720) (o:=.cells #[.slice none 0 0] 38 (0,0)) (by (with_reducible repeat (first|refine blk_drewN ?_ _|refine blk_drew ?_|refine blk_alloc ?_ _));exact BK720.out)) : gb720 ≠ gb730));have n17_:=Aside0.mk ((by rw [hg];exact Nat.ne_of_gt (blk_lt (g:=gb720) (o:=.cells #[.slice none 0 0] 38 (0,0)) (by (with_reducible repeat (first|refine blk_drewN ?_ _|refine blk_drew ?_|refine blk_alloc ?_ _));exact BK720.out)) : gb730 ≠ gb720));have n18_:=Aside0.mk ((by rw [hg];exact Nat.ne_of_lt (blk_lt (g:=gb729) (o:=.cells #[.slice none 0 0] 38 (0,0)) (by (with_reducible repeat (first|refine blk_drewN ?_ _|refine blk_drew ?_|refine blk_alloc ?_ _));exact BK729.out)) : gb729 ≠ gb730));have n19_:=Aside0.mk ((by rw [hg];exact Nat.ne_of_gt (blk_lt (g:=gb729) (o:=.cells #[.slice none 0 0] 38 (0,0)) (by (with_reducible repeat (first|refine blk_drewN ?_ _|refine blk_drew ?_|refine blk_alloc ?_ _));exact BK729.out)) : gb730 ≠ gb729));clear HO_719000;clear HO_720000;clear HO724;clear HO727;clear BK718;clear BK719;clear BK720;clear BK729;clear HB;have HO_719000:=n0_;have HO_720000:=n1_;have HO724:=n2_;have HO727:=n3_;have BK718:=n4_;have BK719:=n5_;have BK720:=n6_;have BK729:=n7_;have HB:=n8_;have BK730:=n9_;have GW730:=n10_;have GE730:=n11_;have NB718_730:=n12_;have NB730_718:=n13_;have NB719_730:=n14_;have NB730_719:=n15_;have NB720_730:=n16_;have NB730_720:=n17_;have NB729_730:=n18_;have NB730_729:=n19_;clear n0_ n1_ n2_ n3_ n4_ n5_ n6_ n7_ n8_ n9_ n10_ n11_ n12_ n13_ n14_ n15_ n16_ n17_ n18_ n19_;clear hb hbox hg;obtain ⟨Ao30,co30,eo30⟩:=Kd.V_slice HO724.out;subst eo30;have hnb31:=NB729_718.out;have hnc31:=NB718_729.out;have hnb32:=NB729_719.out;have hnc32:=NB719_729.out;have hnb33:=NB729_720.out;have hnc33:=NB720_729.out;have hnb34:=NB729_730.out;have hnc34:=NB730_729.out;have hcz35_0 : w29.cell? ⟨gb729,0,none⟩ = some (.slice none 0 0):=(blk_cell BK729.out 0).trans rfl;have hfz35_0:=blk_frozen BK729.out 0;obtain ⟨Ao36,co36,eo36⟩:=Kd.V_slice HO727.out;subst eo36;have hnb37:=NB730_718.out;have hnc37:=NB718_730.out;have hnb38:=NB730_719.out;have hnc38:=NB719_730.out;have hnb39:=NB730_720.out;have hnc39:=NB720_730.out;have hcz40_0 : w29.cell? ⟨gb730,0,none⟩ = some (.slice none 0 0):=(blk_cell BK730.out 0).trans rfl;have hfz40_0:=blk_frozen BK730.out 0))
    have n0_ : Aside0 (Kd.V (Kd.int .u32) 23 ((w29.setCell ⟨gb729,0,none⟩ (.slice Ao30 t722.length co30)).setCell ⟨gb730,0,none⟩ (.slice Ao36 t725.length co36)) w.heap.size (fun k_ => ((P0_0_ k_ ∨ P1_0_ k_) ∨ w.heap.size ≤ k_) ∧ k_ ≠ gb718 ∧ k_ ≠ gb719 ∧ k_ ≠ gb720 ∧ k_ ≠ gb729 ∧ k_ ≠ gb730) (.slice Ao26 x719000_1.length co26) x719000_1):=⟨by (with_reducible repeat (first|apply Kd.V_alloc|apply Kd.V_drewN|apply Kd.V_drew));exact Kd.V_mono (Kd.V_far (p:=⟨gb730,0,none⟩) (Kd.V_far (p:=⟨gb729,0,none⟩) (Kd.V_mono (Kd.V_mono HO_719000.out (fun k_ hk => (⟨hk,hk.1.2⟩ : _ ∧ k_ ≠ gb729))) (fun k_ hk => (⟨hk,hk.1.2⟩ : _ ∧ k_ ≠ gb730))) (fun _ hk => hk.1.2) (.slice Ao30 t722.length co30)) (fun _ hk => hk.2) (.slice Ao36 t725.length co36)) (fun _ hk => ⟨hk.1.1.1.1.1,⟨hk.1.1.1.1.2.1,⟨hk.1.1.1.1.2.2.1,⟨hk.1.1.1.1.2.2.2,⟨hk.1.1.1.2,hk.1.1.2⟩⟩⟩⟩⟩)⟩
    have n1_ : Aside0 (Kd.V (Kd.int .u32) 23 ((w29.setCell ⟨gb729,0,none⟩ (.slice Ao30 t722.length co30)).setCell ⟨gb730,0,none⟩ (.slice Ao36 t725.length co36)) w.heap.size (fun k_ => ((P0_0_ k_ ∨ P1_0_ k_) ∨ w.heap.size ≤ k_) ∧ k_ ≠ gb718 ∧ k_ ≠ gb719 ∧ k_ ≠ gb720 ∧ k_ ≠ gb729 ∧ k_ ≠ gb730) (.slice Ao21 x720000_1.length co21) x720000_1):=⟨by (with_reducible repeat (first|apply Kd.V_alloc|apply Kd.V_drewN|apply Kd.V_drew));exact Kd.V_mono (Kd.V_far (p:=⟨gb730,0,none⟩) (Kd.V_far (p:=⟨gb729,0,none⟩) (Kd.V_mono (Kd.V_mono HO_720000.out (fun k_ hk => (⟨hk,hk.1.2⟩ : _ ∧ k_ ≠ gb729))) (fun k_ hk => (⟨hk,hk.1.2⟩ : _ ∧ k_ ≠ gb730))) (fun _ hk => hk.1.2) (.slice Ao30 t722.length co30)) (fun _ hk => hk.2) (.slice Ao36 t725.length co36)) (fun _ hk => ⟨hk.1.1.1.1.1,⟨hk.1.1.1.1.2.1,⟨hk.1.1.1.1.2.2.1,⟨hk.1.1.1.1.2.2.2,⟨hk.1.1.1.2,hk.1.1.2⟩⟩⟩⟩⟩)⟩
    have n2_ : Aside0 (Kd.V (Kd.int .u32) 23 ((w29.setCell ⟨gb729,0,none⟩ (.slice Ao30 t722.length co30)).setCell ⟨gb730,0,none⟩ (.slice Ao36 t725.length co36)) w.heap.size (fun k_ => ((P0_0_ k_ ∨ P1_0_ k_) ∨ w.heap.size ≤ k_) ∧ k_ ≠ gb718 ∧ k_ ≠ gb719 ∧ k_ ≠ gb720 ∧ k_ ≠ gb729 ∧ k_ ≠ gb730) (.slice Ao30 t722.length co30) t722):=⟨by (with_reducible repeat (first|apply Kd.V_alloc|apply Kd.V_drewN|apply Kd.V_drew));exact Kd.V_mono (Kd.V_far (p:=⟨gb730,0,none⟩) (Kd.V_far (p:=⟨gb729,0,none⟩) (Kd.V_mono (Kd.V_mono HO724.out (fun k_ hk => (⟨hk,hk.1.2⟩ : _ ∧ k_ ≠ gb729))) (fun k_ hk => (⟨hk,hk.1.2⟩ : _ ∧ k_ ≠ gb730))) (fun _ hk => hk.1.2) (.slice Ao30 t722.length co30)) (fun _ hk => hk.2) (.slice Ao36 t725.length co36)) (fun _ hk => ⟨hk.1.1.1.1.1,⟨hk.1.1.1.1.2.1,⟨hk.1.1.1.1.2.2.1,⟨hk.1.1.1.1.2.2.2,⟨hk.1.1.1.2,hk.1.1.2⟩⟩⟩⟩⟩)⟩
    have n3_ : Aside0 (Kd.V (Kd.int .u32) 23 ((w29.setCell ⟨gb729,0,none⟩ (.slice Ao30 t722.length co30)).setCell ⟨gb730,0,none⟩ (.slice Ao36 t725.length co36)) w.heap.size (fun k_ => ((P0_0_ k_ ∨ P1_0_ k_) ∨ w.heap.size ≤ k_) ∧ k_ ≠ gb718 ∧ k_ ≠ gb719 ∧ k_ ≠ gb720 ∧ k_ ≠ gb729 ∧ k_ ≠ gb730) (.slice Ao36 t725.length co36) t725):=⟨by (with_reducible repeat (first|apply Kd.V_alloc|apply Kd.V_drewN|apply Kd.V_drew));exact Kd.V_mono (Kd.V_far (p:=⟨gb730,0,none⟩) (Kd.V_far (p:=⟨gb729,0,none⟩) (Kd.V_mono (Kd.V_mono HO727.out (fun k_ hk => (⟨hk,hk.1.2⟩ : _ ∧ k_ ≠ gb729))) (fun k_ hk => (⟨hk,hk.1.2⟩ : _ ∧ k_ ≠ gb730))) (fun _ hk => hk.1.2) (.slice Ao30 t722.length co30)) (fun _ hk => hk.2) (.slice Ao36 t725.length co36)) (fun _ hk => ⟨hk.1.1.1.1.1,⟨hk.1.1.1.1.2.1,⟨hk.1.1.1.1.2.2.1,⟨hk.1.1.1.1.2.2.2,⟨hk.1.1.1.2,hk.1.1.2⟩⟩⟩⟩⟩)⟩
    have n4_ : Aside0 (((w29.setCell ⟨gb729,0,none⟩ (.slice Ao30 t722.length co30)).setCell ⟨gb730,0,none⟩ (.slice Ao36 t725.length co36)).heap[gb718]? = some (.cells #[.slice Ao26 x719000_1.length co26] 38 (0,0))):=⟨by (with_reducible repeat (first|refine blk_drewN ?_ _|refine blk_drew ?_|refine blk_alloc ?_ _));refine blk_far ?_ NB718_730.out _;(with_reducible repeat (first|refine blk_drewN ?_ _|refine blk_drew ?_|refine blk_alloc ?_ _));refine blk_far ?_ NB718_729.out _;(with_reducible repeat (first|refine blk_drewN ?_ _|refine blk_drew ?_|refine blk_alloc ?_ _));exact BK718.out⟩
    have n5_ : Aside0 (((w29.setCell ⟨gb729,0,none⟩ (.slice Ao30 t722.length co30)).setCell ⟨gb730,0,none⟩ (.slice Ao36 t725.length co36)).heap[gb719]? = some (.cells #[.slice Ao21 x720000_1.length co21] 38 (0,0))):=⟨by (with_reducible repeat (first|refine blk_drewN ?_ _|refine blk_drew ?_|refine blk_alloc ?_ _));refine blk_far ?_ NB719_730.out _;(with_reducible repeat (first|refine blk_drewN ?_ _|refine blk_drew ?_|refine blk_alloc ?_ _));refine blk_far ?_ NB719_729.out _;(with_reducible repeat (first|refine blk_drewN ?_ _|refine blk_drew ?_|refine blk_alloc ?_ _));exact BK719.out⟩
    have n6_ : Aside0 (((w29.setCell ⟨gb729,0,none⟩ (.slice Ao30 t722.length co30)).setCell ⟨gb730,0,none⟩ (.slice Ao36 t725.length co36)).heap[gb720]? = some (.cells #[.slice none 0 0] 38 (0,0))):=⟨by (with_reducible repeat (first|refine blk_drewN ?_ _|refine blk_drew ?_|refine blk_alloc ?_ _));refine blk_far ?_ NB720_730.out _;(with_reducible repeat (first|refine blk_drewN ?_ _|refine blk_drew ?_|refine blk_alloc ?_ _));refine blk_far ?_ NB720_729.out _;(with_reducible repeat (first|refine blk_drewN ?_ _|refine blk_drew ?_|refine blk_alloc ?_ _));exact BK720.out⟩
    have n7_ : Aside0 (((w29.setCell ⟨gb729,0,none⟩ (.slice Ao30 t722.length co30)).setCell ⟨gb730,0,none⟩ (.slice Ao36 t725.length co36)).heap[gb729]? = some (.cells #[.slice Ao30 t722.length co30] 38 (0,0))):=⟨by (with_reducible repeat (first|refine blk_drewN ?_ _|refine blk_drew ?_|refine blk_alloc ?_ _));refine blk_far ?_ NB729_730.out _;(with_reducible repeat (first|refine blk_drewN ?_ _|refine blk_drew ?_|refine blk_alloc ?_ _));refine blk_put (cs:=#[.slice none 0 0]) ?_ 0 _ rfl;(with_reducible repeat (first|refine blk_drewN ?_ _|refine blk_drew ?_|refine blk_alloc ?_ _));exact BK729.out⟩
    have n8_ : Aside0 (((w29.setCell ⟨gb729,0,none⟩ (.slice Ao30 t722.length co30)).setCell ⟨gb730,0,none⟩ (.slice Ao36 t725.length co36)).heap[gb730]? = some (.cells #[.slice Ao36 t725.length co36] 38 (0,0))):=⟨by (with_reducible repeat (first|refine blk_drewN ?_ _|refine blk_drew ?_|refine blk_alloc ?_ _));refine blk_put (cs:=#[.slice none 0 0]) ?_ 0 _ rfl;(with_reducible repeat (first|refine blk_drewN ?_ _|refine blk_drew ?_|refine blk_alloc ?_ _));refine blk_far ?_ NB730_729.out _;(with_reducible repeat (first|refine blk_drewN ?_ _|refine blk_drew ?_|refine blk_alloc ?_ _));exact BK730.out⟩
    have n9_ : Aside0 (Below w.heap.size w ((w29.setCell ⟨gb729,0,none⟩ (.slice Ao30 t722.length co30)).setCell ⟨gb730,0,none⟩ (.slice Ao36 t725.length co36))):=⟨by repeat (first|(with_reducible first|exact HB.out|apply below_alloc|apply pw_below_drewN|apply below_drew1|refine below_set ?_ GE718.out|refine below_set ?_ GE719.out|refine below_set ?_ GE720.out|refine below_set ?_ GE729.out|refine below_set ?_ GE730.out)|exact HB.out)⟩
    (try clear HO_719000)
    (try clear HO_720000)
    (try clear HO724)
    (try clear HO727)
    (try clear BK718)
    (try clear BK719)
    (try clear BK720)
    (try clear BK729)
    (try clear BK730)
    (try clear HB)
    generalize ((w29.setCell ⟨gb729,0,none⟩ (.slice Ao30 t722.length co30)).setCell ⟨gb730,0,none⟩ (.slice Ao36 t725.length co36)) = w41 at n0_ n1_ n2_ n3_ n4_ n5_ n6_ n7_ n8_ n9_ ⊢
    have HO_719000:=n0_
    have HO_720000:=n1_
    have HO724:=n2_
    have HO727:=n3_
    have BK718:=n4_
    have BK719:=n5_
    have BK720:=n6_
    have BK729:=n7_
    have BK730:=n8_
    have HB:=n9_
    clear n0_ n1_ n2_ n3_ n4_ n5_ n6_ n7_ n8_ n9_
    have n0_:=Aside0.mk (Kd.V_drew HO_719000.out)
    have n1_:=Aside0.mk (Kd.V_drew HO_720000.out)
    have n2_:=Aside0.mk (Kd.V_drew HO724.out)
    have n3_:=Aside0.mk (Kd.V_drew HO727.out)
    have n4_:=Aside0.mk (blk_drew BK718.out)
    have n5_:=Aside0.mk (blk_drew BK719.out)
    have n6_:=Aside0.mk (blk_drew BK720.out)
    have n7_:=Aside0.mk (blk_drew BK729.out)
    have n8_:=Aside0.mk (blk_drew BK730.out)
    have n9_:=Aside0.mk (below_drew1 HB.out)
    clear HO_719000
    clear HO_720000
    clear HO724
    clear HO727
    clear BK718
    clear BK719
    clear BK720
    clear BK729
    clear BK730
    clear HB
    have HO_719000:=n0_
    have HO_720000:=n1_
    have HO724:=n2_
    have HO727:=n3_
    have BK718:=n4_
    have BK719:=n5_
    have BK720:=n6_
    have BK729:=n7_
    have BK730:=n8_
    have HB:=n9_
    clear n0_ n1_ n2_ n3_ n4_ n5_ n6_ n7_ n8_ n9_
    refine start_ (n:=4) (S:=fun w' => w'.cell? ⟨gb719,0,none⟩ = some (.slice Ao21 x720000_1.length co21) ∧ w'.cell? ⟨gb730,0,none⟩ = some (.slice Ao36 t725.length co36)) (ds:=[3]) #[false,false,false,false] (by kernel_rfl) rfl rfl ⟨(blk_cell BK719.out 0).trans rfl,(blk_cell BK730.out 0).trans rfl⟩ (fun hHeld => ?_)
    generalize w41.drew = w42 at HO_719000 HO_720000 HO724 HO727 BK718 BK719 BK720 BK729 BK730 HB hHeld ⊢
    refine take_ (i:=0) (N:=some 18) (v:=?_) (a':=?_) #[true,false,false,false] rfl rfl (by kernel_rfl) (fun _ _ _ h => h) (Or.inl ⟨by rfl,?_⟩) hHeld ?_ ?_
    rotate_left
    ·rintro w' ⟨s0,s1⟩
     go_simp
     with_reducible rfl
    rotate_left
    ·simp only [Act.put,List.setIfInBounds_toArray,List.set_cons_zero,List.set_cons_succ,i64_w,i32_w]
     rfl
    refine take_ (i:=1) (N:=some 19) (v:=?_) (a':=?_) #[true,true,false,false] rfl rfl (by kernel_rfl) (fun _ _ _ h => h) (Or.inl ⟨by rfl,?_⟩) hHeld ?_ ?_
    rotate_left
    ·rintro w' ⟨s0,s1⟩
     go_simp
     with_reducible rfl
    rotate_left
    ·simp only [Act.put,List.setIfInBounds_toArray,List.set_cons_zero,List.set_cons_succ,i64_w,i32_w]
     rfl
    refine one_ (i:=2) (N:=none) #[true,true,true,false] rfl rfl (by kernel_rfl) (by decide) (fun K hK => ?_)
    have hs43 : w42.cell? ⟨gb718,0,none⟩ = some (.slice Ao26 x719000_1.length co26):=(blk_cell BK718.out 0).trans rfl
    have hfs43:=blk_frozen BK718.out 0
    have hns43_1:=NB719_718.out
    have hns43_2:=NB720_718.out
    have hns43_3:=NB729_718.out
    have hns43_4:=NB730_718.out
    have hms43_1:=NB718_719.out
    have hms43_2:=NB718_720.out
    have hms43_3:=NB718_729.out
    have hms43_4:=NB718_730.out
    refine skip_ (w1:=?_) (by rfl) rfl ?_ ?_
    rotate_left
    ·go_simp
     rfl
    refine hK.out _ _ ⟨((cell_far (p:=⟨gb718,_,none⟩) NB719_718.out _).trans (hHeld.1)),((cell_far (p:=⟨gb718,_,none⟩) NB730_718.out _).trans (hHeld.2))⟩ (fun hHeld => ?_)
    clear hK K
    refine last_ (i:=3) (N:=none) #[true,true,true,true] rfl rfl (by kernel_rfl) (by decide) (fun K hK => ?_)
    have hs44 : w42.cell? ⟨gb719,0,none⟩ = some (.slice Ao21 x720000_1.length co21):=(blk_cell BK719.out 0).trans rfl
    have hfs44:=blk_frozen BK719.out 0
    have hns44_0:=NB718_719.out
    have hns44_2:=NB720_719.out
    have hns44_3:=NB729_719.out
    have hns44_4:=NB730_719.out
    have hms44_0:=NB719_718.out
    have hms44_2:=NB719_720.out
    have hms44_3:=NB719_729.out
    have hms44_4:=NB719_730.out
    refine skip_ (w1:=?_) (by rfl) rfl ?_ ?_
    rotate_left
    ·go_simp
     rfl
    refine hK.out _ _ ?_
    clear hK K
    refine done_ (by kernel_rfl) ?_
    try go_wp2
    go_roundg k1
    case measure => have:=HK1.out;omega
    case rel => exact ⟨(x720000_1),(t725),(.slice Ao21 x720000_1.length co21),(.slice Ao36 t725.length co36),H',⟨by have:=HK1.out;omega⟩,⟨by (with_reducible repeat (first|apply Kd.V_alloc|apply Kd.V_drewN|apply Kd.V_drew));exact Kd.V_mono (Kd.V_far (p:=⟨gb719,0,none⟩) (Kd.V_far (p:=⟨gb718,0,none⟩) (Kd.V_mono (Kd.V_mono HO_720000.out (fun k_ hk => (⟨hk,hk.2.1⟩ : _ ∧ k_ ≠ gb718))) (fun k_ hk => (⟨hk,hk.1.2.2.1⟩ : _ ∧ k_ ≠ gb719))) (fun _ hk => hk.1.2) (.slice Ao21 x720000_1.length co21)) (fun _ hk => hk.2) (.slice Ao36 t725.length co36)) (fun _ hk => ⟨hk.1.1.1,⟨hk.1.1.2.1,⟨hk.1.1.2.2.1,hk.1.1.2.2.2.1⟩⟩⟩)⟩,⟨by (with_reducible repeat (first|apply Kd.V_alloc|apply Kd.V_drewN|apply Kd.V_drew));exact Kd.V_mono (Kd.V_far (p:=⟨gb719,0,none⟩) (Kd.V_far (p:=⟨gb718,0,none⟩) (Kd.V_mono (Kd.V_mono HO727.out (fun k_ hk => (⟨hk,hk.2.1⟩ : _ ∧ k_ ≠ gb718))) (fun k_ hk => (⟨hk,hk.1.2.2.1⟩ : _ ∧ k_ ≠ gb719))) (fun _ hk => hk.1.2) (.slice Ao21 x720000_1.length co21)) (fun _ hk => hk.2) (.slice Ao36 t725.length co36)) (fun _ hk => ⟨hk.1.1.1,⟨hk.1.1.2.1,⟨hk.1.1.2.2.1,hk.1.1.2.2.2.1⟩⟩⟩)⟩,⟨by (with_reducible repeat (first|refine blk_drewN ?_ _|refine blk_drew ?_|refine blk_alloc ?_ _));refine blk_far ?_ NB718_719.out _;(with_reducible repeat (first|refine blk_drewN ?_ _|refine blk_drew ?_|refine blk_alloc ?_ _));refine blk_put (cs:=#[.slice Ao26 x719000_1.length co26]) ?_ 0 _ rfl;(with_reducible repeat (first|refine blk_drewN ?_ _|refine blk_drew ?_|refine blk_alloc ?_ _));exact BK718.out⟩,⟨by (with_reducible repeat (first|refine blk_drewN ?_ _|refine blk_drew ?_|refine blk_alloc ?_ _));refine blk_put (cs:=#[.slice Ao21 x720000_1.length co21]) ?_ 0 _ rfl;(with_reducible repeat (first|refine blk_drewN ?_ _|refine blk_drew ?_|refine blk_alloc ?_ _));refine blk_far ?_ NB719_718.out _;(with_reducible repeat (first|refine blk_drewN ?_ _|refine blk_drew ?_|refine blk_alloc ?_ _));exact BK719.out⟩,⟨by (with_reducible repeat (first|refine blk_drewN ?_ _|refine blk_drew ?_|refine blk_alloc ?_ _));refine blk_far ?_ NB720_719.out _;(with_reducible repeat (first|refine blk_drewN ?_ _|refine blk_drew ?_|refine blk_alloc ?_ _));refine blk_far ?_ NB720_718.out _;(with_reducible repeat (first|refine blk_drewN ?_ _|refine blk_drew ?_|refine blk_alloc ?_ _));exact BK720.out⟩,⟨by repeat (first|(with_reducible first|exact HB.out|apply below_alloc|apply pw_below_drewN|apply below_drew1|refine below_set ?_ GE718.out|refine below_set ?_ GE719.out|refine below_set ?_ GE720.out|refine below_set ?_ GE729.out|refine below_set ?_ GE730.out)|exact HB.out)⟩⟩
end Go.Proofs.Yteejcpbngnojkaa.P
end
section
namespace Go.Proofs.Yteejcpbngnojkaa.P
open Go.RowKit Go.Proofs.YteejcpbngnojkaaW.PrintWords Go.Proofs.YteejcpbngnojkaaW.PrintLast Go.Proofs.YteejcpbngnojkaaW.PrintMore
attribute [local go_sem] max2_int min2_int max_two min_two max_three min_three max_four min_four
set_option linter.unusedVariables false
set_option linter.unusedSimpArgs false
def sacristyref01_Cmp.l0 : Nat → List Bool → List Bool → Int → Option (Int)
 |0,_,_,_ => none
 |k + 1,x0,x1,x5 => if x5 ≥ 0 then (if 0 ≤ x5 then (if x5 < (x0.length : Int) then (if x5 < (x1.length : Int) then (if ((rdOf false x0 x5) != (rdOf false x1 x5)) = true then (if rdOf false x1 x5 = true then (some (-1)) else (some 1)) else (sacristyref01_Cmp.l0 k x0 x1 (wrap64 (x5 - 1)))) else (none)) else (none)) else (none)) else (some 0)
def sacristyref01_Cmp.f (k : Nat) (l0 : List Bool) (l1 : List Bool) : Option (Int):=if (l0.length : Int) < (l1.length : Int) then (some (-1)) else (if (l0.length : Int) > (l1.length : Int) then (some 1) else (sacristyref01_Cmp.l0 k l0 l1 (wrap64 ((l0.length : Int) - 1))))
theorem sacristyref01_Cmp.mono_l : ∀ k,(∀ y0 y1 y2,LeO (sacristyref01_Cmp.l0 k y0 y1 y2) (sacristyref01_Cmp.l0 (k + 1) y0 y1 y2))
 |0 => fun _ _ _ r h => by simp [sacristyref01_Cmp.l0] at h
 |k + 1 => by
  have ih0:=sacristyref01_Cmp.mono_l k
  ·intro y0 y1 y2
   unfold sacristyref01_Cmp.l0
   repeat' first
   |(with_reducible exact ih0 _ _ _)
   |(with_reducible exact LeO.refl _)
   |(with_reducible exact LeO.none _)
   |(with_reducible refine LeO.ite ?_ ?_)
   |(with_reducible refine LeO.bind ?_ (fun _ => ?_))
   |exact ih0 _ _ _
   |exact LeO.none _
   |refine LeO.ite ?_ ?_
   |refine LeO.bind ?_ (fun _ => ?_)
theorem sacristyref01_Cmp.mono : ∀ a0 a1 k,LeO (sacristyref01_Cmp.f k a0 a1) (sacristyref01_Cmp.f (k + 1) a0 a1):=by
 intro a0 a1 k
 have ih0:=sacristyref01_Cmp.mono_l k
 unfold sacristyref01_Cmp.f
 repeat' first
   |(with_reducible exact ih0 _ _ _)
   |(with_reducible exact LeO.refl _)
   |(with_reducible exact LeO.none _)
   |(with_reducible refine LeO.ite ?_ ?_)
   |(with_reducible refine LeO.bind ?_ (fun _ => ?_))
   |exact ih0 _ _ _
   |exact LeO.none _
   |refine LeO.ite ?_ ?_
   |refine LeO.bind ?_ (fun _ => ?_)
set_option maxHeartbeats 8000000 in
set_option maxRecDepth 100000 in
theorem sacristyref01_Cmp.calls (k : Nat) (A0 : Option Addr) (c0 : Nat) (l0 : List Bool) (A1 : Option Addr) (c1 : Nat) (l1 : List Bool) (r : Int) (w : World) (hr0 : Kd.C Kd.bool w A0 l0.length l0) (hc0 : l0.length ≤ c0) (hr1 : Kd.C Kd.bool w A1 l1.length l1) (hc1 : l1.length ≤ c1) (h : sacristyref01_Cmp.f k l0 l1 = some r) :
  Calls Try.prog 46 #[.slice A0 l0.length c0,.slice A1 l1.length c1] w fun e w' => e = .returned (.int .i64 r) ∧ Drawn0 w w':=by
 have HR0:=Aside0.mk hr0
 have HC0:=Aside0.mk hc0
 clear hr0 hc0
 have HR1:=Aside0.mk hr1
 have HC1:=Aside0.mk hc1
 clear hr1 hc1
 have H : (if (l0.length : Int) < (l1.length : Int) then (some (-1)) else (if (l0.length : Int) > (l1.length : Int) then (some 1) else (sacristyref01_Cmp.l0 k l0 l1 (wrap64 ((l0.length : Int) - 1))))) = some r:=h
 clear h
 by_cases c3 : (l0.length : Int) < (l1.length : Int)
 ·rw [if_pos c3] at H
  have c3b0 : decide ((l0.length : Int) < (l1.length : Int)) = true:=decide_eq_true c3
  have c3b1 : decide (l0.length < l1.length) = true:=decide_eq_true (Int.ofNat_lt.mp c3)
  clear c3
  obtain rfl:=Option.some.inj H
  go_enter Try.func46,Try.ntmps46
  go_wp2
  repeat (go_quiet (fail);try go_wp2)
  (first|go_ret|(refine ⟨_,results_tmp rfl _ _ _,?_⟩))
  exact ⟨by first|rfl|(simp;done)|(simp [*];done),by repeat (first|exact Drawn0.refl _|apply Drawn0.step)⟩
 ·rw [if_neg c3] at H
  have c3b0 : decide ((l0.length : Int) < (l1.length : Int)) = false:=decide_eq_false c3
  have c3b1 : decide (l0.length < l1.length) = false:=decide_eq_false (fun h => c3 (Int.ofNat_lt.mpr h))
  clear c3
  by_cases c4 : (l0.length : Int) > (l1.length : Int)
  ·rw [if_pos c4] at H
   have c4b0 : decide ((l1.length : Int) < (l0.length : Int)) = true:=decide_eq_true c4
   have c4b1 : decide (l1.length < l0.length) = true:=decide_eq_true (Int.ofNat_lt.mp c4)
   clear c4
   obtain rfl:=Option.some.inj H
   go_enter Try.func46,Try.ntmps46
   go_wp2
   repeat (go_quiet (fail);try go_wp2)
   (first|go_ret|(refine ⟨_,results_tmp rfl _ _ _,?_⟩))
   exact ⟨by first|rfl|(simp;done)|(simp [*];done),by repeat (first|exact Drawn0.refl _|apply Drawn0.step)⟩
  ·rw [if_neg c4] at H
   have c4b0 : decide ((l1.length : Int) < (l0.length : Int)) = false:=decide_eq_false c4
   have c4b1 : decide (l1.length < l0.length) = false:=decide_eq_false (fun h => c4 (Int.ofNat_lt.mpr h))
   clear c4
   have H':=Aside0.mk H
   clear H
   go_enter Try.func46,Try.ntmps46
   go_wp2
   repeat (go_quiet (fail);try go_wp2)
   go_loopg [5] k (fun kq v5 w' => ∃ (x5_1 : Int),v5 = .int .i64 x5_1 ∧ Aside0 (sacristyref01_Cmp.l0 kq l0 l1 x5_1 = some r) ∧ Aside0 (kq ≤ k) ∧ Drawn0 w w')
   case atStart => exact ⟨(wrap64 ((l0.length : Int) - 1)),(by first|rfl|(simp;done)|(simp [*];done)),H',⟨Nat.le_refl _⟩,by repeat (first|exact Drawn0.refl _|apply Drawn0.step)⟩
   case round =>
    clear H'
    try clear c1
    try clear p2
    try clear c3
    try clear c3b0
    try clear c3b1
    try clear c4
    try clear c4b0
    try clear c4b1
    obtain ⟨x5_1,rfl,HA,HK1,⟨m1,rfl⟩⟩:=hrel
    cases gk with
    |zero => exact absurd HA.out (by simp [sacristyref01_Cmp.l0])
    |succ k1 =>
     have H:=HA.out
     clear HA
     simp only [sacristyref01_Cmp.l0] at H
     by_cases c5 : x5_1 ≥ 0
     ·rw [if_pos c5] at H
      have c5b0 : decide (0 ≤ x5_1) = true:=decide_eq_true c5
      clear c5
      by_cases c6 : 0 ≤ x5_1
      ·rw [if_pos c6] at H
       have c6b0 : decide (0 ≤ x5_1) = true:=decide_eq_true c6
       clear c6
       by_cases c7 : x5_1 < (l0.length : Int)
       ·rw [if_pos c7] at H
        have c7b0 : decide (x5_1 < (l0.length : Int)) = true:=decide_eq_true c7
        clear c7
        by_cases c8 : x5_1 < (l1.length : Int)
        ·rw [if_pos c8] at H
         have c8b0 : decide (x5_1 < (l1.length : Int)) = true:=decide_eq_true c8
         clear c8
         by_cases c9 : ((rdOf false l0 x5_1) != (rdOf false l1 x5_1)) = true
         ·rw [if_pos c9] at H
          have c9b0 : ((rdOf false l0 x5_1) != (rdOf false l1 x5_1)) = true:=c9
          (try (have c9b1 : decide ((rdOf false l0 x5_1) = (rdOf false l1 x5_1)) = false:=by simpa using c9))
          (try (have c9b2 : ((rdOf false l0 x5_1) == (rdOf false l1 x5_1)) = false:=by simpa using c9))
          (try (have c9b3 : ¬ ((rdOf false l0 x5_1) = (rdOf false l1 x5_1)):=by simpa using c9))
          clear c9
          obtain ⟨bq10,hbq10⟩ : ∃ b_ : Bool,b_ = (rdOf false l1 x5_1):=⟨_,rfl⟩
          replace H : (if bq10 = true then (some (-1)) else (some 1)) = some r:=by rw [← hbq10] at H;exact H
          have Nbq10:=Aside0.mk hbq10
          clear hbq10
          by_cases c11 : bq10 = true
          ·subst c11
           have H1 : (some (-1)) = some r:=by rw [if_pos rfl] at H;exact H
           clear H
           have H:=H1
           clear H1
           obtain rfl:=Option.some.inj H
           have p517 : 0 ≤ (x5_1 : Int):=of_decide_eq_true (by first|(with_reducible assumption)|assumption)
           have q517 : x5_1 < (l0.length : Int):=of_decide_eq_true (by first|(with_reducible assumption)|assumption)
           obtain ⟨ad517,e517,hx517_0⟩:=Kd.at_bool HR0.out x5_1 p517 q517
           (try rw [← Nbq10.out] at hx517_0)
           cases e517
           replace p517:=eq_true p517
           replace q517:=eq_true q517
           have p518 : 0 ≤ (x5_1 : Int):=of_decide_eq_true (by first|(with_reducible assumption)|assumption)
           have q518 : x5_1 < (l1.length : Int):=of_decide_eq_true (by first|(with_reducible assumption)|assumption)
           obtain ⟨ad518,e518,hx518_0⟩:=Kd.at_bool HR1.out x5_1 p518 q518
           (try rw [← Nbq10.out] at hx518_0)
           cases e518
           replace p518:=eq_true p518
           replace q518:=eq_true q518
           have p519 : 0 ≤ (x5_1 : Int):=of_decide_eq_true (by first|(with_reducible assumption)|assumption)
           have q519 : x5_1 < (l1.length : Int):=of_decide_eq_true (by first|(with_reducible assumption)|assumption)
           obtain ⟨ad519,e519,hx519_0⟩:=Kd.at_bool HR1.out x5_1 p519 q519
           (try rw [← Nbq10.out] at hx519_0)
           obtain rfl : ad518 = ad519:=(by injection e519)
           replace p519:=eq_true p519
           replace q519:=eq_true q519
           have hz:=c9b0
           rw [← Nbq10.out] at hz
           have hz2 : rdOf false l0 x5_1 = false:=by simpa using hz
           rw [hz2] at hx517_0
           clear hz hz2 c9b0 c9b1 c9b2 c9b3
           go_wp2
           repeat (go_quiet (fail);try go_wp2)
           (first|go_ret|(refine ⟨_,results_tmp rfl _ _ _,?_⟩))
           exact ⟨by first|rfl|(simp;done)|(simp [*];done),by repeat (first|exact Drawn0.refl _|apply Drawn0.step)⟩
          ·replace c11:=Bool.eq_false_iff.mpr c11
           subst c11
           have H1 : (some 1) = some r:=by rw [if_neg (show ¬ (false = true) by decide)] at H;exact H
           clear H
           have H:=H1
           clear H1
           obtain rfl:=Option.some.inj H
           have p517 : 0 ≤ (x5_1 : Int):=of_decide_eq_true (by first|(with_reducible assumption)|assumption)
           have q517 : x5_1 < (l0.length : Int):=of_decide_eq_true (by first|(with_reducible assumption)|assumption)
           obtain ⟨ad517,e517,hx517_0⟩:=Kd.at_bool HR0.out x5_1 p517 q517
           (try rw [← Nbq10.out] at hx517_0)
           cases e517
           replace p517:=eq_true p517
           replace q517:=eq_true q517
           have p518 : 0 ≤ (x5_1 : Int):=of_decide_eq_true (by first|(with_reducible assumption)|assumption)
           have q518 : x5_1 < (l1.length : Int):=of_decide_eq_true (by first|(with_reducible assumption)|assumption)
           obtain ⟨ad518,e518,hx518_0⟩:=Kd.at_bool HR1.out x5_1 p518 q518
           (try rw [← Nbq10.out] at hx518_0)
           cases e518
           replace p518:=eq_true p518
           replace q518:=eq_true q518
           have p519 : 0 ≤ (x5_1 : Int):=of_decide_eq_true (by first|(with_reducible assumption)|assumption)
           have q519 : x5_1 < (l1.length : Int):=of_decide_eq_true (by first|(with_reducible assumption)|assumption)
           obtain ⟨ad519,e519,hx519_0⟩:=Kd.at_bool HR1.out x5_1 p519 q519
           (try rw [← Nbq10.out] at hx519_0)
           obtain rfl : ad518 = ad519:=(by injection e519)
           replace p519:=eq_true p519
           replace q519:=eq_true q519
           have hz:=c9b0
           rw [← Nbq10.out] at hz
           have hz2 : rdOf false l0 x5_1 = true:=by simpa using hz
           rw [hz2] at hx517_0
           clear hz hz2 c9b0 c9b1 c9b2 c9b3
           go_wp2
           repeat (go_quiet (fail);try go_wp2)
           (first|go_ret|(refine ⟨_,results_tmp rfl _ _ _,?_⟩))
           exact ⟨by first|rfl|(simp;done)|(simp [*];done),by repeat (first|exact Drawn0.refl _|apply Drawn0.step)⟩
         ·rw [if_neg c9] at H
          have c9b0 : ((rdOf false l0 x5_1) != (rdOf false l1 x5_1)) = false:=by simpa using c9
          (try (have c9b1 : decide ((rdOf false l0 x5_1) = (rdOf false l1 x5_1)) = true:=by simpa using c9))
          (try (have c9b2 : ((rdOf false l0 x5_1) == (rdOf false l1 x5_1)) = true:=by simpa using c9))
          clear c9
          have H':=Aside0.mk H
          clear H
          have p517 : 0 ≤ (x5_1 : Int):=of_decide_eq_true (by first|(with_reducible assumption)|assumption)
          have q517 : x5_1 < (l0.length : Int):=of_decide_eq_true (by first|(with_reducible assumption)|assumption)
          obtain ⟨ad517,e517,hx517_0⟩:=Kd.at_bool HR0.out x5_1 p517 q517
          cases e517
          replace p517:=eq_true p517
          replace q517:=eq_true q517
          have p518 : 0 ≤ (x5_1 : Int):=of_decide_eq_true (by first|(with_reducible assumption)|assumption)
          have q518 : x5_1 < (l1.length : Int):=of_decide_eq_true (by first|(with_reducible assumption)|assumption)
          obtain ⟨ad518,e518,hx518_0⟩:=Kd.at_bool HR1.out x5_1 p518 q518
          cases e518
          replace p518:=eq_true p518
          replace q518:=eq_true q518
          go_wp2
          repeat (go_quiet (fail);try go_wp2)
          go_roundg k1
          case measure => have:=HK1.out;omega
          case rel => exact ⟨(wrap64 (x5_1 - 1)),(by first|rfl|(simp;done)|(simp [*];done)),H',⟨by have:=HK1.out;omega⟩,by repeat (first|exact Drawn0.refl _|apply Drawn0.step)⟩
        ·rw [if_neg c8] at H
         exact absurd H (by simp)
       ·rw [if_neg c7] at H
        exact absurd H (by simp)
      ·rw [if_neg c6] at H
       exact absurd H (by simp)
     ·rw [if_neg c5] at H
      have c5b0 : decide (0 ≤ x5_1) = false:=decide_eq_false c5
      clear c5
      obtain rfl:=Option.some.inj H
      go_wp2
      repeat (go_quiet (fail);try go_wp2)
      (first|go_ret|(refine ⟨_,results_tmp rfl _ _ _,?_⟩))
      exact ⟨by first|rfl|(simp;done)|(simp [*];done),by repeat (first|exact Drawn0.refl _|apply Drawn0.step)⟩
end Go.Proofs.Yteejcpbngnojkaa.P
end
section
namespace Go.Proofs.Yteejcpbngnojkaa.P
open Go.RowKit Go.Proofs.YteejcpbngnojkaaW.PrintWords Go.Proofs.YteejcpbngnojkaaW.PrintLast Go.Proofs.YteejcpbngnojkaaW.PrintMore
attribute [local go_sem] max2_int min2_int max_two min_two max_three min_three max_four min_four
set_option linter.unusedVariables false
set_option linter.unusedSimpArgs false
def sacristyref01_at.f (l0 : List Bool) (a1 : Int) : Option (Int):=if a1 ≥ 0 then (if a1 < (l0.length : Int) then (if 0 ≤ a1 then (if rdOf false l0 a1 = true then (some 1) else (some 0)) else (none)) else (some 0)) else (some 0)
set_option maxHeartbeats 8000000 in
set_option maxRecDepth 100000 in
theorem sacristyref01_at.calls (A0 : Option Addr) (c0 : Nat) (l0 : List Bool) (a1 : Int) (r : Int) (w : World) (hr0 : Kd.C Kd.bool w A0 l0.length l0) (hc0 : l0.length ≤ c0) (h : sacristyref01_at.f l0 a1 = some r) :
  Calls Try.prog 112 #[.slice A0 l0.length c0,.int .i64 a1] w fun e w' => e = .returned (.int .i64 r) ∧ Drawn0 w w':=by
 have HR0:=Aside0.mk hr0
 have HC0:=Aside0.mk hc0
 clear hr0 hc0
 have H : (if a1 ≥ 0 then (if a1 < (l0.length : Int) then (if 0 ≤ a1 then (if rdOf false l0 a1 = true then (some 1) else (some 0)) else (none)) else (some 0)) else (some 0)) = some r:=h
 clear h
 by_cases c3 : a1 ≥ 0
 ·rw [if_pos c3] at H
  have c3b0 : decide (0 ≤ a1) = true:=decide_eq_true c3
  clear c3
  by_cases c4 : a1 < (l0.length : Int)
  ·rw [if_pos c4] at H
   have c4b0 : decide (a1 < (l0.length : Int)) = true:=decide_eq_true c4
   clear c4
   by_cases c5 : 0 ≤ a1
   ·rw [if_pos c5] at H
    have c5b0 : decide (0 ≤ a1) = true:=decide_eq_true c5
    clear c5
    obtain ⟨bq6,hbq6⟩ : ∃ b_ : Bool,b_ = (rdOf false l0 a1):=⟨_,rfl⟩
    replace H : (if bq6 = true then (some 1) else (some 0)) = some r:=by rw [← hbq6] at H;exact H
    have Nbq6:=Aside0.mk hbq6
    clear hbq6
    by_cases c7 : bq6 = true
    ·subst c7
     have H1 : (some 1) = some r:=by rw [if_pos rfl] at H;exact H
     clear H
     have H:=H1
     clear H1
     obtain rfl:=Option.some.inj H
     have p731 : 0 ≤ (a1 : Int):=of_decide_eq_true (by first|(with_reducible assumption)|assumption)
     have q731 : a1 < (l0.length : Int):=of_decide_eq_true (by first|(with_reducible assumption)|assumption)
     obtain ⟨ad731,e731,hx731_0⟩:=Kd.at_bool HR0.out a1 p731 q731
     (try rw [← Nbq6.out] at hx731_0)
     cases e731
     replace p731:=eq_true p731
     replace q731:=eq_true q731
     go_enter Try.func112,Try.ntmps112
     go_wp2
     (first|go_ret|(refine ⟨_,results_tmp rfl _ _ _,?_⟩))
     exact ⟨by first|rfl|(simp;done)|(simp [*];done),by repeat (first|exact Drawn0.refl _|apply Drawn0.step)⟩
    ·replace c7:=Bool.eq_false_iff.mpr c7
     subst c7
     have H1 : (some 0) = some r:=by rw [if_neg (show ¬ (false = true) by decide)] at H;exact H
     clear H
     have H:=H1
     clear H1
     obtain rfl:=Option.some.inj H
     have p731 : 0 ≤ (a1 : Int):=of_decide_eq_true (by first|(with_reducible assumption)|assumption)
     have q731 : a1 < (l0.length : Int):=of_decide_eq_true (by first|(with_reducible assumption)|assumption)
     obtain ⟨ad731,e731,hx731_0⟩:=Kd.at_bool HR0.out a1 p731 q731
     (try rw [← Nbq6.out] at hx731_0)
     cases e731
     replace p731:=eq_true p731
     replace q731:=eq_true q731
     go_enter Try.func112,Try.ntmps112
     go_wp2
     (first|go_ret|(refine ⟨_,results_tmp rfl _ _ _,?_⟩))
     exact ⟨by first|rfl|(simp;done)|(simp [*];done),by repeat (first|exact Drawn0.refl _|apply Drawn0.step)⟩
   ·rw [if_neg c5] at H
    exact absurd H (by simp)
  ·rw [if_neg c4] at H
   have c4b0 : decide (a1 < (l0.length : Int)) = false:=decide_eq_false c4
   clear c4
   obtain rfl:=Option.some.inj H
   go_enter Try.func112,Try.ntmps112
   go_wp2
   (first|go_ret|(refine ⟨_,results_tmp rfl _ _ _,?_⟩))
   exact ⟨by first|rfl|(simp;done)|(simp [*];done),by repeat (first|exact Drawn0.refl _|apply Drawn0.step)⟩
 ·rw [if_neg c3] at H
  have c3b0 : decide (0 ≤ a1) = false:=decide_eq_false c3
  clear c3
  obtain rfl:=Option.some.inj H
  go_enter Try.func112,Try.ntmps112
  go_wp2
  (first|go_ret|(refine ⟨_,results_tmp rfl _ _ _,?_⟩))
  exact ⟨by first|rfl|(simp;done)|(simp [*];done),by repeat (first|exact Drawn0.refl _|apply Drawn0.step)⟩
end Go.Proofs.Yteejcpbngnojkaa.P
end
section
namespace Go.Proofs.Yteejcpbngnojkaa.P
open Go.RowKit Go.Proofs.YteejcpbngnojkaaW.PrintWords Go.Proofs.YteejcpbngnojkaaW.PrintLast Go.Proofs.YteejcpbngnojkaaW.PrintMore
attribute [local go_sem] max2_int min2_int max_two min_two max_three min_three max_four min_four
set_option linter.unusedVariables false
set_option linter.unusedSimpArgs false
def sacristyref01_Sub.l0 : Nat → List Bool → List Bool → List Bool → Int → Int → Option (List Bool)
 |0,_,_,_,_,_ => none
 |k + 1,x0,x1,x5,x6,x7 => if x7 < (x0.length : Int) then ((sacristyref01_at.f x0 x7).bind fun t738 => ((sacristyref01_at.f x1 x7).bind fun t739 => (if (wrap64 ((wrap64 (t738 - t739)) - x6)) < 0 then (if x5.length < 140737488355328 then (sacristyref01_Sub.l0 k x0 x1 (x5 ++ [((wrap64 ((wrap64 ((wrap64 (t738 - t739)) - x6)) + 2)) == 1)]) 1 (wrap64 (x7 + 1))) else (none)) else (if x5.length < 140737488355328 then (sacristyref01_Sub.l0 k x0 x1 (x5 ++ [((wrap64 ((wrap64 (t738 - t739)) - x6)) == 1)]) 0 (wrap64 (x7 + 1))) else (none))))) else ((sacristyref01_Trim.f k x5).bind fun t735 => (some t735))
def sacristyref01_Sub.f (k : Nat) (l0 : List Bool) (l1 : List Bool) : Option (List Bool):=sacristyref01_Sub.l0 k l0 l1 (([] : List Bool)) 0 0
theorem sacristyref01_Sub.mono_l : ∀ k,(∀ y0 y1 y2 y3 y4,LeO (sacristyref01_Sub.l0 k y0 y1 y2 y3 y4) (sacristyref01_Sub.l0 (k + 1) y0 y1 y2 y3 y4))
 |0 => fun _ _ _ _ _ r h => by simp [sacristyref01_Sub.l0] at h
 |k + 1 => by
  have ih0:=sacristyref01_Sub.mono_l k
  ·intro y0 y1 y2 y3 y4
   unfold sacristyref01_Sub.l0
   repeat' first
   |(with_reducible exact ih0 _ _ _ _ _)
   |(with_reducible exact sacristyref01_Trim.mono _ _)
   |(with_reducible exact LeO.refl _)
   |(with_reducible exact LeO.none _)
   |(with_reducible refine LeO.ite ?_ ?_)
   |(with_reducible refine LeO.bind ?_ (fun _ => ?_))
   |exact ih0 _ _ _ _ _
   |exact sacristyref01_Trim.mono _ _
   |exact LeO.none _
   |refine LeO.ite ?_ ?_
   |refine LeO.bind ?_ (fun _ => ?_)
theorem sacristyref01_Sub.mono : ∀ a0 a1 k,LeO (sacristyref01_Sub.f k a0 a1) (sacristyref01_Sub.f (k + 1) a0 a1):=by
 intro a0 a1 k
 have ih0:=sacristyref01_Sub.mono_l k
 unfold sacristyref01_Sub.f
 repeat' first
   |(with_reducible exact ih0 _ _ _ _ _)
   |(with_reducible exact sacristyref01_Trim.mono _ _)
   |(with_reducible exact LeO.refl _)
   |(with_reducible exact LeO.none _)
   |(with_reducible refine LeO.ite ?_ ?_)
   |(with_reducible refine LeO.bind ?_ (fun _ => ?_))
   |exact ih0 _ _ _ _ _
   |exact sacristyref01_Trim.mono _ _
   |exact LeO.none _
   |refine LeO.ite ?_ ?_
   |refine LeO.bind ?_ (fun _ => ?_)
set_option maxHeartbeats 8000000 in
set_option maxRecDepth 100000 in
theorem sacristyref01_Sub.calls (k : Nat) (A0 : Option Addr) (c0 : Nat) (l0 : List Bool) (A1 : Option Addr) (c1 : Nat) (l1 : List Bool) (r : List Bool) (w : World) (hr0 : Kd.C Kd.bool w A0 l0.length l0) (hc0 : l0.length ≤ c0) (hr1 : Kd.C Kd.bool w A1 l1.length l1) (hc1 : l1.length ≤ c1) (h : sacristyref01_Sub.f k l0 l1 = some r) :
  Calls Try.prog 63 #[.slice A0 l0.length c0,.slice A1 l1.length c1] w fun e w' => ∃ v0_ : Value,e = .returned (v0_) ∧ Kd.V Kd.bool 4 w' w.heap.size (fun k_ => (w.heap.size ≤ k_)) v0_ r ∧ Below w.heap.size w w':=by
 have HR0:=Aside0.mk hr0
 have HC0:=Aside0.mk hc0
 clear hr0 hc0
 have HR1:=Aside0.mk hr1
 have HC1:=Aside0.mk hc1
 clear hr1 hc1
 have HB:=Aside0.mk (Below.refl w.heap.size w)
 have H : (sacristyref01_Sub.l0 k l0 l1 (([] : List Bool)) 0 0) = some r:=h
 clear h
 obtain ⟨y732,hy732⟩ : ∃ y_ : List Bool,y_ = (([] : List Bool)):=⟨_,rfl⟩
 replace H : (sacristyref01_Sub.l0 k l0 l1 y732 0 0) = some r:=by first|(rw [hy732];with_reducible exact H)|(have H2_:=(Option.bind_some _ _).symm.trans H;rw [hy732];with_reducible exact H2_)|(have H2_:=(Option.bind_some _ _).symm.trans H;with_reducible exact H2_)|with_reducible exact H|(rw [hy732];exact H)|exact H
 have Ny732:=Aside0.mk hy732
 clear hy732
 have H':=Aside0.mk H
 clear H
 go_enter Try.func63,Try.ntmps63
 go_wp2_with (first|((with_reducible refine gate_dst (N:=9) rfl ?_);refine Kd.R_lit Kd.bool _ 4 ?hg (N:=9) ?hd (xs:=([] : List Bool)) (inner:=[]) (ok:=fun _ => True) (okp:=fun _ => True) ?hr ?hp (fun _ hk => hk) trivial (Below.refl _ _) (Nat.le_refl _) (by simp) ?_;(case hd => rfl);(case hg => rfl);(case hr => first|(go_simp;done)|(go_simp;rfl));(case hp => exact (Reps.none _ _));intro v733 w3 ho4 hb hg_ hnew_;clear hg_ hnew_;(first|rw [← Ny732.out] at ho4|(simp only [Int.reduceToNat] at ho4;rw [← Ny732.out] at ho4));have n0_:=Aside0.mk (Kd.R_lower (Kd.R_newM (M:=fun k_ => (w.heap.size ≤ k_)) ho4 (below_size (by repeat (first|(with_reducible first|exact HB.out|apply below_alloc|apply pw_below_drewN|apply below_drew1)|exact HB.out))) (fun k_ h_ => h_)) (below_size (by repeat (first|(with_reducible first|exact HB.out|apply below_alloc|apply pw_below_drewN|apply below_drew1)|exact HB.out))));have n1_:=Aside0.mk (below_step (by repeat (first|(with_reducible first|exact HB.out|apply below_alloc|apply pw_below_drewN|apply below_drew1)|exact HB.out)) hb);clear HB;have HO734:=n0_;have HB:=n1_;clear n0_ n1_;clear hb ho4))
 go_loopg [5,6,7] k (fun kq v5 v6 v7 w' => ∃ (x5_1 : List Bool) (x6_1 : Int) (x7_1 : Int),v6 = .int .i64 x6_1 ∧ v7 = .int .i64 x7_1 ∧ Aside0 (sacristyref01_Sub.l0 kq l0 l1 x5_1 x6_1 x7_1 = some r) ∧ Aside0 (kq ≤ k) ∧ Aside0 (Kd.R Kd.bool 4 w' w.heap.size (fun k_ => (w.heap.size ≤ k_)) v5 x5_1) ∧ Aside0 (Below w.heap.size w w'))
 case atStart => exact ⟨(y732),(0),(0),(by first|rfl|(simp;done)|(simp [*];done)),(by first|rfl|(simp;done)|(simp [*];done)),H',⟨Nat.le_refl _⟩,⟨by (with_reducible repeat (first|apply Kd.R_alloc|apply Kd.R_drewN|apply Kd.R_drew));exact Kd.R_mono HO734.out (fun _ hk => hk.1)⟩,⟨by repeat (first|(with_reducible first|exact HB.out|apply below_alloc|apply pw_below_drewN|apply below_drew1)|exact HB.out)⟩⟩
 case round =>
  clear H'
  try clear c1
  try clear p2
  obtain ⟨x5_1,x6_1,x7_1,rfl,rfl,HA,HK1,HO_5,HB⟩:=hrel
  cases gk with
  |zero => exact absurd HA.out (by simp [sacristyref01_Sub.l0])
  |succ k1 =>
   have H:=HA.out
   clear HA
   simp only [sacristyref01_Sub.l0] at H
   by_cases c5 : x7_1 < (l0.length : Int)
   ·rw [if_pos c5] at H
    have c5b0 : decide (x7_1 < (l0.length : Int)) = true:=decide_eq_true c5
    clear c5
    replace H:=Option.bind_eq_some_iff.mp H
    obtain ⟨t738,A60,H⟩:=H
    replace H : ((sacristyref01_at.f l1 x7_1).bind fun t739 => (if (wrap64 ((wrap64 (t738 - t739)) - x6_1)) < 0 then (if x5_1.length < 140737488355328 then (sacristyref01_Sub.l0 k1 l0 l1 (x5_1 ++ [((wrap64 ((wrap64 ((wrap64 (t738 - t739)) - x6_1)) + 2)) == 1)]) 1 (wrap64 (x7_1 + 1))) else (none)) else (if x5_1.length < 140737488355328 then (sacristyref01_Sub.l0 k1 l0 l1 (x5_1 ++ [((wrap64 ((wrap64 (t738 - t739)) - x6_1)) == 1)]) 0 (wrap64 (x7_1 + 1))) else (none)))) = some r:=H
    have A6:=Aside0.mk A60
    clear A60
    replace H:=Option.bind_eq_some_iff.mp H
    obtain ⟨t739,A70,H⟩:=H
    replace H : (if (wrap64 ((wrap64 (t738 - t739)) - x6_1)) < 0 then (if x5_1.length < 140737488355328 then (sacristyref01_Sub.l0 k1 l0 l1 (x5_1 ++ [((wrap64 ((wrap64 ((wrap64 (t738 - t739)) - x6_1)) + 2)) == 1)]) 1 (wrap64 (x7_1 + 1))) else (none)) else (if x5_1.length < 140737488355328 then (sacristyref01_Sub.l0 k1 l0 l1 (x5_1 ++ [((wrap64 ((wrap64 (t738 - t739)) - x6_1)) == 1)]) 0 (wrap64 (x7_1 + 1))) else (none))) = some r:=H
    have A7:=Aside0.mk A70
    clear A70
    by_cases c8 : (wrap64 ((wrap64 (t738 - t739)) - x6_1)) < 0
    ·rw [if_pos c8] at H
     have c8b0 : decide ((wrap64 ((wrap64 (t738 - t739)) - x6_1)) < 0) = true:=decide_eq_true c8
     clear c8
     by_cases c9 : x5_1.length < 140737488355328
     ·rw [if_pos c9] at H
      have LMc9:=Aside0.mk c9
      clear c9
      obtain ⟨y740,hy740⟩ : ∃ y_ : List Bool,y_ = (x5_1 ++ [((wrap64 ((wrap64 ((wrap64 (t738 - t739)) - x6_1)) + 2)) == 1)]):=⟨_,rfl⟩
      replace H : (sacristyref01_Sub.l0 k1 l0 l1 y740 1 (wrap64 (x7_1 + 1))) = some r:=by first|(rw [hy740];with_reducible exact H)|(have H2_:=(Option.bind_some _ _).symm.trans H;rw [hy740];with_reducible exact H2_)|(have H2_:=(Option.bind_some _ _).symm.trans H;with_reducible exact H2_)|with_reducible exact H|(rw [hy740];exact H)|exact H
      have Ny740:=Aside0.mk hy740
      clear hy740
      have H':=Aside0.mk H
      clear H
      go_wp2_with (first|((with_reducible refine gate_callee (f:=112) rfl ?_);refine goesL_ (some 18) rfl rfl Try.func112 (by kernel_rfl) rfl #[.slice A0 l0.length c0,.int .i64 x7_1] rfl (by (try simp only [List.map_toArray,List.map_cons,List.map_nil]);first|done|rfl|(simp only [List.length_drop,List.length_take];rfl)) ?_;(with_reducible refine (sacristyref01_at.calls _ _ l0 x7_1 t738 _ ?side1 ?side2 A6.out).mono ?_);(case side1 => repeat (first|exact (Kd.C_below HR0.out HB.out)|(with_reducible refine Kd.C_alloc ?_ _)|(with_reducible refine Kd.C_drewN ?_ _)|(with_reducible refine Kd.C_drew ?_)));(case side2 => exact HC0.out);rintro e w' ⟨rfl,⟨nd,rfl⟩⟩;refine ⟨_,rfl,?_⟩)|((with_reducible refine gate_callee (f:=112) rfl ?_);refine goesL_ (some 21) rfl rfl Try.func112 (by kernel_rfl) rfl #[.slice A1 l1.length c1,.int .i64 x7_1] rfl (by (try simp only [List.map_toArray,List.map_cons,List.map_nil]);first|done|rfl|(simp only [List.length_drop,List.length_take];rfl)) ?_;(with_reducible refine (sacristyref01_at.calls _ _ l1 x7_1 t739 _ ?side1 ?side2 A7.out).mono ?_);(case side1 => repeat (first|exact (Kd.C_below HR1.out (by repeat (first|(with_reducible first|exact HB.out|apply below_alloc|apply pw_below_drewN|apply below_drew1)|exact HB.out)))|(with_reducible refine Kd.C_alloc ?_ _)|(with_reducible refine Kd.C_drewN ?_ _)|(with_reducible refine Kd.C_drew ?_)));(case side2 => exact HC1.out);rintro e w' ⟨rfl,⟨nd,rfl⟩⟩;refine ⟨_,rfl,?_⟩)|((with_reducible refine gate_builtin (b:=.append) (xs:=#[.tmp 29,.tmp 32]) rfl ?_);at_builtin;refine Kd.R_append Kd.bool (w0:=w) w.heap.size rfl (.tmp 29) (.tmp 32) 42 4 (.bool false) 1 rfl Try.underlying42 info4 rfl (by decide) (by omega) u5 x5_1 ((wrap64 ((wrap64 ((wrap64 (t738 - t739)) - x6_1)) + 2)) == 1) [.bool ((wrap64 ((wrap64 ((wrap64 (t738 - t739)) - x6_1)) + 2)) == 1)] (fun k_ => (w.heap.size ≤ k_)) (fun _ => False) rfl rfl ?aP (fun _ hk => hk.elim) ?aF ?aO ?aB ?aS ?aL ?_;(case aP => exact rfl);(case aB => exact (by repeat (first|(with_reducible first|exact HB.out|apply below_alloc|apply pw_below_drewN|apply below_drew1)|exact HB.out)));(case aF => exact (fun k_ hk => (Nat.le_trans (below_size (by repeat (first|(with_reducible first|exact HB.out|apply below_alloc|apply pw_below_drewN|apply below_drew1)|exact HB.out))) hk)));(case aO => exact (by (with_reducible repeat (first|apply Kd.R_alloc|apply Kd.R_drewN|apply Kd.R_drew));exact HO_5.out));(case aS => exact (below_size (by repeat (first|(with_reducible first|exact HB.out|apply below_alloc|apply pw_below_drewN|apply below_drew1)|exact HB.out))));(case aL => have:=LMc9.out;omega);intro v741 w10 ho hb hg hat;rw [← Ny740.out] at ho;have n0_:=Aside0.mk (hb);have n1_:=Aside0.mk (ho);clear HB;clear HO_5;have HB:=n0_;have HO742:=n1_;clear n0_ n1_;clear ho hb hg hat))
      go_roundg k1
      case measure => have:=HK1.out;omega
      case rel => exact ⟨(y740),(1),(wrap64 (x7_1 + 1)),(by first|rfl|(simp;done)|(simp [*];done)),(by first|rfl|(simp;done)|(simp [*];done)),H',⟨by have:=HK1.out;omega⟩,⟨by (with_reducible repeat (first|apply Kd.R_alloc|apply Kd.R_drewN|apply Kd.R_drew));exact HO742.out⟩,⟨by repeat (first|(with_reducible first|exact HB.out|apply below_alloc|apply pw_below_drewN|apply below_drew1)|exact HB.out)⟩⟩
     ·rw [if_neg c9] at H
      exact absurd H (by simp)
    ·rw [if_neg c8] at H
     have c8b0 : decide ((wrap64 ((wrap64 (t738 - t739)) - x6_1)) < 0) = false:=decide_eq_false c8
     clear c8
     by_cases c11 : x5_1.length < 140737488355328
     ·rw [if_pos c11] at H
      have LMc11:=Aside0.mk c11
      clear c11
      obtain ⟨y743,hy743⟩ : ∃ y_ : List Bool,y_ = (x5_1 ++ [((wrap64 ((wrap64 (t738 - t739)) - x6_1)) == 1)]):=⟨_,rfl⟩
      replace H : (sacristyref01_Sub.l0 k1 l0 l1 y743 0 (wrap64 (x7_1 + 1))) = some r:=by first|(rw [hy743];with_reducible exact H)|(have H2_:=(Option.bind_some _ _).symm.trans H;rw [hy743];with_reducible exact H2_)|(have H2_:=(Option.bind_some _ _).symm.trans H;with_reducible exact H2_)|with_reducible exact H|(rw [hy743];exact H)|exact H
      have Ny743:=Aside0.mk hy743
      clear hy743
      have H':=Aside0.mk H
      clear H
      go_wp2_with (first|((with_reducible refine gate_callee (f:=112) rfl ?_);refine goesL_ (some 18) rfl rfl Try.func112 (by kernel_rfl) rfl #[.slice A0 l0.length c0,.int .i64 x7_1] rfl (by (try simp only [List.map_toArray,List.map_cons,List.map_nil]);first|done|rfl|(simp only [List.length_drop,List.length_take];rfl)) ?_;(with_reducible refine (sacristyref01_at.calls _ _ l0 x7_1 t738 _ ?side1 ?side2 A6.out).mono ?_);(case side1 => repeat (first|exact (Kd.C_below HR0.out HB.out)|(with_reducible refine Kd.C_alloc ?_ _)|(with_reducible refine Kd.C_drewN ?_ _)|(with_reducible refine Kd.C_drew ?_)));(case side2 => exact HC0.out);rintro e w' ⟨rfl,⟨nd,rfl⟩⟩;refine ⟨_,rfl,?_⟩)|((with_reducible refine gate_callee (f:=112) rfl ?_);refine goesL_ (some 21) rfl rfl Try.func112 (by kernel_rfl) rfl #[.slice A1 l1.length c1,.int .i64 x7_1] rfl (by (try simp only [List.map_toArray,List.map_cons,List.map_nil]);first|done|rfl|(simp only [List.length_drop,List.length_take];rfl)) ?_;(with_reducible refine (sacristyref01_at.calls _ _ l1 x7_1 t739 _ ?side1 ?side2 A7.out).mono ?_);(case side1 => repeat (first|exact (Kd.C_below HR1.out (by repeat (first|(with_reducible first|exact HB.out|apply below_alloc|apply pw_below_drewN|apply below_drew1)|exact HB.out)))|(with_reducible refine Kd.C_alloc ?_ _)|(with_reducible refine Kd.C_drewN ?_ _)|(with_reducible refine Kd.C_drew ?_)));(case side2 => exact HC1.out);rintro e w' ⟨rfl,⟨nd,rfl⟩⟩;refine ⟨_,rfl,?_⟩)|((with_reducible refine gate_builtin (b:=.append) (xs:=#[.tmp 29,.tmp 32]) rfl ?_);at_builtin;refine Kd.R_append Kd.bool (w0:=w) w.heap.size rfl (.tmp 29) (.tmp 32) 42 4 (.bool false) 1 rfl Try.underlying42 info4 rfl (by decide) (by omega) u5 x5_1 ((wrap64 ((wrap64 (t738 - t739)) - x6_1)) == 1) [.bool ((wrap64 ((wrap64 (t738 - t739)) - x6_1)) == 1)] (fun k_ => (w.heap.size ≤ k_)) (fun _ => False) rfl rfl ?aP (fun _ hk => hk.elim) ?aF ?aO ?aB ?aS ?aL ?_;(case aP => exact rfl);(case aB => exact (by repeat (first|(with_reducible first|exact HB.out|apply below_alloc|apply pw_below_drewN|apply below_drew1)|exact HB.out)));(case aF => exact (fun k_ hk => (Nat.le_trans (below_size (by repeat (first|(with_reducible first|exact HB.out|apply below_alloc|apply pw_below_drewN|apply below_drew1)|exact HB.out))) hk)));(case aO => exact (by (with_reducible repeat (first|apply Kd.R_alloc|apply Kd.R_drewN|apply Kd.R_drew));exact HO_5.out));(case aS => exact (below_size (by repeat (first|(with_reducible first|exact HB.out|apply below_alloc|apply pw_below_drewN|apply below_drew1)|exact HB.out))));(case aL => have:=LMc11.out;omega);intro v744 w12 ho hb hg hat;rw [← Ny743.out] at ho;have n0_:=Aside0.mk (hb);have n1_:=Aside0.mk (ho);clear HB;clear HO_5;have HB:=n0_;have HO745:=n1_;clear n0_ n1_;clear ho hb hg hat))
      go_roundg k1
      case measure => have:=HK1.out;omega
      case rel => exact ⟨(y743),(0),(wrap64 (x7_1 + 1)),(by first|rfl|(simp;done)|(simp [*];done)),(by first|rfl|(simp;done)|(simp [*];done)),H',⟨by have:=HK1.out;omega⟩,⟨by (with_reducible repeat (first|apply Kd.R_alloc|apply Kd.R_drewN|apply Kd.R_drew));exact HO745.out⟩,⟨by repeat (first|(with_reducible first|exact HB.out|apply below_alloc|apply pw_below_drewN|apply below_drew1)|exact HB.out)⟩⟩
     ·rw [if_neg c11] at H
      exact absurd H (by simp)
   ·rw [if_neg c5] at H
    have c5b0 : decide (x7_1 < (l0.length : Int)) = false:=decide_eq_false c5
    clear c5
    replace H:=Option.bind_eq_some_iff.mp H
    obtain ⟨t735,A130,H⟩:=H
    replace H : (some t735) = some r:=H
    have A13:=Aside0.mk A130
    clear A130
    obtain rfl:=Option.some.inj H
    obtain ⟨Ao14,co14,eo14⟩:=Kd.R_slice HO_5.out
    subst eo14
    go_wp2_with (first|((with_reducible refine gate_callee (f:=111) rfl ?_);refine goesL_ (some 35) rfl rfl Try.func111 (by kernel_rfl) rfl #[.slice Ao14 x5_1.length co14] rfl (by (try simp only [List.map_toArray,List.map_cons,List.map_nil]);first|done|rfl|(simp only [List.length_drop,List.length_take];rfl)) ?_;(with_reducible refine (sacristyref01_Trim.calls k1 (fun k_ => some k_ = (.slice Ao14 x5_1.length co14 : Value).ownBlock) _ _ x5_1 t735 _ ?side1 A13.out).mono ?_);(case side1 => exact Kd.R_V (Kd.R_tight rfl (HO_5.out)));rintro e w15 ⟨v736,rfl,ho0,hb⟩;refine ⟨_,rfl,?_⟩;have n0_:=Aside0.mk (Kd.R_below (by (with_reducible repeat (first|apply Kd.R_alloc|apply Kd.R_drewN|apply Kd.R_drew));exact HO_5.out) hb);have n1_:=Aside0.mk (Kd.V_lower (Kd.V_mono (ok':=fun k_ => (w.heap.size ≤ k_)) ho0 (fun k_ hk_ => Or.elim hk_ (fun hs_ => ((HO_5.out).1 k_ hs_.symm)) (fun hn_ => (Nat.le_trans (below_size (by repeat (first|(with_reducible first|exact HB.out|apply below_alloc|apply pw_below_drewN|apply below_drew1)|exact HB.out))) hn_)))) (below_size (by repeat (first|(with_reducible first|exact HB.out|apply below_alloc|apply pw_below_drewN|apply below_drew1)|exact HB.out))));have n2_:=Aside0.mk (below_step (by repeat (first|(with_reducible first|exact HB.out|apply below_alloc|apply pw_below_drewN|apply below_drew1)|exact HB.out)) hb);clear HO_5;clear HB;have HO_5:=n0_;have HO737:=n1_;have HB:=n2_;clear n0_ n1_ n2_;(try clear hb);(try clear hb2);(try clear hk);(try clear hi);(try clear ho0)))
    (first|go_ret|(refine ⟨_,results_tmp rfl _ _ _,?_⟩))
    exact ⟨_,by first|rfl|(simp [errW_none,errW_some] <;> rfl)|(simp [*,errW_none,errW_some] <;> rfl),by (with_reducible repeat (first|apply Kd.V_alloc|apply Kd.V_drewN|apply Kd.V_drew));exact HO737.out,by repeat (first|(with_reducible first|exact HB.out|apply below_alloc|apply pw_below_drewN|apply below_drew1)|exact HB.out)⟩
end Go.Proofs.Yteejcpbngnojkaa.P
end
