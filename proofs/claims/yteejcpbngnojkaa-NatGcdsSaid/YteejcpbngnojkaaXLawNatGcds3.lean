/- Part of the proof: the walks and the plain arithmetic, in line (wip/tools/pack.py). -/
import Derived.Test.YteejcpbngnojkaaXLawNatGcds2
section
namespace Go.Proofs.Yteejcpbngnojkaa.P
open Go.RowKit Go.Shelf Go.Proofs.YteejcpbngnojkaaW.PrintWords Go.Proofs.YteejcpbngnojkaaW.PrintLast Go.Proofs.YteejcpbngnojkaaW.PrintMore
open Go.Proofs.Yteejcpbngnojkaa.Num
set_option linter.unusedVariables false
def nat_Nat_Div.f (_k : Nat) (l0_0 : List Int) (l1_0 : List Int) : Option (List Int × List Int × Int) :=
  if canonB l0_0 && canonB l1_0 && decide (l0_0.length ≤ 1048576) && decide (l1_0.length ≤ 1048576) then (if valW l1_0 = 0 then some ([], [], 5) else some (toW (valW l0_0 / valW l1_0), toW (valW l0_0 % valW l1_0), 0)) else none
theorem nat_Nat_Div.mono : ∀ a0 a1 k, LeO (nat_Nat_Div.f k a0 a1) (nat_Nat_Div.f (k + 1) a0 a1) := fun _ _ _ => LeO.refl _
theorem four_new (w : World) (o0 o1 o2 o3 : Obj) : ((((w.alloc o0).alloc o1).alloc o2).alloc o3).heap[w.heap.size]? = some o0 ∧ ((((w.alloc o0).alloc o1).alloc o2).alloc o3).heap[w.heap.size + 1]? = some o1 ∧ ((((w.alloc o0).alloc o1).alloc o2).alloc o3).heap[w.heap.size + 1 + 1]? = some o2 ∧ ((((w.alloc o0).alloc o1).alloc o2).alloc o3).heap[w.heap.size + 1 + 1 + 1]? = some o3 ∧ Below w.heap.size w ((((w.alloc o0).alloc o1).alloc o2).alloc o3) := by
  refine ⟨blk_alloc (blk_alloc (blk_alloc (blk_new w o0) _) _) _, ?_, ?_, ?_, ?_⟩
  · refine blk_alloc (blk_alloc ?_ _) _
    have := blk_new (w.alloc o0) o1
    simpa only [World.size_alloc] using this
  · refine blk_alloc ?_ _
    have := blk_new ((w.alloc o0).alloc o1) o2
    simpa only [World.size_alloc] using this
  · have := blk_new (((w.alloc o0).alloc o1).alloc o2) o3
    simpa only [World.size_alloc] using this
  · exact ((((Below.refl _ w).alloc (Nat.le_refl _) _).alloc (by simp) _).alloc (by simp; omega) _).alloc (by simp; omega) _
theorem two_end {w W : World} {va vb : Value} (m2 : W.heap[w.heap.size + 1 + 1]? = some (.cells #[.slice none 0 0] 38 (0, 0))) (m3 : W.heap[w.heap.size + 1 + 1 + 1]? = some (.cells #[.slice none 0 0] 38 (0, 0))) (hB : Below w.heap.size w W) (Wf : World)
    (hW : (W.setCell ⟨w.heap.size + 1 + 1, 0, none⟩ va).setCell ⟨w.heap.size + 1 + 1 + 1, 0, none⟩ vb = Wf) :
    Wf.heap[w.heap.size + 1 + 1]? = some (.cells #[va] 38 (0, 0)) ∧ Wf.heap[w.heap.size + 1 + 1 + 1]? = some (.cells #[vb] 38 (0, 0)) ∧ Below w.heap.size w Wf ∧ ∀ (b : Nat) (ok ok' : Nat → Prop) (v : Value) (xs : List Int), Kd.V (Kd.int .u32) 23 W b ok v xs → (∀ k, ok k → (k ≠ w.heap.size + 1 + 1 ∧ k ≠ w.heap.size + 1 + 1 + 1) ∧ ok' k) → Kd.V (Kd.int .u32) 23 Wf w.heap.size ok' v xs := by
  subst hW
  refine ⟨(Below.heap_setCell _ _ _ _ (by show w.heap.size + 1 + 1 ≠ w.heap.size + 1 + 1 + 1; omega)).trans (blk_put m2 0 _ rfl), blk_put ((Below.heap_setCell _ _ _ _ (by show w.heap.size + 1 + 1 + 1 ≠ w.heap.size + 1 + 1; omega)).trans m3) 0 _ rfl,
    (hB.setCell (p := ⟨w.heap.size + 1 + 1, 0, none⟩) (by show w.heap.size ≤ w.heap.size + 1 + 1; omega) _).setCell (p := ⟨w.heap.size + 1 + 1 + 1, 0, none⟩) (by show w.heap.size ≤ w.heap.size + 1 + 1 + 1; omega) _, fun b ok ok' v xs hv ho => ?_⟩
  exact Kd.V_mono (Kd.V_far (Kd.V_far hv (fun k hk => (ho k hk).1.1) _) (fun k hk => (ho k hk).1.2) _) (fun k hk => (ho k hk).2)
set_option maxRecDepth 100000 in
set_option maxHeartbeats 4000000 in
theorem nat_Nat_Div.calls_z (P0_0_ : Nat → Prop) (A0_0 : Option Addr) (c0_0 : Nat) (l0_0 : List Int) (A1_0 : Option Addr) (c1_0 : Nat) (l1_0 : List Int) (w : World) (hs0_0 : Kd.V (Kd.int .u32) 23 w w.heap.size (fun k_ => P0_0_ k_) (.slice A0_0 l0_0.length c0_0) l0_0) (hr1_0 : Kd.C (Kd.int .u32) w A1_0 l1_0.length l1_0) (hc1_0 : l1_0.length ≤ c1_0) (hz : l1_0.length = 0) :
    Calls Try.prog 53 #[.agg #[.slice A0_0 l0_0.length c0_0], .agg #[.slice A1_0 l1_0.length c1_0]] w fun e w' => ∃ v0_ v1_ : Value, e = .returned (.tuple #[.agg #[v0_], .agg #[v1_], (.int .i64 5)]) ∧ Kd.V (Kd.int .u32) 23 w' w.heap.size (fun k_ => (P0_0_ k_ ∨ w.heap.size ≤ k_)) v0_ [] ∧ Kd.V (Kd.int .u32) 23 w' w.heap.size (fun k_ => (P0_0_ k_ ∨ w.heap.size ≤ k_)) v1_ [] ∧ Below w.heap.size w w' := by
  have V0 := Aside0.mk (Kd.V_bound hs0_0)
  have C1 := Aside0.mk hr1_0
  have hc1 := Aside0.mk hc1_0
  clear hs0_0 hr1_0 hc1_0
  obtain ⟨k0, k1, k2, k3, B⟩ := four_new w (.cells #[.slice A0_0 l0_0.length c0_0] 38) (.cells #[.slice A1_0 l1_0.length c1_0] 38) (.cells #[.slice none 0 0] 38) (.cells #[.slice none 0 0] 38)
  have V1 := Aside0.mk (Kd.V_alloc (Kd.V_alloc (Kd.V_alloc (Kd.V_alloc V0.out (.cells #[.slice A0_0 l0_0.length c0_0] 38)) (.cells #[.slice A1_0 l1_0.length c1_0] 38)) (.cells #[.slice none 0 0] 38)) (.cells #[.slice none 0 0] 38))
  have C2 := Aside0.mk (Kd.C_below C1.out B)
  have hzb : ((l1_0.length : Int) == 0) = true := by rw [hz]; rfl
  replace hz := Aside0.mk hz
  go_enter Try.func53, Try.ntmps53
  go_wp2_with (go_at_call 44; refine (nat_Nat_Zero.calls _ _ l1_0 _ _ C2.out hc1.out rfl).mono ?_; rintro e w1 ⟨rfl, hb⟩; replace k0 := (hb.block _ (blk_lt k0)).trans k0; replace k1 := (hb.block _ (blk_lt k1)).trans k1; replace k2 := (hb.block _ (blk_lt k2)).trans k2; replace k3 := (hb.block _ (blk_lt k3)).trans k3; replace V1 := Aside0.mk (Kd.V_below V1.out hb); replace C2 := Aside0.mk (Kd.C_below C2.out hb); replace B := below_step B hb; clear hb; have q0 : World.cell? _ ⟨w.heap.size, 0, none⟩ = some (.slice A0_0 l0_0.length c0_0) := blk_cell k0 0; have q1 : World.cell? _ ⟨w.heap.size + 1, 0, none⟩ = some (.slice A1_0 l1_0.length c1_0) := blk_cell k1 0; have q2 : World.cell? _ ⟨w.heap.size + 1 + 1, 0, none⟩ = some (.slice none 0 0) := blk_cell k2 0; have q3 : World.cell? _ ⟨w.heap.size + 1 + 1 + 1, 0, none⟩ = some (.slice none 0 0) := blk_cell k3 0; have f2 := blk_frozen k2 0; have f3 := blk_frozen k3 0)
  obtain ⟨e2, e3, y1, y2⟩ := two_end k2 k3 B _ rfl
  refine bodyPost_ret (results_list (rs := [.cell 4 38, .cell 5 38, .tmp 6]) rfl (by simp) (.cell _ 38 _ (0, 0) _ rfl e2 Try.underlying38 rfl (by kernel_rfl) (.cell _ 38 _ (0, 0) _ rfl e3 Try.underlying38 rfl (by kernel_rfl) (.tmp .nil)))) rfl ?_
  exact ⟨_, _, rfl, Kd.V_nil _ _ _ _ _, Kd.V_nil _ _ _ _ _, y1⟩
set_option maxRecDepth 100000 in
set_option maxHeartbeats 4000000 in
theorem nat_Nat_Div.calls_l (k : Nat) (c : Int) (P0_0_ : Nat → Prop) (A0_0 : Option Addr) (c0_0 : Nat) (l0_0 : List Int) (A1_0 : Option Addr) (c1_0 : Nat) (l1_0 : List Int) (w : World) (hs0_0 : Kd.V (Kd.int .u32) 23 w w.heap.size (fun k_ => P0_0_ k_) (.slice A0_0 l0_0.length c0_0) l0_0) (hr1_0 : Kd.C (Kd.int .u32) w A1_0 l1_0.length l1_0) (hc1_0 : l1_0.length ≤ c1_0) (hz : ¬ l1_0.length = 0) (hc : nat_Nat_Cmp.f k l0_0 l1_0 = some c) (hneg : c < 0) :
    Calls Try.prog 53 #[.agg #[.slice A0_0 l0_0.length c0_0], .agg #[.slice A1_0 l1_0.length c1_0]] w fun e w' => ∃ v0_ v1_ : Value, e = .returned (.tuple #[.agg #[v0_], .agg #[v1_], (.int .i64 0)]) ∧ Kd.V (Kd.int .u32) 23 w' w.heap.size (fun k_ => (P0_0_ k_ ∨ w.heap.size ≤ k_)) v0_ [] ∧ Kd.V (Kd.int .u32) 23 w' w.heap.size (fun k_ => (P0_0_ k_ ∨ w.heap.size ≤ k_)) v1_ l0_0 ∧ Below w.heap.size w w' := by
  have V0 := Aside0.mk (Kd.V_bound hs0_0)
  have C1 := Aside0.mk hr1_0
  have hc1 := Aside0.mk hc1_0
  clear hs0_0 hr1_0 hc1_0
  obtain ⟨k0, k1, k2, k3, B⟩ := four_new w (.cells #[.slice A0_0 l0_0.length c0_0] 38) (.cells #[.slice A1_0 l1_0.length c1_0] 38) (.cells #[.slice none 0 0] 38) (.cells #[.slice none 0 0] 38)
  have V1 := Aside0.mk (Kd.V_alloc (Kd.V_alloc (Kd.V_alloc (Kd.V_alloc V0.out (.cells #[.slice A0_0 l0_0.length c0_0] 38)) (.cells #[.slice A1_0 l1_0.length c1_0] 38)) (.cells #[.slice none 0 0] 38)) (.cells #[.slice none 0 0] 38))
  have C2 := Aside0.mk (Kd.C_below C1.out B)
  have hzb : ((l1_0.length : Int) == 0) = false := beq_eq_false_iff_ne.2 (by omega)
  replace hc := Aside0.mk hc
  replace hz := Aside0.mk hz
  have hmx : Try.prog.follows .mixedOrders = true := by kernel_rfl
  have hnb : decide (c < 0) = true := decide_eq_true hneg
  go_enter Try.func53, Try.ntmps53
  go_wp2_with (first | (go_at_call 44; refine (nat_Nat_Zero.calls _ _ l1_0 _ _ C2.out hc1.out rfl).mono ?_; rintro e w1 ⟨rfl, hb⟩; replace k0 := (hb.block _ (blk_lt k0)).trans k0; replace k1 := (hb.block _ (blk_lt k1)).trans k1; replace k2 := (hb.block _ (blk_lt k2)).trans k2; replace k3 := (hb.block _ (blk_lt k3)).trans k3; replace V1 := Aside0.mk (Kd.V_below V1.out hb); replace C2 := Aside0.mk (Kd.C_below C2.out hb); replace B := below_step B hb; clear hb; have q0 : World.cell? _ ⟨w.heap.size, 0, none⟩ = some (.slice A0_0 l0_0.length c0_0) := blk_cell k0 0; have q1 : World.cell? _ ⟨w.heap.size + 1, 0, none⟩ = some (.slice A1_0 l1_0.length c1_0) := blk_cell k1 0; have q2 : World.cell? _ ⟨w.heap.size + 1 + 1, 0, none⟩ = some (.slice none 0 0) := blk_cell k2 0; have q3 : World.cell? _ ⟨w.heap.size + 1 + 1 + 1, 0, none⟩ = some (.slice none 0 0) := blk_cell k3 0; have f2 := blk_frozen k2 0; have f3 := blk_frozen k3 0) | (go_at_call 45; refine (nat_Nat_Cmp.calls k _ _ l0_0 _ _ l1_0 c _ (Kd.V_reads' V1.out).2.2 (Kd.V_reads' V1.out).2.1 C2.out hc1.out hc.out).mono ?_; rintro e w2 ⟨rfl, hb⟩; replace k0 := (hb.block _ (blk_lt k0)).trans k0; replace k1 := (hb.block _ (blk_lt k1)).trans k1; replace k2 := (hb.block _ (blk_lt k2)).trans k2; replace k3 := (hb.block _ (blk_lt k3)).trans k3; replace V1 := Aside0.mk (Kd.V_below V1.out hb); replace C2 := Aside0.mk (Kd.C_below C2.out hb); replace B := below_step B hb; clear hb; have q0 : World.cell? _ ⟨w.heap.size, 0, none⟩ = some (.slice A0_0 l0_0.length c0_0) := blk_cell k0 0; have q1 : World.cell? _ ⟨w.heap.size + 1, 0, none⟩ = some (.slice A1_0 l1_0.length c1_0) := blk_cell k1 0; have q2 : World.cell? _ ⟨w.heap.size + 1 + 1, 0, none⟩ = some (.slice none 0 0) := blk_cell k2 0; have q3 : World.cell? _ ⟨w.heap.size + 1 + 1 + 1, 0, none⟩ = some (.slice none 0 0) := blk_cell k3 0; have f2 := blk_frozen k2 0; have f3 := blk_frozen k3 0))
  go_region
  all_goals go_wp2
  obtain ⟨e2, e3, y1, y2⟩ := two_end (w := w) (W := w2) (va := .slice none 0 0) (vb := .slice A0_0 l0_0.length c0_0) k2 k3 B _ rfl
  refine bodyPost_ret (results_list (rs := [.cell 4 38, .cell 5 38, .tmp 6]) rfl (by simp) (.cell _ 38 _ (0, 0) _ rfl e2 Try.underlying38 rfl (by kernel_rfl) (.cell _ 38 _ (0, 0) _ rfl e3 Try.underlying38 rfl (by kernel_rfl) (.tmp .nil)))) rfl ?_
  exact ⟨_, _, rfl, Kd.V_nil _ _ _ _ _, Kd.V_drew (y2 _ _ _ _ _ V1.out (fun k_ hk => ⟨⟨by have := hk.2; omega, by have := hk.2; omega⟩, .inl hk.1⟩)), y1.drew⟩
theorem nat_Nat_Div.calls (k : Nat) (P0_0_ : Nat → Prop) (A0_0 : Option Addr) (c0_0 : Nat) (l0_0 : List Int) (A1_0 : Option Addr) (c1_0 : Nat) (l1_0 : List Int) (r1 : List Int) (r2 : List Int) (r3 : Int) (w : World) (hs0_0 : Kd.V (Kd.int .u32) 23 w w.heap.size (fun k_ => P0_0_ k_) (.slice A0_0 l0_0.length c0_0) l0_0) (hr1_0 : Kd.C (Kd.int .u32) w A1_0 l1_0.length l1_0) (hc1_0 : l1_0.length ≤ c1_0) (h : nat_Nat_Div.f k l0_0 l1_0 = some (r1, r2, r3)) :
    Calls Try.prog 53 #[.agg #[.slice A0_0 l0_0.length c0_0], .agg #[.slice A1_0 l1_0.length c1_0]] w fun e w' => ∃ v0_ v1_ : Value, e = .returned (.tuple #[.agg #[v0_], .agg #[v1_], .int .i64 r3]) ∧ Kd.V (Kd.int .u32) 23 w' w.heap.size (fun k_ => (P0_0_ k_ ∨ w.heap.size ≤ k_)) v0_ r1 ∧ Kd.V (Kd.int .u32) 23 w' w.heap.size (fun k_ => (P0_0_ k_ ∨ w.heap.size ≤ k_)) v1_ r2 ∧ Below w.heap.size w w' := by
  unfold nat_Nat_Div.f at h
  by_cases hg : (canonB l0_0 && canonB l1_0 && decide (l0_0.length ≤ 1048576) && decide (l1_0.length ≤ 1048576)) = true
  · rw [if_pos hg] at h
    simp only [Bool.and_eq_true, decide_eq_true_eq] at hg
    obtain ⟨⟨⟨g0, g1⟩, g2⟩, g3⟩ := hg
    have e0 := canonB_eq g0
    have e1 := canonB_eq g1
    by_cases hB : valW l1_0 = 0
    · rw [if_pos hB] at h
      cases h
      exact nat_Nat_Div.calls_z P0_0_ A0_0 c0_0 l0_0 A1_0 c1_0 l1_0 w hs0_0 hr1_0 hc1_0 ((canonB_nil g1).1 hB)
    · rw [if_neg hB] at h
      cases h
      have hl : ¬ l1_0.length = 0 := fun e => hB ((canonB_nil g1).2 e)
      by_cases hlt : valW l0_0 < valW l1_0
      · have hc : nat_Nat_Cmp.f 0 l0_0 l1_0 = some (cmpN (valW l0_0) (valW l1_0)) := by
          have := Cmp_toW 0 (valW l0_0) (valW l1_0)
          rwa [e0, e1] at this
        have hcal := nat_Nat_Div.calls_l 0 _ P0_0_ A0_0 c0_0 l0_0 A1_0 c1_0 l1_0 w hs0_0 hr1_0 hc1_0 hl hc (cmpN_lt.2 hlt)
        rw [Nat.div_eq_of_lt hlt, Nat.mod_eq_of_lt hlt, toW_zero, e0]
        exact hcal
      · obtain ⟨K, hK⟩ := (g_ev (valW l0_0) (valW l1_0) (by omega) (by rw [e0]; exact g2) (by rw [e1]; exact g3)).rounds
        rw [e0, e1] at hK
        have hz : nat_Nat_Zero.f l1_0 = some false := by
          have := Zero_toW (valW l1_0)
          rw [e1] at this
          rw [this]
          simp [hB]
        have hn : ∀ t, nat_Nat_Cmp.f K l0_0 l1_0 = some t → ¬ t < 0 := by
          intro t ht hneg
          have := Cmp_toW K (valW l0_0) (valW l1_0)
          rw [e0, e1, ht] at this
          cases this
          exact hlt (cmpN_lt.1 hneg)
        have hr0 := Kd.V_reads' hs0_0
        by_cases h1 : (l1_0.length : Int) = 1
        · refine (nat_Nat_Div.calls_o K A0_0 c0_0 l0_0 A1_0 c1_0 l1_0 _ _ _ w hr0.2.2 hr0.2.1 hr1_0 hc1_0 hz hn h1 hK).mono ?_
          rintro e w' ⟨v0, v1, he, hv0, hv1, hb⟩
          exact ⟨v0, v1, he, Kd.V_mono hv0 (fun _ hk => .inr hk), Kd.V_mono hv1 (fun _ hk => .inr hk), hb⟩
        · refine (nat_Nat_Div.calls_k K A0_0 c0_0 l0_0 A1_0 c1_0 l1_0 _ _ _ w hr0.2.2 hr0.2.1 hr1_0 hc1_0 hz hn h1 hK).mono ?_
          rintro e w' ⟨v0, v1, he, hv0, hv1, hb⟩
          exact ⟨v0, v1, he, Kd.V_mono hv0 (fun _ hk => .inr hk), Kd.V_mono hv1 (fun _ hk => .inr hk), hb⟩
  · rw [if_neg hg] at h
    cases h
end Go.Proofs.Yteejcpbngnojkaa.P
end
section
namespace Go.Proofs.Yteejcpbngnojkaa.P
open Go.RowKit Go.Proofs.YteejcpbngnojkaaW.PrintWords Go.Proofs.YteejcpbngnojkaaW.PrintLast Go.Proofs.YteejcpbngnojkaaW.PrintMore
attribute [local go_sem] max2_int min2_int max_two min_two max_three min_three max_four min_four
set_option linter.unusedVariables false
set_option linter.unusedSimpArgs false
def sacristyref01_Small.l0 : Nat → Int → List Bool → Option (List Bool)
 |0,_,_ => none
 |k + 1,x0,x3 => if x0 > 0 then (if x3.length < 140737488355328 then (sacristyref01_Small.l0 k (IntKind.u64.wrap (Int.tdiv x0 2)) (x3 ++ [((Int.tmod x0 2) == 1)])) else (none)) else (some x3)
def sacristyref01_Small.f (k : Nat) (a0 : Int) : Option (List Bool):=sacristyref01_Small.l0 k a0 (([] : List Bool))
theorem sacristyref01_Small.mono_l : ∀ k,(∀ y0 y1,LeO (sacristyref01_Small.l0 k y0 y1) (sacristyref01_Small.l0 (k + 1) y0 y1))
 |0 => fun _ _ r h => by simp [sacristyref01_Small.l0] at h
 |k + 1 => by
  have ih0:=sacristyref01_Small.mono_l k
  ·intro y0 y1
   unfold sacristyref01_Small.l0
   repeat' first
   |(with_reducible exact ih0 _ _)
   |(with_reducible exact LeO.refl _)
   |(with_reducible exact LeO.none _)
   |(with_reducible refine LeO.ite ?_ ?_)
   |(with_reducible refine LeO.bind ?_ (fun _ => ?_))
   |exact ih0 _ _
   |exact LeO.none _
   |refine LeO.ite ?_ ?_
   |refine LeO.bind ?_ (fun _ => ?_)
theorem sacristyref01_Small.mono : ∀ a0 k,LeO (sacristyref01_Small.f k a0) (sacristyref01_Small.f (k + 1) a0):=by
 intro a0 k
 have ih0:=sacristyref01_Small.mono_l k
 unfold sacristyref01_Small.f
 repeat' first
   |(with_reducible exact ih0 _ _)
   |(with_reducible exact LeO.refl _)
   |(with_reducible exact LeO.none _)
   |(with_reducible refine LeO.ite ?_ ?_)
   |(with_reducible refine LeO.bind ?_ (fun _ => ?_))
   |exact ih0 _ _
   |exact LeO.none _
   |refine LeO.ite ?_ ?_
   |refine LeO.bind ?_ (fun _ => ?_)
set_option maxHeartbeats 8000000 in
set_option maxRecDepth 100000 in
theorem sacristyref01_Small.calls (k : Nat) (a0 : Int) (r : List Bool) (w : World) (h : sacristyref01_Small.f k a0 = some r) :
  Calls Try.prog 56 #[.int .u64 a0] w fun e w' => ∃ v0_ : Value,e = .returned (v0_) ∧ Kd.R Kd.bool 4 w' w.heap.size (fun _ => True) v0_ r ∧ Below w.heap.size w w':=by
 have HB:=Aside0.mk (Below.refl w.heap.size w)
 have H : (sacristyref01_Small.l0 k a0 (([] : List Bool))) = some r:=h
 clear h
 obtain ⟨y414,hy414⟩ : ∃ y_ : List Bool,y_ = (([] : List Bool)):=⟨_,rfl⟩
 replace H : (sacristyref01_Small.l0 k a0 y414) = some r:=by first|(rw [hy414];with_reducible exact H)|(have H2_:=(Option.bind_some _ _).symm.trans H;rw [hy414];with_reducible exact H2_)|(have H2_:=(Option.bind_some _ _).symm.trans H;with_reducible exact H2_)|with_reducible exact H|(rw [hy414];exact H)|exact H
 have Ny414:=Aside0.mk hy414
 clear hy414
 have H':=Aside0.mk H
 clear H
 go_enter Try.func56,Try.ntmps56
 go_wp2_with (first|((with_reducible refine gate_dst (N:=4) rfl ?_);refine Kd.R_lit Kd.bool _ 4 ?hg (N:=4) ?hd (xs:=([] : List Bool)) (inner:=[]) (ok:=fun _ => True) (okp:=fun _ => True) ?hr ?hp (fun _ hk => hk) trivial (Below.refl _ _) (Nat.le_refl _) (by simp) ?_;(case hd => rfl);(case hg => rfl);(case hr => first|(go_simp;done)|(go_simp;rfl));(case hp => exact (Reps.none _ _));intro v415 w2 ho3 hb hg_ hnew_;clear hg_ hnew_;(first|rw [← Ny414.out] at ho3|(simp only [Int.reduceToNat] at ho3;rw [← Ny414.out] at ho3));have HO416:=Aside0.mk (Kd.R_lower ho3 (below_size (qS HB)));replace HB:=qs HB hb;clear hb ho3))
 go_loopg [0,3] k (fun kq v0 v3 w' => ∃ (x0_1 : Int) (x3_1 : List Bool),v0 = .int .u64 x0_1 ∧ Aside0 (sacristyref01_Small.l0 kq x0_1 x3_1 = some r) ∧ Aside0 (kq ≤ k) ∧ Aside0 (Kd.R Kd.bool 4 w' w.heap.size (fun _ => True) v3 x3_1) ∧ Aside0 (Below w.heap.size w w'))
 case atStart => exact ⟨(a0),(y414),(by first|rfl|(simp;done)|(simp [*];done)),H',⟨Nat.le_refl _⟩,⟨qRm HO416⟩,⟨qS HB⟩⟩
 case round =>
  clear H'
  try clear p2
  obtain ⟨x0_1,x3_1,rfl,HA,HK1,HO_3,HB⟩:=hrel
  cases gk with
  |zero => exact absurd HA.out (by simp [sacristyref01_Small.l0])
  |succ k1 =>
   have H:=HA.out
   clear HA
   simp only [sacristyref01_Small.l0] at H
   by_cases c4 : x0_1 > 0
   ·rw [if_pos c4] at H
    have c4b0 : decide (0 < x0_1) = true:=decide_eq_true c4
    clear c4
    by_cases c5 : x3_1.length < 140737488355328
    ·rw [if_pos c5] at H
     have LMc5:=Aside0.mk c5
     clear c5
     obtain ⟨y417,hy417⟩ : ∃ y_ : List Bool,y_ = (x3_1 ++ [((Int.tmod x0_1 2) == 1)]):=⟨_,rfl⟩
     replace H : (sacristyref01_Small.l0 k1 (IntKind.u64.wrap (Int.tdiv x0_1 2)) y417) = some r:=by first|(rw [hy417];with_reducible exact H)|(have H2_:=(Option.bind_some _ _).symm.trans H;rw [hy417];with_reducible exact H2_)|(have H2_:=(Option.bind_some _ _).symm.trans H;with_reducible exact H2_)|with_reducible exact H|(rw [hy417];exact H)|exact H
     have Ny417:=Aside0.mk hy417
     clear hy417
     have H':=Aside0.mk H
     clear H
     go_wp2_with (first|((with_reducible refine gate_builtin (b:=.append) (xs:=#[.tmp 7,.tmp 11]) rfl ?_);at_builtin;refine Kd.R_append Kd.bool (w0:=w) w.heap.size rfl (.tmp 7) (.tmp 11) 42 4 (.bool false) 1 rfl Try.underlying42 info4 rfl (by decide) (by omega) u3 x3_1 ((Int.tmod x0_1 2) == 1) [.bool ((Int.tmod x0_1 2) == 1)] (fun _ => True) (fun _ => False) rfl rfl ?aP (fun _ hk => hk.elim) ?aF ?aO ?aB ?aS ?aL ?_;(case aP => exact rfl);(case aB => exact (qS HB));(case aF => exact (fun _ _ => trivial));(case aO => exact (qRm HO_3));(case aS => exact (below_size (qS HB)));(case aL => have:=LMc5.out;omega);intro v418 w6 ho hb hg hat;rw [← Ny417.out] at ho;replace HB:=Aside0.mk (hb);have HO419:=Aside0.mk (ho);(try clear HO_3);clear ho hb hg hat))
     go_roundg k1
     case measure => have:=HK1.out;omega
     case rel => exact ⟨(IntKind.u64.wrap (Int.tdiv x0_1 2)),(y417),(by first|rfl|(simp;done)|(simp [*];done)),H',⟨by have:=HK1.out;omega⟩,⟨qRm HO419⟩,⟨qS HB⟩⟩
    ·rw [if_neg c5] at H
     exact absurd H (by simp)
   ·rw [if_neg c4] at H
    have c4b0 : decide (0 < x0_1) = false:=decide_eq_false c4
    clear c4
    obtain rfl:=Option.some.inj H
    go_wp2
    (first|go_ret|(refine ⟨_,results_tmp rfl _ _ _,?_⟩))
    exact ⟨_,by first|rfl|(simp [errW_none,errW_some] <;> rfl)|(simp [*,errW_none,errW_some] <;> rfl),qRm HO_3,qS HB⟩
end Go.Proofs.Yteejcpbngnojkaa.P
end
section
namespace Go.Proofs.Yteejcpbngnojkaa.P
open Go.RowKit Go.Proofs.YteejcpbngnojkaaW.PrintWords Go.Proofs.YteejcpbngnojkaaW.PrintLast Go.Proofs.YteejcpbngnojkaaW.PrintMore
attribute [local go_sem] max2_int min2_int max_two min_two max_three min_three max_four min_four
set_option linter.unusedVariables false
set_option linter.unusedSimpArgs false
def sacristylaw01_lives.f (k : Nat)  : Option (Bool):=(nat_New.f k 7).bind fun t420 => ((nat_New.f k 2).bind fun t423 => ((nat_Nat_Div.f k t420 t423).bind fun bt426 => (if bt426.2.2 = 0 then ((sacristyref01_Small.f k 3).bind fun t435 => ((sacristylaw01_Same.f k bt426.1 t435).bind fun t438 => (if t438 = true then ((sacristyref01_Small.f k 1).bind fun t439 => ((sacristylaw01_Same.f k bt426.2.1 t439).bind fun t442 => (some t442))) else (some false)))) else (some false))))
theorem sacristylaw01_lives.mono : ∀ k,LeO (sacristylaw01_lives.f k ) (sacristylaw01_lives.f (k + 1) ):=by
 intro  k
 unfold sacristylaw01_lives.f
 repeat' first
   |(with_reducible exact nat_Nat_Div.mono _ _ _)
   |(with_reducible exact nat_New.mono _ _)
   |(with_reducible exact sacristylaw01_Same.mono _ _ _)
   |(with_reducible exact sacristyref01_Small.mono _ _)
   |(with_reducible exact LeO.refl _)
   |(with_reducible exact LeO.none _)
   |(with_reducible refine LeO.ite ?_ ?_)
   |(with_reducible refine LeO.bind ?_ (fun _ => ?_))
   |exact nat_Nat_Div.mono _ _ _
   |exact nat_New.mono _ _
   |exact sacristylaw01_Same.mono _ _ _
   |exact sacristyref01_Small.mono _ _
   |exact LeO.none _
   |refine LeO.ite ?_ ?_
   |refine LeO.bind ?_ (fun _ => ?_)
def sacristylaw01_lives.T2 : Bool × List (List Nat × List Nat):=(true,[([],[]),([0],[0]),([1],[1]),([2],[2]),([2,2],[2]),([3,4,4,2],[2,3,4]),([2,5],[2,5]),([6,5],[6]),([7],[7]),([7,7],[7]),([8,9,9,7],[7,8,9]),([7,10],[7,10]),([11,10,0,1,2,3,4,5,6,7,8,9,10,11],[11])])
def sacristylaw01_lives.B2 : List Nat:=[0,1,3,7,7,31,63,127,255,255,1023,2047,4095]
theorem sacristylaw01_lives.tab2 : rtab .any (opsOf Try.f34 2) = sacristylaw01_lives.T2:=by kernel_rfl
theorem sacristylaw01_lives.bits2 : waitsOk sacristylaw01_lives.T2.2 sacristylaw01_lives.B2 = true:=by kernel_rfl
set_option maxHeartbeats 8000000 in
set_option maxRecDepth 100000 in
theorem sacristylaw01_lives.calls (k : Nat)  (r : Bool) (w : World) (h : sacristylaw01_lives.f k  = some r) :
  Calls Try.prog 34 #[] w fun e w' => e = .returned (.bool r) ∧ Below w.heap.size w w':=by
 have hu38:=Try.underlying38
 have HB:=Aside0.mk (Below.refl w.heap.size w)
 have H : ((nat_New.f k 7).bind fun t420 => ((nat_New.f k 2).bind fun t423 => ((nat_Nat_Div.f k t420 t423).bind fun bt426 => (if bt426.2.2 = 0 then ((sacristyref01_Small.f k 3).bind fun t435 => ((sacristylaw01_Same.f k bt426.1 t435).bind fun t438 => (if t438 = true then ((sacristyref01_Small.f k 1).bind fun t439 => ((sacristylaw01_Same.f k bt426.2.1 t439).bind fun t442 => (some t442))) else (some false)))) else (some false))))) = some r:=h
 clear h
 obtain ⟨t420,A1,H⟩:=qH H
 obtain ⟨t423,A2,H⟩:=qH H
 obtain ⟨⟨t426,t429,t432⟩,A3,H⟩:=qH H
 dsimp only at H
 by_cases c4 : t432 = 0
 ·rw [if_pos c4] at H
  have c4b0 : (t432 == 0) = true:=beq_iff_eq.mpr c4
  have c4b1 : (t432 != 0) = false:=bne_eq_false_iff_eq.mpr c4
  clear c4
  obtain ⟨t435,A5,H⟩:=qH H
  obtain ⟨t438,A6,H⟩:=qH H
  by_cases c7 : t438 = true
  ·subst c7
   rw [if_pos rfl] at H
   obtain ⟨t439,A8,H⟩:=qH H
   obtain ⟨t442,A9,H⟩:=qH H
   obtain rfl:=Option.some.inj H
   go_enter Try.func34,Try.ntmps34
   try go_wp2_with (first|((with_reducible refine gate_callee (f:=54) rfl ?_);refine gL (some 5) Try.func54 #[.int .u64 7] ?_;(with_reducible refine (nat_New.calls k 7 t420 _ A1.out).mono ?_);rintro e w10 ⟨v421,rfl,ho0,hb⟩;refine ⟨_,rfl,?_⟩;have HO422:=Aside0.mk (Kd.V_lower (Kd.V_mono (ok':=fun k_ => True) ho0 (fun k_ hk_ => trivial)) (below_size (qS HB)));replace HB:=qs HB hb;clear hb ho0)|((with_reducible refine gate_callee (f:=54) rfl ?_);refine gL (some 6) Try.func54 #[.int .u64 2] ?_;(with_reducible refine (nat_New.calls k 2 t423 _ A2.out).mono ?_);rintro e w11 ⟨v424,rfl,ho0,hb⟩;refine ⟨_,rfl,?_⟩;replace HO422:=qVb HO422 hb;have HO425:=Aside0.mk (Kd.V_lower (Kd.V_mono (ok':=fun k_ => True) ho0 (fun k_ hk_ => trivial)) (below_size (qS HB)));replace HB:=qs HB hb;clear hb ho0;obtain ⟨Ao12,co12,eo12⟩:=Kd.V_slice HO422.out;subst eo12;obtain ⟨Ao13,co13,eo13⟩:=Kd.V_slice HO425.out;subst eo13)|((with_reducible refine gate_callee (f:=53) rfl ?_);refine gL (some 7) Try.func53 #[.agg #[.slice Ao12 t420.length co12],.agg #[.slice Ao13 t423.length co13]] ?_;(with_reducible refine (nat_Nat_Div.calls k (fun k_ => True) _ _ t420 _ _ t423 t426 t429 t432 _ ?side1 ?side2 ?side3 A3.out).mono ?_);(case side1 => first|exact HO422.out|exact qVm HO422);(case side2 => exact qCV HO425);(case side3 => exact qL HO425);rintro e w14 ⟨v427,v430,rfl,ho0,ho1,hb⟩;refine ⟨_,rfl,?_⟩;replace HO422:=qVb HO422 hb;replace HO425:=qVb HO425 hb;have HO428:=Aside0.mk (Kd.V_lower (Kd.V_mono (ok':=fun k_ => True) ho0 (fun k_ hk_ => trivial)) (below_size (qS HB)));have HO431:=Aside0.mk (Kd.V_lower (Kd.V_mono (ok':=fun k_ => True) ho1 (fun k_ hk_ => trivial)) (below_size (qS HB)));replace HB:=qs HB hb;clear hb ho0 ho1)|((with_reducible refine gate_dst (N:=1) rfl ?_);refine qX #[.slice none 0 0] 38 ?_;intro gb433 hg w15 hbox hb;replace HO422:=qVe HO422 hb hg;replace HO425:=qVe HO425 hb hg;replace HO428:=qVe HO428 hb hg;replace HO431:=qVe HO431 hb hg;have BK433:=Aside0.mk hbox;have GE433:=qh hg HB;replace HB:=qs HB hb;clear hb hbox hg)|((with_reducible refine gate_dst (N:=2) rfl ?_);refine qX #[.slice none 0 0] 38 ?_;intro gb434 hg w16 hbox hb;replace HO422:=qVe HO422 hb hg;replace HO425:=qVe HO425 hb hg;replace HO428:=qVe HO428 hb hg;replace HO431:=qVe HO431 hb hg;have BK434:=Aside0.mk hbox;have GE434:=qh hg HB;replace HB:=qs HB hb;have NB433_434:=ql hg BK433;have NB434_433:=qg hg BK433;replace BK433:=qb BK433 hb;clear hb hbox hg;obtain ⟨Ao17,co17,eo17⟩:=Kd.V_slice HO428.out;subst eo17;have hnb18:=NB433_434.out;have hnc18:=NB434_433.out;have hcz19_0:=bc BK433;have hfz19_0:=bz BK433;obtain ⟨Ao20,co20,eo20⟩:=Kd.V_slice HO431.out;subst eo20;have hcz21_0:=bc BK434;have hfz21_0:=bz BK434))
   generalize hw : ((w16.setCell ⟨gb433,0,none⟩ (.slice Ao17 t426.length co17)).setCell ⟨gb434,0,none⟩ (.slice Ao20 t429.length co20)) = w22
   replace hw:=hw.symm
   replace HO422:=qVh hw HO422
   replace HO425:=qVh hw HO425
   replace HO428:=qVh hw HO428
   replace HO431:=qVh hw HO431
   replace BK433:=qBp hw BK433
   replace BK434:=qBp hw BK434
   replace HB:=qSh hw HB
   clear hw
   replace HO422:=qVw HO422
   replace HO425:=qVw HO425
   replace HO428:=qVw HO428
   replace HO431:=qVw HO431
   replace BK433:=qbd BK433
   replace BK434:=qbd BK434
   replace HB:=qsd HB
   refine start_ (n:=13) (S:=fun w' => w'.cell? ⟨gb433,0,none⟩ = some (.slice Ao17 t426.length co17) ∧ w'.cell? ⟨gb434,0,none⟩ = some (.slice Ao20 t429.length co20)) (ds:=[]) #[false,false,false,false,false,false,false,false,false,false,false,false,false] (by kernel_rfl) rfl rfl ⟨bc BK433,bc BK434⟩ (fun hHeld => ?_);refine with_tabW sacristylaw01_lives.tab2 sacristylaw01_lives.bits2 (fun HT_ HW_ => ?_)
   generalize w22.drew = w23 at HO422 HO425 HO428 HO431 BK433 BK434 HB hHeld ⊢
   refine qP 0 11 HT_ ?_
   refine qP 1 12 HT_ ?_
   refine qP 2 13 HT_ ?_
   refine qT 3 14 HT_ HW_ hHeld ?_
   refine q1 4 (some 15) HT_ rfl (fun K hK => ?_)
   refine g_ Try.func56 #[.int .u64 3] ?_
   with_reducible refine (sacristyref01_Small.calls k 3 t435 _ A5.out).mono ?_
   rintro e w24 ⟨v436,rfl,ho0,hb⟩
   refine ⟨_,rfl,?_⟩
   replace HO422:=qVd HO422 ho0 hb
   replace HO425:=qVd HO425 ho0 hb
   replace HO428:=qVd HO428 ho0 hb
   replace HO431:=qVd HO431 ho0 hb
   have HO437:=Aside0.mk (Kd.R_lower ho0 (below_size (qS HB)))
   replace BK433:=qb BK433 hb
   replace BK434:=qb BK434 hb
   replace HB:=qs HB hb
   clear hb ho0
   obtain ⟨Ao25,co25,eo25⟩:=Kd.R_slice HO437.out
   (first|subst eo25|(injection eo25 with f1_ f2_ f3_;have f4_:=f1_.symm;have f5_:=f3_.symm;clear f1_ f2_ f3_;subst f4_;subst f5_))
   refine hK.out _ _ ⟨bc BK433,bc BK434⟩ (fun hHeld => ?_)
   clear hK K
   refine qO 15 ?_
   refine q1 5 (some 16) HT_ rfl (fun K hK => ?_)
   refine g_ Try.func37 #[.agg #[.slice Ao17 t426.length co17],.slice Ao25 t435.length co25] ?_
   with_reducible refine (sacristylaw01_Same.calls k _ _ t426 _ _ t435 true _ ?side1 ?side2 ?side3 ?side4 A6.out).mono ?_
   (case side1 => exact qCV HO428)
   (case side2 => exact qL HO428)
   (case side3 => exact qCR HO437)
   (case side4 => exact qLR HO437)
   rintro e w26 ⟨rfl,hb⟩
   refine ⟨_,rfl,?_⟩
   replace HO422:=qVb HO422 hb
   replace HO425:=qVb HO425 hb
   replace HO428:=qVb HO428 hb
   replace HO431:=qVb HO431 hb
   replace HO437:=qRb HO437 hb
   replace BK433:=qb BK433 hb
   replace BK434:=qb BK434 hb
   replace HB:=qs HB hb
   clear hb
   refine hK.out _ _ ⟨bc BK433,bc BK434⟩ (fun hHeld => ?_)
   clear hK K
   refine qO 16 ?_
   refine qP 6 17 HT_ ?_
   refine qP 7 18 HT_ ?_
   refine qT 8 19 HT_ HW_ hHeld ?_
   refine q1 9 (some 20) HT_ rfl (fun K hK => ?_)
   refine g_ Try.func56 #[.int .u64 1] ?_
   with_reducible refine (sacristyref01_Small.calls k 1 t439 _ A8.out).mono ?_
   rintro e w27 ⟨v440,rfl,ho0,hb⟩
   refine ⟨_,rfl,?_⟩
   replace HO422:=qVd HO422 ho0 hb
   replace HO425:=qVd HO425 ho0 hb
   replace HO428:=qVd HO428 ho0 hb
   replace HO431:=qVd HO431 ho0 hb
   have HO441:=Aside0.mk (Kd.R_lower (Kd.R_new' ho0 (Kd.R_lt (qRm HO437))) (below_size (qS HB)))
   replace HO437:=qRd HO437 ho0 hb
   replace BK433:=qb BK433 hb
   replace BK434:=qb BK434 hb
   replace HB:=qs HB hb
   clear hb ho0
   obtain ⟨Ao28,co28,eo28⟩:=Kd.R_slice HO441.out
   (first|subst eo28|(injection eo28 with f1_ f2_ f3_;have f4_:=f1_.symm;have f5_:=f3_.symm;clear f1_ f2_ f3_;subst f4_;subst f5_))
   refine hK.out _ _ ⟨bc BK433,bc BK434⟩ (fun hHeld => ?_)
   clear hK K
   refine qO 20 ?_
   refine q1 10 (some 21) HT_ rfl (fun K hK => ?_)
   refine g_ Try.func37 #[.agg #[.slice Ao20 t429.length co20],.slice Ao28 t439.length co28] ?_
   with_reducible refine (sacristylaw01_Same.calls k _ _ t429 _ _ t439 t442 _ ?side1 ?side2 ?side3 ?side4 A9.out).mono ?_
   (case side1 => exact qCV HO431)
   (case side2 => exact qL HO431)
   (case side3 => exact qCR HO441)
   (case side4 => exact qLR HO441)
   rintro e w29 ⟨rfl,hb⟩
   refine ⟨_,rfl,?_⟩
   replace HO422:=qVb HO422 hb
   replace HO425:=qVb HO425 hb
   replace HO428:=qVb HO428 hb
   replace HO431:=qVb HO431 hb
   replace HO437:=qRb HO437 hb
   replace HO441:=qRb HO441 hb
   replace BK433:=qb BK433 hb
   replace BK434:=qb BK434 hb
   replace HB:=qs HB hb
   clear hb
   refine hK.out _ _ ⟨bc BK433,bc BK434⟩ (fun hHeld => ?_)
   clear hK K
   refine qO 21 ?_
   refine qP 11 22 HT_ ?_
   refine qP 12 0 HT_ ?_
   refine qD HT_ ?_
   try go_wp2
   (first|go_ret|(refine ⟨_,results_tmp rfl _ _ _,?_⟩))
   exact ⟨by first|rfl|(simp [errW_none,errW_some] <;> rfl)|(simp [*,errW_none,errW_some] <;> rfl),qS HB⟩
  ·replace c7:=Bool.eq_false_iff.mpr c7
   subst c7
   rw [qFT] at H
   obtain rfl:=Option.some.inj H
   go_enter Try.func34,Try.ntmps34
   try go_wp2_with (first|((with_reducible refine gate_callee (f:=54) rfl ?_);refine gL (some 5) Try.func54 #[.int .u64 7] ?_;(with_reducible refine (nat_New.calls k 7 t420 _ A1.out).mono ?_);rintro e w30 ⟨v421,rfl,ho0,hb⟩;refine ⟨_,rfl,?_⟩;have HO422:=Aside0.mk (Kd.V_lower (Kd.V_mono (ok':=fun k_ => True) ho0 (fun k_ hk_ => trivial)) (below_size (qS HB)));replace HB:=qs HB hb;clear hb ho0)|((with_reducible refine gate_callee (f:=54) rfl ?_);refine gL (some 6) Try.func54 #[.int .u64 2] ?_;(with_reducible refine (nat_New.calls k 2 t423 _ A2.out).mono ?_);rintro e w31 ⟨v424,rfl,ho0,hb⟩;refine ⟨_,rfl,?_⟩;replace HO422:=qVb HO422 hb;have HO425:=Aside0.mk (Kd.V_lower (Kd.V_mono (ok':=fun k_ => True) ho0 (fun k_ hk_ => trivial)) (below_size (qS HB)));replace HB:=qs HB hb;clear hb ho0;obtain ⟨Ao32,co32,eo32⟩:=Kd.V_slice HO422.out;subst eo32;obtain ⟨Ao33,co33,eo33⟩:=Kd.V_slice HO425.out;subst eo33)|((with_reducible refine gate_callee (f:=53) rfl ?_);refine gL (some 7) Try.func53 #[.agg #[.slice Ao32 t420.length co32],.agg #[.slice Ao33 t423.length co33]] ?_;(with_reducible refine (nat_Nat_Div.calls k (fun k_ => True) _ _ t420 _ _ t423 t426 t429 t432 _ ?side1 ?side2 ?side3 A3.out).mono ?_);(case side1 => first|exact HO422.out|exact qVm HO422);(case side2 => exact qCV HO425);(case side3 => exact qL HO425);rintro e w34 ⟨v427,v430,rfl,ho0,ho1,hb⟩;refine ⟨_,rfl,?_⟩;replace HO422:=qVb HO422 hb;replace HO425:=qVb HO425 hb;have HO428:=Aside0.mk (Kd.V_lower (Kd.V_mono (ok':=fun k_ => True) ho0 (fun k_ hk_ => trivial)) (below_size (qS HB)));have HO431:=Aside0.mk (Kd.V_lower (Kd.V_mono (ok':=fun k_ => True) ho1 (fun k_ hk_ => trivial)) (below_size (qS HB)));replace HB:=qs HB hb;clear hb ho0 ho1)|((with_reducible refine gate_dst (N:=1) rfl ?_);refine qX #[.slice none 0 0] 38 ?_;intro gb433 hg w35 hbox hb;replace HO422:=qVe HO422 hb hg;replace HO425:=qVe HO425 hb hg;replace HO428:=qVe HO428 hb hg;replace HO431:=qVe HO431 hb hg;have BK433:=Aside0.mk hbox;have GE433:=qh hg HB;replace HB:=qs HB hb;clear hb hbox hg)|((with_reducible refine gate_dst (N:=2) rfl ?_);refine qX #[.slice none 0 0] 38 ?_;intro gb434 hg w36 hbox hb;replace HO422:=qVe HO422 hb hg;replace HO425:=qVe HO425 hb hg;replace HO428:=qVe HO428 hb hg;replace HO431:=qVe HO431 hb hg;have BK434:=Aside0.mk hbox;have GE434:=qh hg HB;replace HB:=qs HB hb;have NB433_434:=ql hg BK433;have NB434_433:=qg hg BK433;replace BK433:=qb BK433 hb;clear hb hbox hg;obtain ⟨Ao37,co37,eo37⟩:=Kd.V_slice HO428.out;subst eo37;have hnb38:=NB433_434.out;have hnc38:=NB434_433.out;have hcz39_0:=bc BK433;have hfz39_0:=bz BK433;obtain ⟨Ao40,co40,eo40⟩:=Kd.V_slice HO431.out;subst eo40;have hcz41_0:=bc BK434;have hfz41_0:=bz BK434))
   generalize hw : ((w36.setCell ⟨gb433,0,none⟩ (.slice Ao37 t426.length co37)).setCell ⟨gb434,0,none⟩ (.slice Ao40 t429.length co40)) = w42
   replace hw:=hw.symm
   replace HO422:=qVh hw HO422
   replace HO425:=qVh hw HO425
   replace HO428:=qVh hw HO428
   replace HO431:=qVh hw HO431
   replace BK433:=qBp hw BK433
   replace BK434:=qBp hw BK434
   replace HB:=qSh hw HB
   clear hw
   replace HO422:=qVw HO422
   replace HO425:=qVw HO425
   replace HO428:=qVw HO428
   replace HO431:=qVw HO431
   replace BK433:=qbd BK433
   replace BK434:=qbd BK434
   replace HB:=qsd HB
   refine start_ (n:=13) (S:=fun w' => w'.cell? ⟨gb433,0,none⟩ = some (.slice Ao37 t426.length co37)) (ds:=[]) #[false,false,false,false,false,false,false,false,false,false,false,false,false] (by kernel_rfl) rfl rfl (bc BK433) (fun hHeld => ?_);refine with_tabW sacristylaw01_lives.tab2 sacristylaw01_lives.bits2 (fun HT_ HW_ => ?_)
   generalize w42.drew = w43 at HO422 HO425 HO428 HO431 BK433 BK434 HB hHeld ⊢
   refine qP 0 11 HT_ ?_
   refine qP 1 12 HT_ ?_
   refine qP 2 13 HT_ ?_
   refine qT 3 14 HT_ HW_ hHeld ?_
   refine q1 4 (some 15) HT_ rfl (fun K hK => ?_)
   refine g_ Try.func56 #[.int .u64 3] ?_
   with_reducible refine (sacristyref01_Small.calls k 3 t435 _ A5.out).mono ?_
   rintro e w44 ⟨v436,rfl,ho0,hb⟩
   refine ⟨_,rfl,?_⟩
   replace HO422:=qVd HO422 ho0 hb
   replace HO425:=qVd HO425 ho0 hb
   replace HO428:=qVd HO428 ho0 hb
   replace HO431:=qVd HO431 ho0 hb
   have HO437:=Aside0.mk (Kd.R_lower ho0 (below_size (qS HB)))
   replace BK433:=qb BK433 hb
   replace BK434:=qb BK434 hb
   replace HB:=qs HB hb
   clear hb ho0
   obtain ⟨Ao45,co45,eo45⟩:=Kd.R_slice HO437.out
   (first|subst eo45|(injection eo45 with f1_ f2_ f3_;have f4_:=f1_.symm;have f5_:=f3_.symm;clear f1_ f2_ f3_;subst f4_;subst f5_))
   refine hK.out _ _ (bc BK433) (fun hHeld => ?_)
   clear hK K
   refine qO 15 ?_
   refine q1 5 (some 16) HT_ rfl (fun K hK => ?_)
   refine g_ Try.func37 #[.agg #[.slice Ao37 t426.length co37],.slice Ao45 t435.length co45] ?_
   with_reducible refine (sacristylaw01_Same.calls k _ _ t426 _ _ t435 false _ ?side1 ?side2 ?side3 ?side4 A6.out).mono ?_
   (case side1 => exact qCV HO428)
   (case side2 => exact qL HO428)
   (case side3 => exact qCR HO437)
   (case side4 => exact qLR HO437)
   rintro e w46 ⟨rfl,hb⟩
   refine ⟨_,rfl,?_⟩
   replace HO422:=qVb HO422 hb
   replace HO425:=qVb HO425 hb
   replace HO428:=qVb HO428 hb
   replace HO431:=qVb HO431 hb
   replace HO437:=qRb HO437 hb
   replace BK433:=qb BK433 hb
   replace BK434:=qb BK434 hb
   replace HB:=qs HB hb
   clear hb
   refine hK.out _ _ (bc BK433) (fun hHeld => ?_)
   clear hK K
   refine qO 16 ?_
   refine qP 6 17 HT_ ?_
   refine qP 7 18 HT_ ?_
   refine qU 8 19 HT_ ?_
   refine qU 9 20 HT_ ?_
   refine qU 10 21 HT_ ?_
   refine qP 11 22 HT_ ?_
   refine qP 12 0 HT_ ?_
   refine qD HT_ ?_
   try go_wp2
   (first|go_ret|(refine ⟨_,results_tmp rfl _ _ _,?_⟩))
   exact ⟨by first|rfl|(simp [errW_none,errW_some] <;> rfl)|(simp [*,errW_none,errW_some] <;> rfl),qS HB⟩
 ·rw [if_neg c4] at H
  have c4b0 : (t432 == 0) = false:=beq_eq_false_iff_ne.mpr c4
  have c4b1 : (t432 != 0) = true:=bne_iff_ne.mpr c4
  obtain rfl:=Option.some.inj H
  go_enter Try.func34,Try.ntmps34
  try go_wp2_with (first|((with_reducible refine gate_callee (f:=54) rfl ?_);refine gL (some 5) Try.func54 #[.int .u64 7] ?_;(with_reducible refine (nat_New.calls k 7 t420 _ A1.out).mono ?_);rintro e w47 ⟨v421,rfl,ho0,hb⟩;refine ⟨_,rfl,?_⟩;have HO422:=Aside0.mk (Kd.V_lower (Kd.V_mono (ok':=fun k_ => True) ho0 (fun k_ hk_ => trivial)) (below_size (qS HB)));replace HB:=qs HB hb;clear hb ho0)|((with_reducible refine gate_callee (f:=54) rfl ?_);refine gL (some 6) Try.func54 #[.int .u64 2] ?_;(with_reducible refine (nat_New.calls k 2 t423 _ A2.out).mono ?_);rintro e w48 ⟨v424,rfl,ho0,hb⟩;refine ⟨_,rfl,?_⟩;replace HO422:=qVb HO422 hb;have HO425:=Aside0.mk (Kd.V_lower (Kd.V_mono (ok':=fun k_ => True) ho0 (fun k_ hk_ => trivial)) (below_size (qS HB)));replace HB:=qs HB hb;clear hb ho0;obtain ⟨Ao49,co49,eo49⟩:=Kd.V_slice HO422.out;subst eo49;obtain ⟨Ao50,co50,eo50⟩:=Kd.V_slice HO425.out;subst eo50)|((with_reducible refine gate_callee (f:=53) rfl ?_);refine gL (some 7) Try.func53 #[.agg #[.slice Ao49 t420.length co49],.agg #[.slice Ao50 t423.length co50]] ?_;(with_reducible refine (nat_Nat_Div.calls k (fun k_ => True) _ _ t420 _ _ t423 t426 t429 t432 _ ?side1 ?side2 ?side3 A3.out).mono ?_);(case side1 => first|exact HO422.out|exact qVm HO422);(case side2 => exact qCV HO425);(case side3 => exact qL HO425);rintro e w51 ⟨v427,v430,rfl,ho0,ho1,hb⟩;refine ⟨_,rfl,?_⟩;replace HO422:=qVb HO422 hb;replace HO425:=qVb HO425 hb;have HO428:=Aside0.mk (Kd.V_lower (Kd.V_mono (ok':=fun k_ => True) ho0 (fun k_ hk_ => trivial)) (below_size (qS HB)));have HO431:=Aside0.mk (Kd.V_lower (Kd.V_mono (ok':=fun k_ => True) ho1 (fun k_ hk_ => trivial)) (below_size (qS HB)));replace HB:=qs HB hb;clear hb ho0 ho1)|((with_reducible refine gate_dst (N:=1) rfl ?_);refine qX #[.slice none 0 0] 38 ?_;intro gb433 hg w52 hbox hb;replace HO422:=qVe HO422 hb hg;replace HO425:=qVe HO425 hb hg;replace HO428:=qVe HO428 hb hg;replace HO431:=qVe HO431 hb hg;have BK433:=Aside0.mk hbox;have GE433:=qh hg HB;replace HB:=qs HB hb;clear hb hbox hg)|((with_reducible refine gate_dst (N:=2) rfl ?_);refine qX #[.slice none 0 0] 38 ?_;intro gb434 hg w53 hbox hb;replace HO422:=qVe HO422 hb hg;replace HO425:=qVe HO425 hb hg;replace HO428:=qVe HO428 hb hg;replace HO431:=qVe HO431 hb hg;have BK434:=Aside0.mk hbox;have GE434:=qh hg HB;replace HB:=qs HB hb;have NB433_434:=ql hg BK433;have NB434_433:=qg hg BK433;replace BK433:=qb BK433 hb;clear hb hbox hg;obtain ⟨Ao54,co54,eo54⟩:=Kd.V_slice HO428.out;subst eo54;have hnb55:=NB433_434.out;have hnc55:=NB434_433.out;have hcz56_0:=bc BK433;have hfz56_0:=bz BK433;obtain ⟨Ao57,co57,eo57⟩:=Kd.V_slice HO431.out;subst eo57;have hcz58_0:=bc BK434;have hfz58_0:=bz BK434))
  generalize hw : ((w53.setCell ⟨gb433,0,none⟩ (.slice Ao54 t426.length co54)).setCell ⟨gb434,0,none⟩ (.slice Ao57 t429.length co57)) = w59
  replace hw:=hw.symm
  replace HO422:=qVh hw HO422
  replace HO425:=qVh hw HO425
  replace HO428:=qVh hw HO428
  replace HO431:=qVh hw HO431
  replace BK433:=qBp hw BK433
  replace BK434:=qBp hw BK434
  replace HB:=qSh hw HB
  clear hw
  replace HO422:=qVw HO422
  replace HO425:=qVw HO425
  replace HO428:=qVw HO428
  replace HO431:=qVw HO431
  replace BK433:=qbd BK433
  replace BK434:=qbd BK434
  replace HB:=qsd HB
  refine start_ (n:=13) (S:=fun w' => True) (ds:=[]) #[false,false,false,false,false,false,false,false,false,false,false,false,false] (by kernel_rfl) rfl rfl trivial (fun hHeld => ?_);refine with_tabW sacristylaw01_lives.tab2 sacristylaw01_lives.bits2 (fun HT_ HW_ => ?_)
  generalize w59.drew = w60 at HO422 HO425 HO428 HO431 BK433 BK434 HB hHeld ⊢
  refine qP 0 11 HT_ ?_
  refine qP 1 12 HT_ ?_
  refine qP 2 13 HT_ ?_
  refine qU 3 14 HT_ ?_
  refine qU 4 15 HT_ ?_
  refine qU 5 16 HT_ ?_
  refine qP 6 17 HT_ ?_
  refine qP 7 18 HT_ ?_
  refine qU 8 19 HT_ ?_
  refine qU 9 20 HT_ ?_
  refine qU 10 21 HT_ ?_
  refine qP 11 22 HT_ ?_
  refine qP 12 0 HT_ ?_
  refine qD HT_ ?_
  try go_wp2
  (first|go_ret|(refine ⟨_,results_tmp rfl _ _ _,?_⟩))
  exact ⟨by first|rfl|(simp [errW_none,errW_some] <;> rfl)|(simp [*,errW_none,errW_some] <;> rfl),qS HB⟩
end Go.Proofs.Yteejcpbngnojkaa.P
end
section
namespace Go.Proofs.Yteejcpbngnojkaa.P
open Go.RowKit Go.Proofs.YteejcpbngnojkaaW.PrintWords Go.Proofs.YteejcpbngnojkaaW.PrintLast Go.Proofs.YteejcpbngnojkaaW.PrintMore
attribute [local go_sem] max2_int min2_int max_two min_two max_three min_three max_four min_four
set_option linter.unusedVariables false
set_option linter.unusedSimpArgs false
def nat_FromBytes.l0 : Nat → List Int → List Int → Int → Int → Option (List Int × Int)
 |0,_,_,_,_ => none
 |k + 1,x0,x4,x17,x18 => if x18 < x17 then (if 0 ≤ (wrap64 ((wrap64 ((x0.length : Int) - 1)) - x18)) then (if (wrap64 ((wrap64 ((x0.length : Int) - 1)) - x18)) < (x0.length : Int) then (if 0 ≤ (wrap64 (Int.tdiv x18 4)) then (if (wrap64 (Int.tdiv x18 4)) < (x4.length : Int) then (if 0 ≤ (wrap64 (8 * (Int.tmod x18 4))) then (nat_FromBytes.l0 k x0 (x4.set ((wrap64 (Int.tdiv x18 4)) : Int).toNat (Go.bits .or .u32 (rd x4 (wrap64 (Int.tdiv x18 4))) (shl .u32 ((rd x0 (wrap64 ((wrap64 ((x0.length : Int) - 1)) - x18))) % 4294967296) (wrap64 (8 * (Int.tmod x18 4)))))) x17 (wrap64 (x18 + 1))) else (none)) else (none)) else (none)) else (none)) else (none)) else ((nat_trim.f k x4).bind fun t450 => (some (t450,0)))
def nat_FromBytes.f (k : Nat) (l0 : List Int) : Option (List Int × Int):=if (l0.length : Int) > 128 then (some (([] : List Int),4)) else (if 0 ≤ (wrap64 (Int.tdiv (wrap64 ((l0.length : Int) + 3)) 4)) then (if (wrap64 (Int.tdiv (wrap64 ((l0.length : Int) + 3)) 4) : Int).toNat ≤ 70368744177664 then (nat_FromBytes.l0 k l0 (List.replicate (wrap64 (Int.tdiv (wrap64 ((l0.length : Int) + 3)) 4) : Int).toNat 0) (l0.length : Int) 0) else (none)) else (none))
theorem nat_FromBytes.mono_l : ∀ k,(∀ y0 y1 y2 y3,LeO (nat_FromBytes.l0 k y0 y1 y2 y3) (nat_FromBytes.l0 (k + 1) y0 y1 y2 y3))
 |0 => fun _ _ _ _ r h => by simp [nat_FromBytes.l0] at h
 |k + 1 => by
  have ih0:=nat_FromBytes.mono_l k
  ·intro y0 y1 y2 y3
   unfold nat_FromBytes.l0
   repeat' first
   |(with_reducible exact ih0 _ _ _ _)
   |(with_reducible exact nat_trim.mono _ _)
   |(with_reducible exact LeO.refl _)
   |(with_reducible exact LeO.none _)
   |(with_reducible refine LeO.ite ?_ ?_)
   |(with_reducible refine LeO.bind ?_ (fun _ => ?_))
   |exact ih0 _ _ _ _
   |exact nat_trim.mono _ _
   |exact LeO.none _
   |refine LeO.ite ?_ ?_
   |refine LeO.bind ?_ (fun _ => ?_)
theorem nat_FromBytes.mono : ∀ a0 k,LeO (nat_FromBytes.f k a0) (nat_FromBytes.f (k + 1) a0):=by
 intro a0 k
 have ih0:=nat_FromBytes.mono_l k
 unfold nat_FromBytes.f
 repeat' first
   |(with_reducible exact ih0 _ _ _ _)
   |(with_reducible exact nat_trim.mono _ _)
   |(with_reducible exact LeO.refl _)
   |(with_reducible exact LeO.none _)
   |(with_reducible refine LeO.ite ?_ ?_)
   |(with_reducible refine LeO.bind ?_ (fun _ => ?_))
   |exact ih0 _ _ _ _
   |exact nat_trim.mono _ _
   |exact LeO.none _
   |refine LeO.ite ?_ ?_
   |refine LeO.bind ?_ (fun _ => ?_)
def nat_FromBytes.T8 : Bool × List (List Nat × List Nat):=(true,[([],[]),([],[]),([1],[1]),([0,2],[0,2]),([3],[3]),([],[]),([5],[5]),([],[]),([7],[7]),([8],[8]),([6,9],[6,9]),([4,10],[4,10]),([0,2,0,1,2,3,4,5,6,7,8,9,10,11],[0,2]),([12,11,0,1,2,3,4,5,6,7,8,9,10,11],[11,12])])
def nat_FromBytes.B8 : List Nat:=[0,0,2,7,15,0,32,0,128,384,992,2047,4095,8191]
theorem nat_FromBytes.tab8 : rtab .any (opsOf Try.f35 8) = nat_FromBytes.T8:=by kernel_rfl
theorem nat_FromBytes.bits8 : waitsOk nat_FromBytes.T8.2 nat_FromBytes.B8 = true:=by kernel_rfl
set_option maxHeartbeats 8000000 in
set_option maxRecDepth 100000 in
theorem nat_FromBytes.calls (k : Nat) (A0 : Option Addr) (c0 : Nat) (l0 : List Int) (r1 : List Int) (r2 : Int) (w : World) (hr0 : Kd.C (Kd.int .u8) w A0 l0.length l0) (hc0 : l0.length ≤ c0) (h : nat_FromBytes.f k l0 = some (r1,r2)) :
  Calls Try.prog 35 #[.slice A0 l0.length c0] w fun e w' => ∃ v0_ : Value,e = .returned (.tuple #[.agg #[v0_],.int .i64 r2]) ∧ Kd.V (Kd.int .u32) 23 w' w.heap.size (fun k_ => (w.heap.size ≤ k_)) v0_ r1 ∧ Below w.heap.size w w':=by
 have hu38:=Try.underlying38
 have HR0:=Aside0.mk hr0
 have HC0:=Aside0.mk hc0
 clear hr0 hc0
 have HB:=Aside0.mk (Below.refl w.heap.size w)
 have H : (if (l0.length : Int) > 128 then (some (([] : List Int),4)) else (if 0 ≤ (wrap64 (Int.tdiv (wrap64 ((l0.length : Int) + 3)) 4)) then (if (wrap64 (Int.tdiv (wrap64 ((l0.length : Int) + 3)) 4) : Int).toNat ≤ 70368744177664 then (nat_FromBytes.l0 k l0 (List.replicate (wrap64 (Int.tdiv (wrap64 ((l0.length : Int) + 3)) 4) : Int).toNat 0) (l0.length : Int) 0) else (none)) else (none))) = some (r1,r2):=h
 clear h
 by_cases c2 : (l0.length : Int) > 128
 ·rw [if_pos c2] at H
  have c2b0 : decide (128 < (l0.length : Int)) = true:=decide_eq_true c2
  have c2b1 : decide (128 < l0.length) = true:=decide_eq_true (by omega)
  clear c2
  simp only [Option.some.injEq,Prod.mk.injEq] at H
  obtain ⟨rfl,rfl⟩:=H
  go_enter Try.func35,Try.ntmps35
  go_wp2_with (first|((with_reducible refine gate_dst (N:=2) rfl ?_);refine qX #[.slice none 0 0] 38 ?_;intro gb443 hg w3 hbox hb;have BK443:=Aside0.mk hbox;have GE443:=qh hg HB;replace HB:=qs HB hb;clear hb hbox hg;have hcz4_0:=bc BK443;have hfz4_0:=bz BK443))
  refine bodyPost_ret (results_ct rfl _ _ gb443 38 #[.slice none 0 0] (0,0) _ rfl (by (with_reducible repeat (first|refine blk_drewN ?_ _|refine blk_drew ?_|refine blk_alloc ?_ _));refine blk_put (cs:=#[.slice none 0 0]) ?_ 0 _ rfl;(with_reducible repeat (first|refine blk_drewN ?_ _|refine blk_drew ?_|refine blk_alloc ?_ _));exact BK443.out) Try.underlying38 rfl (by kernel_rfl)) rfl ?_
  exact ⟨_,by first|rfl|(simp [errW_none,errW_some] <;> rfl)|(simp [*,errW_none,errW_some] <;> rfl),Kd.V_nil _ _ _ _ _,qS HB⟩
 ·rw [if_neg c2] at H
  have c2b0 : decide (128 < (l0.length : Int)) = false:=decide_eq_false c2
  have c2b1 : decide (128 < l0.length) = false:=decide_eq_false (by omega)
  clear c2
  obtain ⟨ji5,hji5⟩ : ∃ j_ : Int,(wrap64 (Int.tdiv (wrap64 ((l0.length : Int) + 3)) 4)) = j_:=⟨_,rfl⟩
  (first|rw [hji5] at H|simp only [hji5] at H)
  have hji5w : (IntKind.i64.wrap (Int.tdiv (wrap64 ((l0.length : Int) + 3)) 4)) = ji5:=(i64_w _).trans hji5
  by_cases c6 : 0 ≤ (ji5)
  ·rw [if_pos c6] at H
   have c6b0:=eq_true c6
   have c6b1 : decide (0 ≤ (ji5)) = true:=decide_eq_true c6
   clear c6
   by_cases c7 : (ji5 : Int).toNat ≤ 70368744177664
   ·rw [if_pos c7] at H
    have c7b0:=eq_true c7
    have c7b1 : decide ((ji5 : Int).toNat ≤ 70368744177664) = true:=decide_eq_true c7
    clear c7
    obtain ⟨y444,hy444⟩ : ∃ y_ : List Int,y_ = (List.replicate (ji5 : Int).toNat 0):=⟨_,rfl⟩
    replace H : (nat_FromBytes.l0 k l0 y444 (l0.length : Int) 0) = some (r1,r2):=by first|(rw [hy444];with_reducible exact H)|(have H2_:=(Option.bind_some _ _).symm.trans H;rw [hy444];with_reducible exact H2_)|(have H2_:=(Option.bind_some _ _).symm.trans H;with_reducible exact H2_)|with_reducible exact H|(rw [hy444];exact H)|exact H
    have Ny444:=Aside0.mk hy444
    clear hy444
    have H':=Aside0.mk H
    clear H
    go_enter Try.func35,Try.ntmps35
    go_wp2_with (first|((with_reducible refine gate_dst (N:=2) rfl ?_);refine qX #[.slice none 0 0] 38 ?_;intro gb443 hg w8 hbox hb;have BK443:=Aside0.mk hbox;have GE443:=qh hg HB;replace HB:=qs HB hb;clear hb hbox hg)|((with_reducible refine gate_dst (N:=15) rfl ?_);refine Kd.R_make (Kd.int .u32) _ 23 rfl (N:=15) rfl 36 _ _ rfl ji5 rfl rfl Try.underlying36 (.int .u32 0) 4 info23 rfl (by decide) (by omega) 0 (ok:=fun _ => True) (okp:=fun _ => True) rfl (fun _ hk => hk) trivial (od) (Nat.le_trans (Nat.mul_le_mul_right _ (od : ji5.toNat ≤ 70368744177664)) (by omega)) (Below.refl _ _) (Nat.le_refl _) ?_;intro v445 w9 ho10 hb hg_ hnew_;clear hg_ hnew_;(first|rw [← Ny444.out] at ho10|(simp only [Int.reduceToNat] at ho10;rw [← Ny444.out] at ho10));have HO446:=Aside0.mk (Kd.R_lower (Kd.R_newM (M:=fun k_ => (w.heap.size ≤ k_)) ho10 (below_size (qS HB)) (fun k_ h_ => h_)) (below_size (qS HB)));replace BK443:=qb BK443 hb;replace HB:=qs HB hb;clear hb ho10))
    go_loopg [18] k (fun kq v18 w' => ∃ (x4_1 : List Int) (x18_1 : Int),v18 = .int .i64 x18_1 ∧ Aside0 (nat_FromBytes.l0 kq l0 x4_1 (l0.length : Int) x18_1 = some (r1,r2)) ∧ Aside0 (kq ≤ k) ∧ Aside0 (Kd.R (Kd.int .u32) 23 w' w.heap.size (fun k_ => (w.heap.size ≤ k_)) v445 x4_1) ∧ Aside0 (w'.heap[gb443]? = some (.cells #[(.slice none 0 0)] 38 (0,0))) ∧ Aside0 (Below w.heap.size w w'))
    case atStart => exact ⟨(y444),(0),(by first|rfl|(simp;done)|(simp [*];done)),H',⟨Nat.le_refl _⟩,⟨qRm HO446⟩,⟨qB BK443.out⟩,⟨qS HB⟩⟩
    case round =>
     clear H'
     try clear c2
     try clear c2b0
     try clear c2b1
     try clear p2
     try clear c3
     try clear c6
     try clear c6b0
     try clear c6b1
     try clear p6
     try clear c7
     try clear c7b0
     try clear c7b1
     try clear hcz4_0
     try clear hfz4_0
     obtain ⟨x4_1,x18_1,rfl,HA,HK1,HO_4,BK443,HB⟩:=hrel
     cases gk with
     |zero => exact absurd HA.out (by simp [nat_FromBytes.l0])
     |succ k1 =>
      have H:=HA.out
      clear HA
      simp only [nat_FromBytes.l0] at H
      by_cases c11 : x18_1 < (l0.length : Int)
      ·rw [if_pos c11] at H
       have c11b0 : decide (x18_1 < (l0.length : Int)) = true:=decide_eq_true c11
       clear c11
       obtain ⟨ji12,hji12⟩ : ∃ j_ : Int,(wrap64 ((wrap64 ((l0.length : Int) - 1)) - x18_1)) = j_:=⟨_,rfl⟩
       (first|rw [hji12] at H|simp only [hji12] at H)
       have hji12w : (IntKind.i64.wrap ((wrap64 ((l0.length : Int) - 1)) - x18_1)) = ji12:=(i64_w _).trans hji12
       by_cases c13 : 0 ≤ (ji12)
       ·rw [if_pos c13] at H
        have c13b0 : decide (0 ≤ (ji12)) = true:=decide_eq_true c13
        clear c13
        by_cases c14 : (ji12) < (l0.length : Int)
        ·rw [if_pos c14] at H
         have c14b0 : decide ((ji12) < (l0.length : Int)) = true:=decide_eq_true c14
         clear c14
         obtain ⟨ji15,hji15⟩ : ∃ j_ : Int,(wrap64 (Int.tdiv x18_1 4)) = j_:=⟨_,rfl⟩
         (first|rw [hji15] at H|simp only [hji15] at H)
         have hji15w : (IntKind.i64.wrap (Int.tdiv x18_1 4)) = ji15:=(i64_w _).trans hji15
         by_cases c16 : 0 ≤ (ji15)
         ·rw [if_pos c16] at H
          have c16b0 : decide (0 ≤ (ji15)) = true:=decide_eq_true c16
          clear c16
          by_cases c17 : (ji15) < (x4_1.length : Int)
          ·rw [if_pos c17] at H
           have c17b0 : decide ((ji15) < (x4_1.length : Int)) = true:=decide_eq_true c17
           clear c17
           obtain ⟨ji18,hji18⟩ : ∃ j_ : Int,(wrap64 (8 * (Int.tmod x18_1 4))) = j_:=⟨_,rfl⟩
           (first|rw [hji18] at H|simp only [hji18] at H)
           have hji18w : (IntKind.i64.wrap (8 * (Int.tmod x18_1 4))) = ji18:=(i64_w _).trans hji18
           by_cases c19 : 0 ≤ (ji18)
           ·rw [if_pos c19] at H
            have c19b0:=eq_true c19
            have c19b1 : decide (0 ≤ (ji18)) = true:=decide_eq_true c19
            clear c19
            obtain ⟨ji20,hji20⟩ : ∃ j_ : Int,(shl .u32 ((rd l0 (ji12)) % 4294967296) (ji18)) = j_:=⟨_,rfl⟩
            (first|rw [hji20] at H|simp only [hji20] at H)
            have hji20_ : (IntKind.u32.wrap (((rd l0 (ji12)) % 4294967296) * 2 ^ min (ji18).toNat 32)) = ji20:=hji20
            have hji20m : ((rd l0 (ji12)) % 4294967296) * 2 ^ min (ji18).toNat 32 % 4294967296 = ji20:=hji20_
            have hji20z : (ji18) ≤ 32 → (IntKind.u32.wrap (((rd l0 (ji12)) % 4294967296) * 2 ^ (ji18).toNat)) = ji20:=shl_small hji20
            obtain ⟨y449,hy449⟩ : ∃ y_ : List Int,y_ = (x4_1.set ((ji15) : Int).toNat (Go.bits .or .u32 (rd x4_1 (ji15)) (ji20))):=⟨_,rfl⟩
            replace H : (nat_FromBytes.l0 k1 l0 y449 (l0.length : Int) (wrap64 (x18_1 + 1))) = some (r1,r2):=by first|(rw [hy449];with_reducible exact H)|(have H2_:=(Option.bind_some _ _).symm.trans H;rw [hy449];with_reducible exact H2_)|(have H2_:=(Option.bind_some _ _).symm.trans H;with_reducible exact H2_)|with_reducible exact H|(rw [hy449];exact H)|exact H
            have Ny449:=Aside0.mk hy449
            clear hy449
            have H':=Aside0.mk H
            clear H
            have p447 : 0 ≤ ((ji12) : Int):=od
            have q447 : (ji12) < (l0.length : Int):=od
            obtain ⟨ad447,e447,hx447_0⟩:=Kd.at_int HR0.out (ji12) p447 q447
            cases e447
            replace hx447_0:=(HB.out.cell (World.block_lt_of_cell? w _ hx447_0)).trans hx447_0
            replace p447:=eq_true p447
            replace q447:=eq_true q447
            try go_wp2
            replace HO_4:=qRw HO_4
            replace BK443:=qbd BK443
            replace HB:=qsd HB
            obtain ⟨Ao23,co23,eo23⟩:=Kd.R_slice HO_4.out
            (first|subst eo23|(injection eo23 with f1_ f2_ f3_;have f4_:=f1_.symm;have f5_:=f3_.symm;clear f1_ f2_ f3_;subst f4_;subst f5_))
            have p448 : 0 ≤ ((ji15) : Int):=od
            have q448 : (ji15) < (x4_1.length : Int):=od
            obtain ⟨ad448,e448,hx448_0⟩:=Kd.at_int (Kd.R_reads' HO_4.out).2.2 (ji15) p448 q448
            cases e448
            replace p448:=eq_true p448
            replace q448:=eq_true q448
            have p21 : 0 ≤ ((ji15) : Int):=od
            have q21 : ((ji15) : Int) < ((x4_1.length : Int) : Int):=od
            obtain ⟨go21,co21,eo21,gb21,gl21,cl21,HG21⟩:=Kd.R_form HO_4.out (by omega)
            (first|cases eo21|(injection eo21 with ea_ en_ ec_;(first|subst ea_|(injection ea_ with ea_;subst ea_));subst ec_;clear en_))
            have GB21:=Aside0.mk gb21
            have GG21:=Aside0.mk HG21
            clear gb21 gl21 HG21
            (first|simp only [add_plain] at hx448_0|skip)
            obtain ⟨hx21_0,hf21_0⟩:=Kd.R_celln 0 HO_4.out ((ji15) : Int) p21 q21
            replace p21:=eq_true p21
            replace q21:=eq_true q21
            have HP24:=Kd.R_putn HO_4.out ((ji15) : Int) (Go.bits .or .u32 (rd x4_1 (ji15)) (ji20))
            rw [← Ny449.out] at HP24
            have HQ24:=Aside0.mk HP24
            clear HP24
            refine start_ (n:=14) (S:=fun w' => w'.cell? ⟨go21,((ji15)).toNat,none⟩ = some (.int .u32 (rd x4_1 (ji15)))) (ds:=[13]) #[false,false,false,false,false,false,false,false,false,false,false,false,false,false] (by kernel_rfl) rfl rfl (hx448_0) (fun hHeld => ?_);refine with_tabW nat_FromBytes.tab8 nat_FromBytes.bits8 (fun HT_ HW_ => ?_)
            generalize wr.drew = w22 at HO_4 BK443 HB GG21 HQ24 hf21_0 hx21_0 hx448_0 hHeld ⊢
            refine qP 0 29 HT_ ?_
            refine qP 1 30 HT_ ?_
            refine qP 2 31 HT_ ?_
            refine qP 3 32 HT_ ?_
            refine qP 5 34 HT_ ?_
            refine qP 6 35 HT_ ?_
            refine qP 7 36 HT_ ?_
            refine qP 8 37 HT_ ?_
            refine qP 9 38 HT_ ?_
            refine qP 10 39 HT_ ?_
            refine qT 4 33 HT_ HW_ hHeld ?_
            refine qP 11 40 HT_ ?_
            refine qP 12 41 HT_ ?_
            refine last_ (i:=13) (N:=none) #[true,true,true,true,true,true,true,true,true,true,true,true,true,true] rfl rfl (one_of HT_.out (by kernel_rfl)) (by decide) (fun K hK => ?_)
            refine skip_ (w1:=?_) (by rfl) rfl ?_ ?_
            rotate_left
            ·go_simp
             rfl
            refine hK.out _ _ ?_
            clear hK K
            refine qD HT_ ?_
            try go_wp2
            go_roundg k1
            case measure => have:=HK1.out;omega
            case rel => exact ⟨(y449),(wrap64 (x18_1 + 1)),(by first|rfl|(simp;done)|(simp [*];done)),H',⟨by have:=HK1.out;omega⟩,⟨by (with_reducible repeat (first|apply Kd.R_alloc|apply Kd.R_drewN|apply Kd.R_drew));(first|exact HQ24.out|(rw [hji20m];exact HQ24.out))⟩,⟨by (with_reducible repeat (first|refine blk_drewN ?_ _|refine blk_drew ?_|refine blk_alloc ?_ _));refine blk_far ?_ (by have h_:=Kd.R_ne HO_4.out BK443.out (by decide);intro e_;exact h_ (by rw [e_];rfl)) _;(with_reducible repeat (first|refine blk_drewN ?_ _|refine blk_drew ?_|refine blk_alloc ?_ _));exact BK443.out⟩,⟨qS HB⟩⟩
           ·rw [if_neg c19] at H
            exact absurd H (by simp)
          ·rw [if_neg c17] at H
           exact absurd H (by simp)
         ·rw [if_neg c16] at H
          exact absurd H (by simp)
        ·rw [if_neg c14] at H
         exact absurd H (by simp)
       ·rw [if_neg c13] at H
        exact absurd H (by simp)
      ·rw [if_neg c11] at H
       have c11b0 : decide (x18_1 < (l0.length : Int)) = false:=decide_eq_false c11
       clear c11
       obtain ⟨t450,A25,H⟩:=qH H
       simp only [Option.some.injEq,Prod.mk.injEq] at H
       obtain ⟨rfl,rfl⟩:=H
       obtain ⟨Ao26,co26,eo26⟩:=Kd.R_slice HO_4.out
       subst eo26
       go_wp2_with (first|((with_reducible refine gate_callee (f:=100) rfl ?_);refine gL (some 44) Try.func100 #[.slice Ao26 x4_1.length co26] ?_;(with_reducible refine (nat_trim.calls k1 (fun k_ => some k_ = (.slice Ao26 x4_1.length co26 : Value).ownBlock) _ _ x4_1 t450 _ ?side1 A25.out).mono ?_);(case side1 => exact Kd.R_V (Kd.R_tight rfl (Kd.R_types (HO_4.out) BK443.out (by decide))));rintro e w27 ⟨v451,rfl,ho0,hb⟩;refine ⟨_,rfl,?_⟩;have HO452:=Aside0.mk (Kd.V_lower (Kd.V_mono (ok':=fun k_ => (w.heap.size ≤ k_) ∧ k_ ≠ gb443) ho0 (fun k_ hk_ => ⟨Or.elim hk_ (fun hs_ => ((Kd.R_types (HO_4.out) BK443.out (by decide)).1 k_ hs_.symm).1) (fun hn_ => (Nat.le_trans (below_size (qS HB)) hn_)),Or.elim hk_ (fun hs_ => ((Kd.R_types (HO_4.out) BK443.out (by decide)).1 k_ hs_.symm).2) (fun hn_ => (Kd.freshB (qB BK443.out) k_ hn_))⟩)) (below_size (qS HB)));replace HO_4:=qRb HO_4 hb;replace BK443:=qb BK443 hb;replace HB:=qs HB hb;clear hb ho0;obtain ⟨Ao28,co28,eo28⟩:=Kd.V_slice HO452.out;subst eo28;have hcz29_0:=bc BK443;have hfz29_0:=bz BK443))
       refine bodyPost_ret (results_ct rfl _ _ gb443 38 #[.slice Ao28 t450.length co28] (0,0) _ rfl (by (with_reducible repeat (first|refine blk_drewN ?_ _|refine blk_drew ?_|refine blk_alloc ?_ _));refine blk_put (cs:=#[.slice none 0 0]) ?_ 0 _ rfl;(with_reducible repeat (first|refine blk_drewN ?_ _|refine blk_drew ?_|refine blk_alloc ?_ _));exact BK443.out) Try.underlying38 rfl (by kernel_rfl)) rfl ?_
       exact ⟨_,by first|rfl|(simp [errW_none,errW_some] <;> rfl)|(simp only [← hji5];first|rfl|(simp [errW_none,errW_some] <;> rfl))|(simp [*,errW_none,errW_some] <;> rfl),qVm HO452,qS HB⟩
   ·rw [if_neg c7] at H
    exact absurd H (by simp)
  ·rw [if_neg c6] at H
   exact absurd H (by simp)
end Go.Proofs.Yteejcpbngnojkaa.P
end
section
namespace Go.Proofs.Yteejcpbngnojkaa.P
open Go.RowKit Go.Proofs.YteejcpbngnojkaaW.PrintWords Go.Proofs.YteejcpbngnojkaaW.PrintLast Go.Proofs.YteejcpbngnojkaaW.PrintMore
attribute [local go_sem] max2_int min2_int max_two min_two max_three min_three max_four min_four
set_option linter.unusedVariables false
set_option linter.unusedSimpArgs false
def sacristylaw01_Num.f (k : Nat) (l0 : List Int) : Option (List Int):=if 0 ≤ (mn (l0.length : Int) 48) then (if (mn (l0.length : Int) 48) ≤ (l0.length : Int) then ((nat_FromBytes.f k (l0.take ((mn (l0.length : Int) 48) : Int).toNat)).bind fun bt506 => (some bt506.1)) else (none)) else (none)
theorem sacristylaw01_Num.mono : ∀ a0 k,LeO (sacristylaw01_Num.f k a0) (sacristylaw01_Num.f (k + 1) a0):=by
 intro a0 k
 unfold sacristylaw01_Num.f
 repeat' first
   |(with_reducible exact nat_FromBytes.mono _ _)
   |(with_reducible exact LeO.refl _)
   |(with_reducible exact LeO.none _)
   |(with_reducible refine LeO.ite ?_ ?_)
   |(with_reducible refine LeO.bind ?_ (fun _ => ?_))
   |exact nat_FromBytes.mono _ _
   |exact LeO.none _
   |refine LeO.ite ?_ ?_
   |refine LeO.bind ?_ (fun _ => ?_)
set_option maxHeartbeats 8000000 in
set_option maxRecDepth 100000 in
theorem sacristylaw01_Num.calls (k : Nat) (A0 : Option Addr) (c0 : Nat) (l0 : List Int) (r : List Int) (w : World) (hr0 : Kd.C (Kd.int .u8) w A0 l0.length l0) (hc0 : l0.length ≤ c0) (h : sacristylaw01_Num.f k l0 = some r) :
  Calls Try.prog 40 #[.slice A0 l0.length c0] w fun e w' => ∃ v0_ : Value,e = .returned (.agg #[v0_]) ∧ Kd.V (Kd.int .u32) 23 w' w.heap.size (fun k_ => (w.heap.size ≤ k_)) v0_ r ∧ Below w.heap.size w w':=by
 have hu38:=Try.underlying38
 have HR0:=Aside0.mk hr0
 have HC0:=Aside0.mk hc0
 clear hr0 hc0
 have HB:=Aside0.mk (Below.refl w.heap.size w)
 have H : (if 0 ≤ (mn (l0.length : Int) 48) then (if (mn (l0.length : Int) 48) ≤ (l0.length : Int) then ((nat_FromBytes.f k (l0.take ((mn (l0.length : Int) 48) : Int).toNat)).bind fun bt506 => (some bt506.1)) else (none)) else (none)) = some r:=h
 clear h
 obtain ⟨ji2,hji2⟩ : ∃ j_ : Int,(mn (l0.length : Int) 48) = j_:=⟨_,rfl⟩
 (first|rw [hji2] at H|simp only [hji2] at H)
 (try (have hji2h : ji2 ≤ 48:=by (rw [← hji2];unfold mn;(repeat' split) <;> omega)))
 (try (have hji2g : ji2 ≤ 64:=by omega))
 (try (have hji2l : 0 ≤ ji2:=by (rw [← hji2];unfold mn;(repeat' split) <;> omega)))
 (try (have hji2m : 0 ≤ ji2:=by omega))
 have hji2_ : (if 48 < (l0.length : Int) then 48 else (l0.length : Int)) = ji2:=hji2
 by_cases c3 : 0 ≤ (ji2)
 ·rw [if_pos c3] at H
  have c3b0:=eq_true c3
  have c3b1 : decide (0 ≤ (ji2)) = true:=decide_eq_true c3
  clear c3
  by_cases c4 : (ji2) ≤ (l0.length : Int)
  ·rw [if_pos c4] at H
   have c4b0:=eq_true c4
   have c4b1 : decide ((ji2) ≤ (l0.length : Int)) = true:=decide_eq_true c4
   clear c4
   obtain ⟨⟨t506,t509⟩,A5,H⟩:=qH H
   dsimp only at H
   obtain rfl:=Option.some.inj H
   go_enter Try.func40,Try.ntmps40
   go_wp2_with (first|((with_reducible refine gate_dst (N:=2) rfl ?_);refine qX #[.slice none 0 0] 38 ?_;intro gb504 hg w6 hbox hb;have BK504:=Aside0.mk hbox;have GE504:=qh hg HB;replace HB:=qs HB hb;clear hb hbox hg;obtain ⟨i07,hi07,_,hsz7,_⟩:=info_parts info5;obtain ⟨hcut7,hA7,hC7⟩:=print_take_of (P:=Try.prog) (Value.int .u8) 0 22 5 .i64 Try.underlying22 hi07 hsz7 A0 c0 l0 (ji2) (od) (od) HC0.out;have HR505:=Aside0.mk (Kd.C_of_reads (h1:=fun _ => rfl) (hA7 _ (Kd.reads_of_C HR0.out)));have HC505:=Aside0.mk hC7;clear hA7 hC7 hi07 hsz7)|((with_reducible refine gate_callee (f:=35) rfl ?_);refine goesL_ (some 11) rfl rfl Try.func35 (by kernel_rfl) rfl #[.slice A0 (l0.take ((ji2) : Int).toNat).length c0] rfl (by (try simp only [List.map_toArray,List.map_cons,List.map_nil]);first|done|(rw [show (l0.take ((ji2) : Int).toNat).length = (ji2).toNat from (by rw [List.length_take];have h_ : ((ji2) : Int) ≤ (l0.length : Int):=od;omega)] <;> rfl)|(simp only [hji2];rfl)|rfl|(simp only [List.length_drop,List.length_take];rfl)) ?_;(with_reducible refine (nat_FromBytes.calls k _ _ (l0.take ((ji2) : Int).toNat) t506 t509 _ ?side1 ?side2 A5.out).mono ?_);(case side1 => exact qCB HR505 HB);(case side2 => exact HC505.out);rintro e w8 ⟨v507,rfl,ho0,hb⟩;refine ⟨_,rfl,?_⟩;have HO508:=Aside0.mk (Kd.V_lower (Kd.V_mono (ok':=fun k_ => (w.heap.size ≤ k_) ∧ k_ ≠ gb504) ho0 (fun k_ hk_ => ⟨(Nat.le_trans (below_size (qS HB)) hk_),(Kd.freshB (qB BK504.out) k_ hk_)⟩)) (below_size (qS HB)));replace BK504:=qb BK504 hb;replace HB:=qs HB hb;clear hb ho0)|((with_reducible refine gate_dst (N:=3) rfl ?_);refine qX #[.slice none 0 0] 38 ?_;intro gb510 hg w9 hbox hb;replace HO508:=qVe HO508 hb hg;have BK510:=Aside0.mk hbox;have GE510:=qh hg HB;replace HB:=qs HB hb;have NB504_510:=ql hg BK504;have NB510_504:=qg hg BK504;replace BK504:=qb BK504 hb;clear hb hbox hg;obtain ⟨Ao10,co10,eo10⟩:=Kd.V_slice HO508.out;subst eo10;have hnb11:=NB510_504.out;have hnc11:=NB504_510.out;have hcz12_0:=bc BK510;have hfz12_0:=bz BK510;have hcz13_0:=bc BK504;have hfz13_0:=bz BK504))
   refine bodyPost_ret (results_cell_row rfl _ _ gb504 38 #[.slice Ao10 t506.length co10] (0,0) _ rfl (by (with_reducible repeat (first|refine blk_drewN ?_ _|refine blk_drew ?_|refine blk_alloc ?_ _));refine blk_put (cs:=#[.slice none 0 0]) ?_ 0 _ rfl;(with_reducible repeat (first|refine blk_drewN ?_ _|refine blk_drew ?_|refine blk_alloc ?_ _));refine blk_far ?_ NB504_510.out _;(with_reducible repeat (first|refine blk_drewN ?_ _|refine blk_drew ?_|refine blk_alloc ?_ _));exact BK504.out) Try.underlying38 rfl (by kernel_rfl)) rfl ?_
   exact ⟨_,by first|rfl|(simp [errW_none,errW_some] <;> rfl)|(simp only [← hji2];first|rfl|(simp [errW_none,errW_some] <;> rfl))|(simp [*,errW_none,errW_some] <;> rfl),qVm HO508,qS HB⟩
  ·rw [if_neg c4] at H
   exact absurd H (by simp)
 ·rw [if_neg c3] at H
  exact absurd H (by simp)
end Go.Proofs.Yteejcpbngnojkaa.P
end
section
namespace Go.Proofs.Yteejcpbngnojkaa.P
open Go.RowKit Go.Proofs.YteejcpbngnojkaaW.PrintWords Go.Proofs.YteejcpbngnojkaaW.PrintLast Go.Proofs.YteejcpbngnojkaaW.PrintMore
attribute [local go_sem] max2_int min2_int max_two min_two max_three min_three max_four min_four
set_option linter.unusedVariables false
set_option linter.unusedSimpArgs false
def sacristyref01_Trim.l0 : Nat → List Bool → Option (List Bool)
 |0,_ => none
 |k + 1,x0 => if (x0.length : Int) > 0 then (if 0 ≤ (wrap64 ((x0.length : Int) - 1)) then (if (wrap64 ((x0.length : Int) - 1)) < (x0.length : Int) then (if (rdOf false x0 (wrap64 ((x0.length : Int) - 1)) = true) then (some x0) else (if (wrap64 ((x0.length : Int) - 1)) ≤ (x0.length : Int) then (sacristyref01_Trim.l0 k (x0.take ((wrap64 ((x0.length : Int) - 1)) : Int).toNat)) else (none))) else (none)) else (none)) else (some x0)
def sacristyref01_Trim.f (k : Nat) (l0 : List Bool) : Option (List Bool):=sacristyref01_Trim.l0 k l0
theorem sacristyref01_Trim.mono_l : ∀ k,(∀ y0,LeO (sacristyref01_Trim.l0 k y0) (sacristyref01_Trim.l0 (k + 1) y0))
 |0 => fun _ r h => by simp [sacristyref01_Trim.l0] at h
 |k + 1 => by
  have ih0:=sacristyref01_Trim.mono_l k
  ·intro y0
   unfold sacristyref01_Trim.l0
   repeat' first
   |(with_reducible exact ih0 _)
   |(with_reducible exact LeO.refl _)
   |(with_reducible exact LeO.none _)
   |(with_reducible refine LeO.ite ?_ ?_)
   |(with_reducible refine LeO.bind ?_ (fun _ => ?_))
   |exact ih0 _
   |exact LeO.none _
   |refine LeO.ite ?_ ?_
   |refine LeO.bind ?_ (fun _ => ?_)
theorem sacristyref01_Trim.mono : ∀ a0 k,LeO (sacristyref01_Trim.f k a0) (sacristyref01_Trim.f (k + 1) a0):=by
 intro a0 k
 have ih0:=sacristyref01_Trim.mono_l k
 unfold sacristyref01_Trim.f
 repeat' first
   |(with_reducible exact ih0 _)
   |(with_reducible exact LeO.refl _)
   |(with_reducible exact LeO.none _)
   |(with_reducible refine LeO.ite ?_ ?_)
   |(with_reducible refine LeO.bind ?_ (fun _ => ?_))
   |exact ih0 _
   |exact LeO.none _
   |refine LeO.ite ?_ ?_
   |refine LeO.bind ?_ (fun _ => ?_)
set_option maxHeartbeats 8000000 in
set_option maxRecDepth 100000 in
theorem sacristyref01_Trim.calls (k : Nat) (P0_ : Nat → Prop) (A0 : Option Addr) (c0 : Nat) (l0 : List Bool) (r : List Bool) (w : World) (hs0 : Kd.V Kd.bool 4 w w.heap.size (fun k_ => P0_ k_) (.slice A0 l0.length c0) l0) (h : sacristyref01_Trim.f k l0 = some r) :
  Calls Try.prog 111 #[.slice A0 l0.length c0] w fun e w' => ∃ v0_ : Value,e = .returned (v0_) ∧ Kd.V Kd.bool 4 w' w.heap.size (fun k_ => (P0_ k_ ∨ w.heap.size ≤ k_)) v0_ r ∧ Below w.heap.size w w':=by
 have HO0:=Aside0.mk (show Kd.V Kd.bool 4 w w.heap.size (fun k_ => (P0_ k_ ∨ w.heap.size ≤ k_)) (.slice A0 l0.length c0) l0 from Kd.V_mono hs0 (fun k_ hk => .inl hk))
 have HB:=Aside0.mk (Below.refl w.heap.size w)
 have H : (sacristyref01_Trim.l0 k l0) = some r:=h
 clear h
 have H':=Aside0.mk H
 clear H
 go_enter Try.func111,Try.ntmps111
 go_wp2
 go_loopg [0] k (fun kq v0 w' => ∃ (x0_1 : List Bool),Aside0 (sacristyref01_Trim.l0 kq x0_1 = some r) ∧ Aside0 (kq ≤ k) ∧ Aside0 (Kd.V Kd.bool 4 w' w.heap.size (fun k_ => (P0_ k_ ∨ w.heap.size ≤ k_)) v0 x0_1) ∧ Aside0 (Below w.heap.size w w'))
 case atStart => exact ⟨(l0),H',⟨Nat.le_refl _⟩,⟨qVm HO0⟩,⟨qS HB⟩⟩
 case round =>
  clear H'
  try clear c1
  obtain ⟨x0_1,HA,HK1,HO_0,HB⟩:=hrel
  cases gk with
  |zero => exact absurd HA.out (by simp [sacristyref01_Trim.l0])
  |succ k1 =>
   have H:=HA.out
   clear HA
   simp only [sacristyref01_Trim.l0] at H
   by_cases c2 : (x0_1.length : Int) > 0
   ·rw [if_pos c2] at H
    have c2b0 : decide (0 < (x0_1.length : Int)) = true:=decide_eq_true c2
    have c2b1 : decide (0 < x0_1.length) = true:=decide_eq_true (by omega)
    clear c2
    obtain ⟨ji3,hji3⟩ : ∃ j_ : Int,(wrap64 ((x0_1.length : Int) - 1)) = j_:=⟨_,rfl⟩
    (first|rw [hji3] at H|simp only [hji3] at H)
    have hji3w : (IntKind.i64.wrap ((x0_1.length : Int) - 1)) = ji3:=(i64_w _).trans hji3
    by_cases c4 : 0 ≤ (ji3)
    ·rw [if_pos c4] at H
     have c4b0 : decide (0 ≤ (ji3)) = true:=decide_eq_true c4
     clear c4
     by_cases c5 : (ji3) < (x0_1.length : Int)
     ·rw [if_pos c5] at H
      have c5b0 : decide ((ji3) < (x0_1.length : Int)) = true:=decide_eq_true c5
      clear c5
      obtain ⟨bq6,hbq6⟩ : ∃ b_ : Bool,b_ = (rdOf false x0_1 (ji3)):=⟨_,rfl⟩
      replace H : (if (bq6 = true) then (some x0_1) else (if (ji3) ≤ (x0_1.length : Int) then (sacristyref01_Trim.l0 k1 (x0_1.take ((ji3) : Int).toNat)) else (none))) = some r:=by rw [← hbq6] at H;exact H
      have Nbq6:=Aside0.mk hbq6
      clear hbq6
      by_cases c7 : (bq6 = true)
      ·subst c7
       rw [if_pos rfl] at H
       obtain rfl:=Option.some.inj H
       obtain ⟨Ao8,co8,eo8⟩:=Kd.V_slice HO_0.out
       subst eo8
       have p453 : 0 ≤ ((ji3) : Int):=od
       have q453 : (ji3) < (x0_1.length : Int):=od
       obtain ⟨ad453,e453,hx453_0⟩:=Kd.at_bool (Kd.V_reads' HO_0.out).2.2 (ji3) p453 q453
       (try rw [← Nbq6.out] at hx453_0)
       cases e453
       replace p453:=eq_true p453
       replace q453:=eq_true q453
       go_wp2
       (first|go_ret|(refine ⟨_,results_tmp rfl _ _ _,?_⟩))
       exact ⟨_,by first|rfl|(simp [errW_none,errW_some] <;> rfl)|(simp only [← hji3];first|rfl|(simp [errW_none,errW_some] <;> rfl))|(simp [*,errW_none,errW_some] <;> rfl),qVm HO_0,qS HB⟩
      ·replace c7:=Bool.eq_false_iff.mpr c7
       subst c7
       rw [qFT] at H
       have c9b0:=eq_true (od : 0 ≤ (ji3))
       by_cases c10 : (ji3) ≤ (x0_1.length : Int)
       ·rw [if_pos c10] at H
        have c10b0:=eq_true c10
        have c10b1 : decide ((ji3) ≤ (x0_1.length : Int)) = true:=decide_eq_true c10
        clear c10
        obtain ⟨y454,hy454⟩ : ∃ y_ : List Bool,y_ = (x0_1.take ((ji3) : Int).toNat):=⟨_,rfl⟩
        replace H : (sacristyref01_Trim.l0 k1 y454) = some r:=by first|(rw [hy454];with_reducible exact H)|(have H2_:=(Option.bind_some _ _).symm.trans H;rw [hy454];with_reducible exact H2_)|(have H2_:=(Option.bind_some _ _).symm.trans H;with_reducible exact H2_)|with_reducible exact H|(rw [hy454];exact H)|exact H
        have Ny454:=Aside0.mk hy454
        clear hy454
        have H':=Aside0.mk H
        clear H
        obtain ⟨Ao11,co11,eo11⟩:=Kd.V_slice HO_0.out
        subst eo11
        have p453 : 0 ≤ ((ji3) : Int):=od
        have q453 : (ji3) < (x0_1.length : Int):=od
        obtain ⟨ad453,e453,hx453_0⟩:=Kd.at_bool (Kd.V_reads' HO_0.out).2.2 (ji3) p453 q453
        (try rw [← Nbq6.out] at hx453_0)
        cases e453
        replace p453:=eq_true p453
        replace q453:=eq_true q453
        have q12 : ((ji3) : Int) ≤ ((x0_1.length : Int) : Int):=od
        obtain ⟨i012,hi012,_,hsz12,_⟩:=info_parts info4
        have hroom12 : x0_1.length ≤ co11:=(Kd.V_reads' HO_0.out).2.1
        have hC12 : Kd.F Kd.bool _ _ (some ad453) x0_1.length x0_1:=(Kd.V_at (base:=w.heap.size) HO_0.out).2.2
        have hcut12:=cut_to (P:=Try.prog) 42 4 .i64 Try.underlying42 hi012 (some ad453) x0_1.length co11 (ji3) (od) q12 hroom12
        have hr12:=Kd.F_take (m:=((ji3) : Int).toNat) hC12 (by omega)
        have hy12 : y454.length = ((ji3) : Int).toNat:=(by rw [Ny454.out,List.length_take];omega)
        rw [← Ny454.out] at hr12
        rw [← hy12] at hcut12
        have HO458:=Aside0.mk (show Kd.V Kd.bool 4 _ w.heap.size _ (.slice (some ad453) y454.length co11) y454 from Kd.V_mk (by omega) hr12)
        have HC458:=Aside0.mk (show y454.length ≤ co11 from by omega)
        clear hr12 hC12 hroom12 hi012 hsz12
        have KY12:=Aside0.mk hy12
        clear hy12
        replace q12:=eq_true q12
        go_wp2
        go_roundg k1
        case measure => have:=HK1.out;omega
        case rel => exact ⟨(y454),H',⟨by have:=HK1.out;omega⟩,⟨qVm HO458⟩,⟨qS HB⟩⟩
       ·rw [if_neg c10] at H
        exact absurd H (by simp)
     ·rw [if_neg c5] at H
      exact absurd H (by simp)
    ·rw [if_neg c4] at H
     exact absurd H (by simp)
   ·rw [if_neg c2] at H
    have c2b0 : decide (0 < (x0_1.length : Int)) = false:=decide_eq_false c2
    have c2b1 : decide (0 < x0_1.length) = false:=decide_eq_false (by omega)
    clear c2
    obtain rfl:=Option.some.inj H
    obtain ⟨Ao13,co13,eo13⟩:=Kd.V_slice HO_0.out
    subst eo13
    go_wp2
    (first|go_ret|(refine ⟨_,results_tmp rfl _ _ _,?_⟩))
    exact ⟨_,by first|rfl|(simp [errW_none,errW_some] <;> rfl)|(simp [*,errW_none,errW_some] <;> rfl),qVm HO_0,qS HB⟩
end Go.Proofs.Yteejcpbngnojkaa.P
end
section
namespace Go.Proofs.Yteejcpbngnojkaa.P
open Go.RowKit Go.Proofs.YteejcpbngnojkaaW.PrintWords Go.Proofs.YteejcpbngnojkaaW.PrintLast Go.Proofs.YteejcpbngnojkaaW.PrintMore
attribute [local go_sem] max2_int min2_int max_two min_two max_three min_three max_four min_four
set_option linter.unusedVariables false
set_option linter.unusedSimpArgs false
mutual
def sacristyref01_Of.l0 : Nat → List Int → List Bool → Int → Option (List Bool)
 |0,_,_,_ => none
 |k + 1,x0,x3,x4 => if x4 ≥ 0 then (sacristyref01_Of.l1 k x0 x3 x4 0) else ((sacristyref01_Trim.f k x3).bind fun t462 => (some t462))
def sacristyref01_Of.l1 : Nat → List Int → List Bool → Int → Int → Option (List Bool)
 |0,_,_,_,_ => none
 |k + 1,x0,x3,x4,x5 => if x5 < 8 then (if 0 ≤ x4 then (if x4 < (x0.length : Int) then (if 0 ≤ x5 then (if x3.length < 140737488355328 then (sacristyref01_Of.l1 k x0 (x3 ++ [((Int.tmod (shr .u8 (rd x0 x4) x5) 2) == 1)]) x4 (wrap64 (x5 + 1))) else (none)) else (none)) else (none)) else (none)) else (sacristyref01_Of.l0 k x0 x3 (wrap64 (x4 - 1)))
end
def sacristyref01_Of.f (k : Nat) (l0 : List Int) : Option (List Bool):=sacristyref01_Of.l0 k l0 (([] : List Bool)) (wrap64 ((l0.length : Int) - 1))
theorem sacristyref01_Of.mono_l : ∀ k,(∀ y0 y1 y2,LeO (sacristyref01_Of.l0 k y0 y1 y2) (sacristyref01_Of.l0 (k + 1) y0 y1 y2)) ∧ (∀ y0 y1 y2 y3,LeO (sacristyref01_Of.l1 k y0 y1 y2 y3) (sacristyref01_Of.l1 (k + 1) y0 y1 y2 y3))
 |0 => ⟨fun _ _ _ r h => by simp [sacristyref01_Of.l0] at h,fun _ _ _ _ r h => by simp [sacristyref01_Of.l1] at h⟩
 |k + 1 => by
  obtain ⟨ih0,ih1⟩:=sacristyref01_Of.mono_l k
  refine ⟨?_,?_⟩
  ·intro y0 y1 y2
   unfold sacristyref01_Of.l0
   repeat' first
   |(with_reducible exact ih0 _ _ _)
   |(with_reducible exact ih1 _ _ _ _)
   |(with_reducible exact sacristyref01_Trim.mono _ _)
   |(with_reducible exact LeO.refl _)
   |(with_reducible exact LeO.none _)
   |(with_reducible refine LeO.ite ?_ ?_)
   |(with_reducible refine LeO.bind ?_ (fun _ => ?_))
   |exact ih0 _ _ _
   |exact ih1 _ _ _ _
   |exact sacristyref01_Trim.mono _ _
   |exact LeO.none _
   |refine LeO.ite ?_ ?_
   |refine LeO.bind ?_ (fun _ => ?_)
  ·intro y0 y1 y2 y3
   unfold sacristyref01_Of.l1
   repeat' first
   |(with_reducible exact ih0 _ _ _)
   |(with_reducible exact ih1 _ _ _ _)
   |(with_reducible exact sacristyref01_Trim.mono _ _)
   |(with_reducible exact LeO.refl _)
   |(with_reducible exact LeO.none _)
   |(with_reducible refine LeO.ite ?_ ?_)
   |(with_reducible refine LeO.bind ?_ (fun _ => ?_))
   |exact ih0 _ _ _
   |exact ih1 _ _ _ _
   |exact sacristyref01_Trim.mono _ _
   |exact LeO.none _
   |refine LeO.ite ?_ ?_
   |refine LeO.bind ?_ (fun _ => ?_)
theorem sacristyref01_Of.mono : ∀ a0 k,LeO (sacristyref01_Of.f k a0) (sacristyref01_Of.f (k + 1) a0):=by
 intro a0 k
 obtain ⟨ih0,ih1⟩:=sacristyref01_Of.mono_l k
 unfold sacristyref01_Of.f
 repeat' first
   |(with_reducible exact ih0 _ _ _)
   |(with_reducible exact ih1 _ _ _ _)
   |(with_reducible exact sacristyref01_Trim.mono _ _)
   |(with_reducible exact LeO.refl _)
   |(with_reducible exact LeO.none _)
   |(with_reducible refine LeO.ite ?_ ?_)
   |(with_reducible refine LeO.bind ?_ (fun _ => ?_))
   |exact ih0 _ _ _
   |exact ih1 _ _ _ _
   |exact sacristyref01_Trim.mono _ _
   |exact LeO.none _
   |refine LeO.ite ?_ ?_
   |refine LeO.bind ?_ (fun _ => ?_)
set_option maxHeartbeats 8000000 in
set_option maxRecDepth 100000 in
theorem sacristyref01_Of.calls (k : Nat) (A0 : Option Addr) (c0 : Nat) (l0 : List Int) (r : List Bool) (w : World) (hr0 : Kd.C (Kd.int .u8) w A0 l0.length l0) (hc0 : l0.length ≤ c0) (h : sacristyref01_Of.f k l0 = some r) :
  Calls Try.prog 101 #[.slice A0 l0.length c0] w fun e w' => ∃ v0_ : Value,e = .returned (v0_) ∧ Kd.V Kd.bool 4 w' w.heap.size (fun k_ => (w.heap.size ≤ k_)) v0_ r ∧ Below w.heap.size w w':=by
 have HR0:=Aside0.mk hr0
 have HC0:=Aside0.mk hc0
 clear hr0 hc0
 have HB:=Aside0.mk (Below.refl w.heap.size w)
 have H : (sacristyref01_Of.l0 k l0 (([] : List Bool)) (wrap64 ((l0.length : Int) - 1))) = some r:=h
 clear h
 obtain ⟨y459,hy459⟩ : ∃ y_ : List Bool,y_ = (([] : List Bool)):=⟨_,rfl⟩
 replace H : (sacristyref01_Of.l0 k l0 y459 (wrap64 ((l0.length : Int) - 1))) = some r:=by first|(rw [hy459];with_reducible exact H)|(have H2_:=(Option.bind_some _ _).symm.trans H;rw [hy459];with_reducible exact H2_)|(have H2_:=(Option.bind_some _ _).symm.trans H;with_reducible exact H2_)|with_reducible exact H|(rw [hy459];exact H)|exact H
 have Ny459:=Aside0.mk hy459
 clear hy459
 have H':=Aside0.mk H
 clear H
 go_enter Try.func101,Try.ntmps101
 go_wp2_with (first|((with_reducible refine gate_dst (N:=6) rfl ?_);refine Kd.R_lit Kd.bool _ 4 ?hg (N:=6) ?hd (xs:=([] : List Bool)) (inner:=[]) (ok:=fun _ => True) (okp:=fun _ => True) ?hr ?hp (fun _ hk => hk) trivial (Below.refl _ _) (Nat.le_refl _) (by simp) ?_;(case hd => rfl);(case hg => rfl);(case hr => first|(go_simp;done)|(go_simp;rfl));(case hp => exact (Reps.none _ _));intro v460 w2 ho3 hb hg_ hnew_;clear hg_ hnew_;(first|rw [← Ny459.out] at ho3|(simp only [Int.reduceToNat] at ho3;rw [← Ny459.out] at ho3));have HO461:=Aside0.mk (Kd.R_lower (Kd.R_newM (M:=fun k_ => (w.heap.size ≤ k_)) ho3 (below_size (qS HB)) (fun k_ h_ => h_)) (below_size (qS HB)));replace HB:=qs HB hb;clear hb ho3))
 go_loopg [3,4] k (fun kq v3 v4 w' => ∃ (x3_1 : List Bool) (x4_1 : Int),v4 = .int .i64 x4_1 ∧ Aside0 (sacristyref01_Of.l0 kq l0 x3_1 x4_1 = some r) ∧ Aside0 (kq ≤ k) ∧ Aside0 (Kd.R Kd.bool 4 w' w.heap.size (fun k_ => (w.heap.size ≤ k_)) v3 x3_1) ∧ Aside0 (Below w.heap.size w w'))
 case atStart => exact ⟨(y459),(wrap64 ((l0.length : Int) - 1)),(by first|rfl|(simp;done)|(simp [*];done)),H',⟨Nat.le_refl _⟩,⟨qRm HO461⟩,⟨qS HB⟩⟩
 case round =>
  clear H'
  try clear c1
  try clear p2
  obtain ⟨x3_1,x4_1,rfl,HA,HK1,HO_3,HB⟩:=hrel
  cases gk with
  |zero => exact absurd HA.out (by simp [sacristyref01_Of.l0])
  |succ k1 =>
   have H:=HA.out
   clear HA
   simp only [sacristyref01_Of.l0] at H
   by_cases c4 : x4_1 ≥ 0
   ·rw [if_pos c4] at H
    have c4b0 : decide (0 ≤ x4_1) = true:=decide_eq_true c4
    clear c4
    have H':=Aside0.mk H
    clear H
    go_wp2
    go_loopg [3,5] k1 (fun kq v3 v5 w' => ∃ (x3_2 : List Bool) (x5_2 : Int),v5 = .int .i64 x5_2 ∧ Aside0 (sacristyref01_Of.l1 kq l0 x3_2 x4_1 x5_2 = some r) ∧ Aside0 (kq ≤ k1) ∧ Aside0 (Kd.R Kd.bool 4 w' w.heap.size (fun k_ => (w.heap.size ≤ k_)) v3 x3_2) ∧ Aside0 (Below w.heap.size w w'))
    case atStart => exact ⟨(x3_1),(0),(by first|rfl|(simp;done)|(simp [*];done)),H',⟨Nat.le_refl _⟩,⟨qRm HO_3⟩,⟨qS HB⟩⟩
    case round =>
     clear H'
     try clear c1
     try clear p2
     try clear c4
     try clear c4b0
     try clear p2
     obtain ⟨x3_2,x5_2,rfl,HA,HK2,HO_3,HB⟩:=hrel
     cases gk with
     |zero => exact absurd HA.out (by simp [sacristyref01_Of.l1])
     |succ k2 =>
      have H:=HA.out
      clear HA
      simp only [sacristyref01_Of.l1] at H
      by_cases c5 : x5_2 < 8
      ·rw [if_pos c5] at H
       have c5b0 : decide (x5_2 < 8) = true:=decide_eq_true c5
       clear c5
       by_cases c6 : 0 ≤ x4_1
       ·rw [if_pos c6] at H
        have c6b0 : decide (0 ≤ x4_1) = true:=decide_eq_true c6
        clear c6
        by_cases c7 : x4_1 < (l0.length : Int)
        ·rw [if_pos c7] at H
         have c7b0 : decide (x4_1 < (l0.length : Int)) = true:=decide_eq_true c7
         clear c7
         by_cases c8 : 0 ≤ x5_2
         ·rw [if_pos c8] at H
          have c8b0:=eq_true c8
          have c8b1 : decide (0 ≤ x5_2) = true:=decide_eq_true c8
          clear c8
          obtain ⟨ji9,hji9⟩ : ∃ j_ : Int,(shr .u8 (rd l0 x4_1) x5_2) = j_:=⟨_,rfl⟩
          (first|rw [hji9] at H|simp only [hji9] at H)
          have hji9_ : ((rd l0 x4_1) / 2 ^ min x5_2.toNat 8) = ji9:=hji9
          have hji9z : x5_2 ≤ 8 → ((rd l0 x4_1) / 2 ^ x5_2.toNat) = ji9:=shr_small hji9
          by_cases c10 : x3_2.length < 140737488355328
          ·rw [if_pos c10] at H
           have LMc10:=Aside0.mk c10
           clear c10
           obtain ⟨y466,hy466⟩ : ∃ y_ : List Bool,y_ = (x3_2 ++ [((Int.tmod (ji9) 2) == 1)]):=⟨_,rfl⟩
           replace H : (sacristyref01_Of.l1 k2 l0 y466 x4_1 (wrap64 (x5_2 + 1))) = some r:=by first|(rw [hy466];with_reducible exact H)|(have H2_:=(Option.bind_some _ _).symm.trans H;rw [hy466];with_reducible exact H2_)|(have H2_:=(Option.bind_some _ _).symm.trans H;with_reducible exact H2_)|with_reducible exact H|(rw [hy466];exact H)|exact H
           have Ny466:=Aside0.mk hy466
           clear hy466
           have H':=Aside0.mk H
           clear H
           have p465 : 0 ≤ (x4_1 : Int):=od
           have q465 : x4_1 < (l0.length : Int):=od
           obtain ⟨ad465,e465,hx465_0⟩:=Kd.at_int HR0.out x4_1 p465 q465
           cases e465
           replace hx465_0:=(HB.out.cell (World.block_lt_of_cell? w _ hx465_0)).trans hx465_0
           replace p465:=eq_true p465
           replace q465:=eq_true q465
           go_wp2_with (first|((with_reducible refine gate_builtin (b:=.append) (xs:=#[.tmp 18,.tmp 27]) rfl ?_);at_builtin;refine Kd.R_append Kd.bool (w0:=w) w.heap.size rfl (.tmp 18) (.tmp 27) 42 4 (.bool false) 1 rfl Try.underlying42 info4 rfl (by decide) (by omega) u3 x3_2 ((Int.tmod (ji9) 2) == 1) [.bool ((Int.tmod (ji9) 2) == 1)] (fun k_ => (w.heap.size ≤ k_)) (fun _ => False) rfl rfl ?aP (fun _ hk => hk.elim) ?aF ?aO ?aB ?aS ?aL ?_;(case aP => exact rfl);(case aB => exact (qS HB));(case aF => exact (fun k_ hk => (Nat.le_trans (below_size (qS HB)) hk)));(case aO => exact (qRm HO_3));(case aS => exact (below_size (qS HB)));(case aL => have:=LMc10.out;omega);intro v467 w11 ho hb hg hat;rw [← Ny466.out] at ho;replace HB:=Aside0.mk (hb);have HO468:=Aside0.mk (ho);(try clear HO_3);clear ho hb hg hat))
           go_roundg k2
           case measure => have:=HK1.out;have:=HK2.out;omega
           case rel => exact ⟨(y466),(wrap64 (x5_2 + 1)),(by first|rfl|(simp;done)|(simp [*];done)),H',⟨by have:=HK1.out;have:=HK2.out;omega⟩,⟨qRm HO468⟩,⟨qS HB⟩⟩
          ·rw [if_neg c10] at H
           exact absurd H (by simp)
         ·rw [if_neg c8] at H
          exact absurd H (by simp)
        ·rw [if_neg c7] at H
         exact absurd H (by simp)
       ·rw [if_neg c6] at H
        exact absurd H (by simp)
      ·rw [if_neg c5] at H
       have c5b0 : decide (x5_2 < 8) = false:=decide_eq_false c5
       clear c5
       have H':=Aside0.mk H
       clear H
       go_wp2
       go_roundg k2
       case measure => have:=HK1.out;have:=HK2.out;omega
       case rel => exact ⟨(x3_2),(wrap64 (x4_1 - 1)),(by first|rfl|(simp;done)|(simp [*];done)),H',⟨by have:=HK1.out;have:=HK2.out;omega⟩,⟨qRm HO_3⟩,⟨qS HB⟩⟩
   ·rw [if_neg c4] at H
    have c4b0 : decide (0 ≤ x4_1) = false:=decide_eq_false c4
    clear c4
    obtain ⟨t462,A12,H⟩:=qH H
    obtain rfl:=Option.some.inj H
    obtain ⟨Ao13,co13,eo13⟩:=Kd.R_slice HO_3.out
    subst eo13
    go_wp2_with (first|((with_reducible refine gate_callee (f:=111) rfl ?_);refine gL (some 30) Try.func111 #[.slice Ao13 x3_1.length co13] ?_;(with_reducible refine (sacristyref01_Trim.calls k1 (fun k_ => some k_ = (.slice Ao13 x3_1.length co13 : Value).ownBlock) _ _ x3_1 t462 _ ?side1 A12.out).mono ?_);(case side1 => exact Kd.R_V (Kd.R_tight rfl (HO_3.out)));rintro e w14 ⟨v463,rfl,ho0,hb⟩;refine ⟨_,rfl,?_⟩;have HO464:=Aside0.mk (Kd.V_lower (Kd.V_mono (ok':=fun k_ => (w.heap.size ≤ k_)) ho0 (fun k_ hk_ => Or.elim hk_ (fun hs_ => ((HO_3.out).1 k_ hs_.symm)) (fun hn_ => (Nat.le_trans (below_size (qS HB)) hn_)))) (below_size (qS HB)));replace HO_3:=qRb HO_3 hb;replace HB:=qs HB hb;clear hb ho0))
    (first|go_ret|(refine ⟨_,results_tmp rfl _ _ _,?_⟩))
    exact ⟨_,by first|rfl|(simp [errW_none,errW_some] <;> rfl)|(simp [*,errW_none,errW_some] <;> rfl),qVm HO464,qS HB⟩
end Go.Proofs.Yteejcpbngnojkaa.P
end
section
namespace Go.Proofs.Yteejcpbngnojkaa.P
open Go.RowKit Go.Proofs.YteejcpbngnojkaaW.PrintWords Go.Proofs.YteejcpbngnojkaaW.PrintLast Go.Proofs.YteejcpbngnojkaaW.PrintMore
attribute [local go_sem] max2_int min2_int max_two min_two max_three min_three max_four min_four
set_option linter.unusedVariables false
set_option linter.unusedSimpArgs false
def sacristylaw01_ref.f (k : Nat) (l0 : List Int) : Option (List Bool):=if 0 ≤ (mn (l0.length : Int) 48) then (if (mn (l0.length : Int) 48) ≤ (l0.length : Int) then ((sacristyref01_Of.f k (l0.take ((mn (l0.length : Int) 48) : Int).toNat)).bind fun t512 => (some t512)) else (none)) else (none)
theorem sacristylaw01_ref.mono : ∀ a0 k,LeO (sacristylaw01_ref.f k a0) (sacristylaw01_ref.f (k + 1) a0):=by
 intro a0 k
 unfold sacristylaw01_ref.f
 repeat' first
   |(with_reducible exact sacristyref01_Of.mono _ _)
   |(with_reducible exact LeO.refl _)
   |(with_reducible exact LeO.none _)
   |(with_reducible refine LeO.ite ?_ ?_)
   |(with_reducible refine LeO.bind ?_ (fun _ => ?_))
   |exact sacristyref01_Of.mono _ _
   |exact LeO.none _
   |refine LeO.ite ?_ ?_
   |refine LeO.bind ?_ (fun _ => ?_)
set_option maxHeartbeats 8000000 in
set_option maxRecDepth 100000 in
theorem sacristylaw01_ref.calls (k : Nat) (A0 : Option Addr) (c0 : Nat) (l0 : List Int) (r : List Bool) (w : World) (hr0 : Kd.C (Kd.int .u8) w A0 l0.length l0) (hc0 : l0.length ≤ c0) (h : sacristylaw01_ref.f k l0 = some r) :
  Calls Try.prog 41 #[.slice A0 l0.length c0] w fun e w' => ∃ v0_ : Value,e = .returned (v0_) ∧ Kd.V Kd.bool 4 w' w.heap.size (fun k_ => (w.heap.size ≤ k_)) v0_ r ∧ Below w.heap.size w w':=by
 have HR0:=Aside0.mk hr0
 have HC0:=Aside0.mk hc0
 clear hr0 hc0
 have HB:=Aside0.mk (Below.refl w.heap.size w)
 have H : (if 0 ≤ (mn (l0.length : Int) 48) then (if (mn (l0.length : Int) 48) ≤ (l0.length : Int) then ((sacristyref01_Of.f k (l0.take ((mn (l0.length : Int) 48) : Int).toNat)).bind fun t512 => (some t512)) else (none)) else (none)) = some r:=h
 clear h
 obtain ⟨ji2,hji2⟩ : ∃ j_ : Int,(mn (l0.length : Int) 48) = j_:=⟨_,rfl⟩
 (first|rw [hji2] at H|simp only [hji2] at H)
 (try (have hji2h : ji2 ≤ 48:=by (rw [← hji2];unfold mn;(repeat' split) <;> omega)))
 (try (have hji2g : ji2 ≤ 64:=by omega))
 (try (have hji2l : 0 ≤ ji2:=by (rw [← hji2];unfold mn;(repeat' split) <;> omega)))
 (try (have hji2m : 0 ≤ ji2:=by omega))
 have hji2_ : (if 48 < (l0.length : Int) then 48 else (l0.length : Int)) = ji2:=hji2
 by_cases c3 : 0 ≤ (ji2)
 ·rw [if_pos c3] at H
  have c3b0:=eq_true c3
  have c3b1 : decide (0 ≤ (ji2)) = true:=decide_eq_true c3
  clear c3
  by_cases c4 : (ji2) ≤ (l0.length : Int)
  ·rw [if_pos c4] at H
   have c4b0:=eq_true c4
   have c4b1 : decide ((ji2) ≤ (l0.length : Int)) = true:=decide_eq_true c4
   clear c4
   obtain ⟨t512,A5,H⟩:=qH H
   obtain rfl:=Option.some.inj H
   obtain ⟨i06,hi06,_,hsz6,_⟩:=info_parts info5
   obtain ⟨hcut6,hA6,hC6⟩:=print_take_of (P:=Try.prog) (Value.int .u8) 0 22 5 .i64 Try.underlying22 hi06 hsz6 A0 c0 l0 (ji2) (od) (od) HC0.out
   have HR511:=Aside0.mk (Kd.C_of_reads (h1:=fun _ => rfl) (hA6 _ (Kd.reads_of_C HR0.out)))
   have HC511:=Aside0.mk hC6
   clear hA6 hC6 hi06 hsz6
   go_enter Try.func41,Try.ntmps41
   go_wp2_with (first|((with_reducible refine gate_callee (f:=101) rfl ?_);refine goesL_ (some 8) rfl rfl Try.func101 (by kernel_rfl) rfl #[.slice A0 (l0.take ((ji2) : Int).toNat).length c0] rfl (by (try simp only [List.map_toArray,List.map_cons,List.map_nil]);first|done|(rw [show (l0.take ((ji2) : Int).toNat).length = (ji2).toNat from (by rw [List.length_take];have h_ : ((ji2) : Int) ≤ (l0.length : Int):=od;omega)] <;> rfl)|(simp only [hji2];rfl)|rfl|(simp only [List.length_drop,List.length_take];rfl)) ?_;(with_reducible refine (sacristyref01_Of.calls k _ _ (l0.take ((ji2) : Int).toNat) t512 _ ?side1 ?side2 A5.out).mono ?_);(case side1 => exact qC HR511);(case side2 => exact HC511.out);rintro e w7 ⟨v513,rfl,ho0,hb⟩;refine ⟨_,rfl,?_⟩;have HO514:=Aside0.mk (Kd.V_lower (Kd.V_mono (ok':=fun k_ => (w.heap.size ≤ k_)) ho0 (fun k_ hk_ => (Nat.le_trans (below_size (qS HB)) hk_))) (below_size (qS HB)));replace HB:=qs HB hb;clear hb ho0))
   (first|go_ret|(refine ⟨_,results_tmp rfl _ _ _,?_⟩))
   exact ⟨_,by first|rfl|(simp [errW_none,errW_some] <;> rfl)|(simp only [← hji2];first|rfl|(simp [errW_none,errW_some] <;> rfl))|(simp [*,errW_none,errW_some] <;> rfl),qVm HO514,qS HB⟩
  ·rw [if_neg c4] at H
   exact absurd H (by simp)
 ·rw [if_neg c3] at H
  exact absurd H (by simp)
end Go.Proofs.Yteejcpbngnojkaa.P
end
section
namespace Go.Proofs.Yteejcpbngnojkaa.P
open Go.RowKit Go.Proofs.YteejcpbngnojkaaW.PrintWords Go.Proofs.YteejcpbngnojkaaW.PrintLast Go.Proofs.YteejcpbngnojkaaW.PrintMore
attribute [local go_sem] max2_int min2_int max_two min_two max_three min_three max_four min_four
set_option linter.unusedVariables false
set_option linter.unusedSimpArgs false
def nat_Nat_Gcd.l0 : Nat → List Int → List Int → Option (List Int)
 |0,_,_ => none
 |k + 1,x719000,x720000 => (nat_Nat_Zero.f x720000).bind fun t721 => (if t721 = true then (some x719000) else ((nat_Nat_Div.f k x719000 x720000).bind fun bt722 => (nat_Nat_Gcd.l0 k x720000 bt722.2.1)))
def nat_Nat_Gcd.f (k : Nat) (l0_0 : List Int) (l1_0 : List Int) : Option (List Int):=nat_Nat_Gcd.l0 k l0_0 l1_0
theorem nat_Nat_Gcd.mono_l : ∀ k,(∀ y0 y1,LeO (nat_Nat_Gcd.l0 k y0 y1) (nat_Nat_Gcd.l0 (k + 1) y0 y1))
 |0 => fun _ _ r h => by simp [nat_Nat_Gcd.l0] at h
 |k + 1 => by
  have ih0:=nat_Nat_Gcd.mono_l k
  ·intro y0 y1
   unfold nat_Nat_Gcd.l0
   repeat' first
   |(with_reducible exact ih0 _ _)
   |(with_reducible exact nat_Nat_Div.mono _ _ _)
   |(with_reducible exact LeO.refl _)
   |(with_reducible exact LeO.none _)
   |(with_reducible refine LeO.ite ?_ ?_)
   |(with_reducible refine LeO.bind ?_ (fun _ => ?_))
   |exact ih0 _ _
   |exact nat_Nat_Div.mono _ _ _
   |exact LeO.none _
   |refine LeO.ite ?_ ?_
   |refine LeO.bind ?_ (fun _ => ?_)
theorem nat_Nat_Gcd.mono : ∀ a0 a1 k,LeO (nat_Nat_Gcd.f k a0 a1) (nat_Nat_Gcd.f (k + 1) a0 a1):=by
 intro a0 a1 k
 have ih0:=nat_Nat_Gcd.mono_l k
 unfold nat_Nat_Gcd.f
 repeat' first
   |(with_reducible exact ih0 _ _)
   |(with_reducible exact nat_Nat_Div.mono _ _ _)
   |(with_reducible exact LeO.refl _)
   |(with_reducible exact LeO.none _)
   |(with_reducible refine LeO.ite ?_ ?_)
   |(with_reducible refine LeO.bind ?_ (fun _ => ?_))
   |exact ih0 _ _
   |exact nat_Nat_Div.mono _ _ _
   |exact LeO.none _
   |refine LeO.ite ?_ ?_
   |refine LeO.bind ?_ (fun _ => ?_)
set_option maxHeartbeats 8000000 in
set_option maxRecDepth 100000 in
theorem nat_Nat_Gcd.calls (k : Nat) (P0_0_ : Nat → Prop) (A0_0 : Option Addr) (c0_0 : Nat) (l0_0 : List Int) (P1_0_ : Nat → Prop) (A1_0 : Option Addr) (c1_0 : Nat) (l1_0 : List Int) (r : List Int) (w : World) (hs0_0 : Kd.V (Kd.int .u32) 23 w w.heap.size (fun k_ => P0_0_ k_) (.slice A0_0 l0_0.length c0_0) l0_0) (hs1_0 : Kd.V (Kd.int .u32) 23 w w.heap.size (fun k_ => P1_0_ k_) (.slice A1_0 l1_0.length c1_0) l1_0) (h : nat_Nat_Gcd.f k l0_0 l1_0 = some r) :
  Calls Try.prog 51 #[.agg #[.slice A0_0 l0_0.length c0_0],.agg #[.slice A1_0 l1_0.length c1_0]] w fun e w' => ∃ v0_ : Value,e = .returned (.agg #[v0_]) ∧ Kd.V (Kd.int .u32) 23 w' w.heap.size (fun k_ => ((P0_0_ k_ ∨ P1_0_ k_) ∨ w.heap.size ≤ k_)) v0_ r ∧ Below w.heap.size w w':=by
 have hu38:=Try.underlying38
 have HO0_0:=Aside0.mk (show Kd.V (Kd.int .u32) 23 w w.heap.size (fun k_ => ((P0_0_ k_ ∨ P1_0_ k_) ∨ w.heap.size ≤ k_)) (.slice A0_0 l0_0.length c0_0) l0_0 from Kd.V_mono hs0_0 (fun k_ hk => .inl (.inl hk)))
 have HO1_0:=Aside0.mk (show Kd.V (Kd.int .u32) 23 w w.heap.size (fun k_ => ((P0_0_ k_ ∨ P1_0_ k_) ∨ w.heap.size ≤ k_)) (.slice A1_0 l1_0.length c1_0) l1_0 from Kd.V_mono hs1_0 (fun k_ hk => .inl (.inr hk)))
 have HB:=Aside0.mk (Below.refl w.heap.size w)
 have H : (nat_Nat_Gcd.l0 k l0_0 l1_0) = some r:=h
 clear h
 have H':=Aside0.mk H
 clear H
 go_enter Try.func51,Try.ntmps51
 go_wp2_with (first|((with_reducible refine gate_dst (N:=2) rfl ?_);refine qX #[.slice A0_0 l0_0.length c0_0] 38 ?_;intro gb718 hg w3 hbox hb;replace HO0_0:=qVe HO0_0 hb hg;replace HO1_0:=qVe HO1_0 hb hg;have BK718:=Aside0.mk hbox;have GE718:=qh hg HB;replace HB:=qs HB hb;clear hb hbox hg)|((with_reducible refine gate_dst (N:=3) rfl ?_);refine qX #[.slice A1_0 l1_0.length c1_0] 38 ?_;intro gb719 hg w4 hbox hb;replace HO0_0:=qVe HO0_0 hb hg;replace HO1_0:=qVe HO1_0 hb hg;have BK719:=Aside0.mk hbox;have GE719:=qh hg HB;replace HB:=qs HB hb;have NB718_719:=ql hg BK718;have NB719_718:=qg hg BK718;replace BK718:=qb BK718 hb;clear hb hbox hg)|((with_reducible refine gate_dst (N:=4) rfl ?_);refine qX #[.slice none 0 0] 38 ?_;intro gb720 hg w5 hbox hb;replace HO0_0:=qVe HO0_0 hb hg;replace HO1_0:=qVe HO1_0 hb hg;have BK720:=Aside0.mk hbox;have GE720:=qh hg HB;replace HB:=qs HB hb;have NB718_720:=ql hg BK718;have NB720_718:=qg hg BK718;replace BK718:=qb BK718 hb;have NB719_720:=ql hg BK719;have NB720_719:=qg hg BK719;replace BK719:=qb BK719 hb;clear hb hbox hg))
 simp only [Act.put,List.setIfInBounds_toArray,List.set_cons_zero,List.set_cons_succ]
 go_loopg [] k (fun kq w' => ∃ (x719000_1 : List Int) (x720000_1 : List Int) (u719000 : Value) (u720000 : Value),Aside0 (nat_Nat_Gcd.l0 kq x719000_1 x720000_1 = some r) ∧ Aside0 (kq ≤ k) ∧ Aside0 (Kd.V (Kd.int .u32) 23 w' w.heap.size (fun k_ => ((P0_0_ k_ ∨ P1_0_ k_) ∨ w.heap.size ≤ k_) ∧ k_ ≠ gb718 ∧ k_ ≠ gb719 ∧ k_ ≠ gb720) u719000 x719000_1) ∧ Aside0 (Kd.V (Kd.int .u32) 23 w' w.heap.size (fun k_ => ((P0_0_ k_ ∨ P1_0_ k_) ∨ w.heap.size ≤ k_) ∧ k_ ≠ gb718 ∧ k_ ≠ gb719 ∧ k_ ≠ gb720) u720000 x720000_1) ∧ Aside0 (w'.heap[gb718]? = some (.cells #[u719000] 38 (0,0))) ∧ Aside0 (w'.heap[gb719]? = some (.cells #[u720000] 38 (0,0))) ∧ Aside0 (w'.heap[gb720]? = some (.cells #[(.slice none 0 0)] 38 (0,0))) ∧ Aside0 (Below w.heap.size w w'))
 case atStart => exact ⟨(l0_0),(l1_0),(.slice A0_0 l0_0.length c0_0),(.slice A1_0 l1_0.length c1_0),H',⟨Nat.le_refl _⟩,⟨qVm HO0_0⟩,⟨qVm HO1_0⟩,⟨qB BK718.out⟩,⟨qB BK719.out⟩,⟨qB BK720.out⟩,⟨qS HB⟩⟩
 case round =>
  clear H'
  try clear c1
  try clear p2
  try clear c5
  obtain ⟨x719000_1,x720000_1,u719000,u720000,HA,HK1,HO_719000,HO_720000,BK718,BK719,BK720,HB⟩:=hrel
  cases gk with
  |zero => exact absurd HA.out (by simp [nat_Nat_Gcd.l0])
  |succ k1 =>
   have H:=HA.out
   clear HA
   simp only [nat_Nat_Gcd.l0] at H
   obtain ⟨t721,A6,H⟩:=qH H
   by_cases c7 : t721 = true
   ·subst c7
    rw [if_pos rfl] at H
    obtain rfl:=Option.some.inj H
    have hnb8:=NB719_718.out
    have hnc8:=NB718_719.out
    have hnb9:=NB719_720.out
    have hnc9:=NB720_719.out
    have hcz10_0 : wr.cell? ⟨gb719,0,none⟩ = some (u720000):=bc BK719
    have hfz10_0:=bz BK719
    obtain ⟨Ao11,co11,eo11⟩:=Kd.V_slice HO_720000.out
    subst eo11
    go_wp2_with (first|((with_reducible refine gate_callee (f:=44) rfl ?_);refine gL (some 9) Try.func44 #[.agg #[.slice Ao11 x720000_1.length co11]] ?_;(with_reducible refine (nat_Nat_Zero.calls _ _ x720000_1 true _ ?side1 ?side2 A6.out).mono ?_);(case side1 => exact qCV HO_720000);(case side2 => exact qL HO_720000);rintro e w12 ⟨rfl,hb⟩;refine ⟨_,rfl,?_⟩;replace HO_719000:=qVb HO_719000 hb;replace HO_720000:=qVb HO_720000 hb;replace BK718:=qb BK718 hb;replace BK719:=qb BK719 hb;replace BK720:=qb BK720 hb;replace HB:=qs HB hb;clear hb;have hnb13:=NB718_720.out;have hnc13:=NB720_718.out;have hcz14_0:=bc BK718;have hfz14_0:=bz BK718;obtain ⟨Ao15,co15,eo15⟩:=Kd.V_slice HO_719000.out;subst eo15;have hcz16_0:=bc BK720;have hfz16_0:=bz BK720))
    refine bodyPost_ret (results_cell_row rfl _ _ gb720 38 #[.slice Ao15 x719000_1.length co15] (0,0) _ rfl (by (with_reducible repeat (first|refine blk_drewN ?_ _|refine blk_drew ?_|refine blk_alloc ?_ _));refine blk_put (cs:=#[.slice none 0 0]) ?_ 0 _ rfl;(with_reducible repeat (first|refine blk_drewN ?_ _|refine blk_drew ?_|refine blk_alloc ?_ _));exact BK720.out) Try.underlying38 rfl (by kernel_rfl)) rfl ?_
    exact ⟨_,by first|rfl|(simp [errW_none,errW_some] <;> rfl)|(simp [*,errW_none,errW_some] <;> rfl),qVm HO_719000,qS HB⟩
   ·replace c7:=Bool.eq_false_iff.mpr c7
    subst c7
    rw [qFT] at H
    obtain ⟨⟨t722,t725,t728⟩,A17,H⟩:=qH H
    dsimp only at H
    have H':=Aside0.mk H
    clear H
    have hnb18:=NB719_718.out
    have hnc18:=NB718_719.out
    have hnb19:=NB719_720.out
    have hnc19:=NB720_719.out
    have hcz20_0 : wr.cell? ⟨gb719,0,none⟩ = some (u720000):=bc BK719
    have hfz20_0:=bz BK719
    obtain ⟨Ao21,co21,eo21⟩:=Kd.V_slice HO_720000.out
    subst eo21
    try go_wp2_with (first|((with_reducible refine gate_callee (f:=44) rfl ?_);refine gL (some 9) Try.func44 #[.agg #[.slice Ao21 x720000_1.length co21]] ?_;(with_reducible refine (nat_Nat_Zero.calls _ _ x720000_1 false _ ?side1 ?side2 A6.out).mono ?_);(case side1 => exact qCV HO_720000);(case side2 => exact qL HO_720000);rintro e w22 ⟨rfl,hb⟩;refine ⟨_,rfl,?_⟩;replace HO_719000:=qVb HO_719000 hb;replace HO_720000:=qVb HO_720000 hb;replace BK718:=qb BK718 hb;replace BK719:=qb BK719 hb;replace BK720:=qb BK720 hb;replace HB:=qs HB hb;clear hb;have hnb23:=NB718_720.out;have hnc23:=NB720_718.out;have hcz24_0:=bc BK718;have hfz24_0:=bz BK718;have hcz25_0:=bc BK719;have hfz25_0:=bz BK719;obtain ⟨Ao26,co26,eo26⟩:=Kd.V_slice HO_719000.out;subst eo26)|((with_reducible refine gate_callee (f:=53) rfl ?_);refine gL (some 14) Try.func53 #[.agg #[.slice Ao26 x719000_1.length co26],.agg #[.slice Ao21 x720000_1.length co21]] ?_;(with_reducible refine (nat_Nat_Div.calls k1 (fun k_ => (((P0_0_ k_ ∨ P1_0_ k_) ∨ w.heap.size ≤ k_) ∧ (k_ ≠ gb718 ∧ (k_ ≠ gb719 ∧ k_ ≠ gb720)))) _ _ x719000_1 _ _ x720000_1 t722 t725 t728 _ ?side1 ?side2 ?side3 A17.out).mono ?_);(case side1 => first|exact HO_719000.out|exact qVm HO_719000);(case side2 => exact qCV HO_720000);(case side3 => exact qL HO_720000);rintro e w27 ⟨v723,v726,rfl,ho0,ho1,hb⟩;refine ⟨_,rfl,?_⟩;replace HO_719000:=qVb HO_719000 hb;replace HO_720000:=qVb HO_720000 hb;have HO724:=Aside0.mk (Kd.V_lower (Kd.V_mono (ok':=fun k_ => ((P0_0_ k_ ∨ P1_0_ k_) ∨ w.heap.size ≤ k_) ∧ k_ ≠ gb718 ∧ k_ ≠ gb719 ∧ k_ ≠ gb720) ho0 (fun k_ hk_ => ⟨Or.elim hk_ (fun hs_ => hs_.1) (fun hn_ => (.inr (Nat.le_trans (below_size (qS HB)) hn_))),Or.elim hk_ (fun hs_ => hs_.2.1) (fun hn_ => (Kd.freshB (qB BK718.out) k_ hn_)),Or.elim hk_ (fun hs_ => hs_.2.2.1) (fun hn_ => (Kd.freshB (qB BK719.out) k_ hn_)),Or.elim hk_ (fun hs_ => hs_.2.2.2) (fun hn_ => (Kd.freshB (qB BK720.out) k_ hn_))⟩)) (below_size (qS HB)));have HO727:=Aside0.mk (Kd.V_lower (Kd.V_mono (ok':=fun k_ => ((P0_0_ k_ ∨ P1_0_ k_) ∨ w.heap.size ≤ k_) ∧ k_ ≠ gb718 ∧ k_ ≠ gb719 ∧ k_ ≠ gb720) ho1 (fun k_ hk_ => ⟨Or.elim hk_ (fun hs_ => hs_.1) (fun hn_ => (.inr (Nat.le_trans (below_size (qS HB)) hn_))),Or.elim hk_ (fun hs_ => hs_.2.1) (fun hn_ => (Kd.freshB (qB BK718.out) k_ hn_)),Or.elim hk_ (fun hs_ => hs_.2.2.1) (fun hn_ => (Kd.freshB (qB BK719.out) k_ hn_)),Or.elim hk_ (fun hs_ => hs_.2.2.2) (fun hn_ => (Kd.freshB (qB BK720.out) k_ hn_))⟩)) (below_size (qS HB)));replace BK718:=qb BK718 hb;replace BK719:=qb BK719 hb;replace BK720:=qb BK720 hb;replace HB:=qs HB hb;clear hb ho0 ho1)|((with_reducible refine gate_dst (N:=5) rfl ?_);refine qX #[.slice none 0 0] 38 ?_;intro gb729 hg w28 hbox hb;replace HO_719000:=qVe HO_719000 hb hg;replace HO_720000:=qVe HO_720000 hb hg;replace HO724:=qVe HO724 hb hg;replace HO727:=qVe HO727 hb hg;have BK729:=Aside0.mk hbox;have GE729:=qh hg HB;replace HB:=qs HB hb;have NB718_729:=ql hg BK718;have NB729_718:=qg hg BK718;replace BK718:=qb BK718 hb;have NB719_729:=ql hg BK719;have NB729_719:=qg hg BK719;replace BK719:=qb BK719 hb;have NB720_729:=ql hg BK720;have NB729_720:=qg hg BK720;replace BK720:=qb BK720 hb;clear hb hbox hg)|((with_reducible refine gate_dst (N:=6) rfl ?_);refine qX #[.slice none 0 0] 38 ?_;intro gb730 hg w29 hbox hb;replace HO_719000:=qVe HO_719000 hb hg;replace HO_720000:=qVe HO_720000 hb hg;replace HO724:=qVe HO724 hb hg;replace HO727:=qVe HO727 hb hg;have BK730:=Aside0.mk hbox;have GE730:=qh hg HB;replace HB:=qs HB hb;have NB718_730:=ql hg BK718;have NB730_718:=qg hg BK718;replace BK718:=qb BK718 hb;have NB719_730:=ql hg BK719;have NB730_719:=qg hg BK719;replace BK719:=qb BK719 hb;have NB720_730:=ql hg BK720;have NB730_720:=qg hg BK720;replace BK720:=qb BK720 hb;have NB729_730:=ql hg BK729;have NB730_729:=qg hg BK729;replace BK729:=qb BK729 hb;clear hb hbox hg;obtain ⟨Ao30,co30,eo30⟩:=Kd.V_slice HO724.out;subst eo30;have hnb31:=NB729_718.out;have hnc31:=NB718_729.out;have hnb32:=NB729_719.out;have hnc32:=NB719_729.out;have hnb33:=NB729_720.out;have hnc33:=NB720_729.out;have hnb34:=NB729_730.out;have hnc34:=NB730_729.out;have hcz35_0:=bc BK729;have hfz35_0:=bz BK729;obtain ⟨Ao36,co36,eo36⟩:=Kd.V_slice HO727.out;subst eo36;have hnb37:=NB730_718.out;have hnc37:=NB718_730.out;have hnb38:=NB730_719.out;have hnc38:=NB719_730.out;have hnb39:=NB730_720.out;have hnc39:=NB720_730.out;have hcz40_0:=bc BK730;have hfz40_0:=bz BK730))
    generalize hw : ((w29.setCell ⟨gb729,0,none⟩ (.slice Ao30 t722.length co30)).setCell ⟨gb730,0,none⟩ (.slice Ao36 t725.length co36)) = w41
    replace hw:=hw.symm
    replace HO_719000:=qVh hw HO_719000
    replace HO_720000:=qVh hw HO_720000
    replace HO724:=qVh hw HO724
    replace HO727:=qVh hw HO727
    replace BK718:=qBh hw BK718
    replace BK719:=qBh hw BK719
    replace BK720:=qBh hw BK720
    replace BK729:=qBp hw BK729
    replace BK730:=qBp hw BK730
    replace HB:=qSh hw HB
    clear hw
    replace HO_719000:=qVw HO_719000
    replace HO_720000:=qVw HO_720000
    replace HO724:=qVw HO724
    replace HO727:=qVw HO727
    replace BK718:=qbd BK718
    replace BK719:=qbd BK719
    replace BK720:=qbd BK720
    replace BK729:=qbd BK729
    replace BK730:=qbd BK730
    replace HB:=qsd HB
    refine start_ (n:=4) (S:=fun w' => w'.cell? ⟨gb719,0,none⟩ = some (.slice Ao21 x720000_1.length co21) ∧ w'.cell? ⟨gb730,0,none⟩ = some (.slice Ao36 t725.length co36)) (ds:=[3]) #[false,false,false,false] (by kernel_rfl) rfl rfl ⟨bc BK719,bc BK730⟩ (fun hHeld => ?_)
    generalize w41.drew = w42 at HO_719000 HO_720000 HO724 HO727 BK718 BK719 BK720 BK729 BK730 HB hHeld ⊢
    refine take_ (i:=0) (N:=some 18) (v:=?_) (a':=?_) #[true,false,false,false] rfl rfl (by kernel_rfl) (fun _ _ _ h => h) (Or.inl ⟨by rfl,?_⟩) hHeld ?_ ?_
    rotate_left
    ·rintro w' ⟨s0,s1⟩
     go_simp
     with_reducible rfl
    rotate_left
    ·simp only [Act.put,List.setIfInBounds_toArray,List.set_cons_zero,List.set_cons_succ,i64_w,i32_w]
     rfl
    refine take_ (i:=1) (N:=some 19) (v:=?_) (a':=?_) #[true,true,false,false] rfl rfl (by kernel_rfl) (fun _ _ _ h => h) (Or.inl ⟨by rfl,?_⟩) hHeld ?_ ?_
    rotate_left
    ·rintro w' ⟨s0,s1⟩
     go_simp
     with_reducible rfl
    rotate_left
    ·simp only [Act.put,List.setIfInBounds_toArray,List.set_cons_zero,List.set_cons_succ,i64_w,i32_w]
     rfl
    refine one_ (i:=2) (N:=none) #[true,true,true,false] rfl rfl (by kernel_rfl) (by decide) (fun K hK => ?_)
    have hs43 : w42.cell? ⟨gb718,0,none⟩ = some (.slice Ao26 x719000_1.length co26):=bc BK718
    have hfs43:=blk_frozen BK718.out 0
    have hns43_1:=NB719_718.out
    have hns43_2:=NB720_718.out
    have hns43_3:=NB729_718.out
    have hns43_4:=NB730_718.out
    have hms43_1:=NB718_719.out
    have hms43_2:=NB718_720.out
    have hms43_3:=NB718_729.out
    have hms43_4:=NB718_730.out
    refine skip_ (w1:=?_) (by rfl) rfl ?_ ?_
    rotate_left
    ·go_simp
     rfl
    refine hK.out _ _ ⟨((cell_far (p:=⟨gb718,_,none⟩) NB719_718.out _).trans (hHeld.1)),((cell_far (p:=⟨gb718,_,none⟩) NB730_718.out _).trans (hHeld.2))⟩ (fun hHeld => ?_)
    clear hK K
    refine last_ (i:=3) (N:=none) #[true,true,true,true] rfl rfl (by kernel_rfl) (by decide) (fun K hK => ?_)
    have hs44 : w42.cell? ⟨gb719,0,none⟩ = some (.slice Ao21 x720000_1.length co21):=bc BK719
    have hfs44:=blk_frozen BK719.out 0
    have hns44_0:=NB718_719.out
    have hns44_2:=NB720_719.out
    have hns44_3:=NB729_719.out
    have hns44_4:=NB730_719.out
    have hms44_0:=NB719_718.out
    have hms44_2:=NB719_720.out
    have hms44_3:=NB719_729.out
    have hms44_4:=NB719_730.out
    refine skip_ (w1:=?_) (by rfl) rfl ?_ ?_
    rotate_left
    ·go_simp
     rfl
    refine hK.out _ _ ?_
    clear hK K
    refine done_ (by kernel_rfl) ?_
    try go_wp2
    go_roundg k1
    case measure => have:=HK1.out;omega
    case rel => exact ⟨(x720000_1),(t725),(.slice Ao21 x720000_1.length co21),(.slice Ao36 t725.length co36),H',⟨by have:=HK1.out;omega⟩,⟨qVm HO_720000⟩,⟨qVm HO727⟩,⟨by (with_reducible repeat (first|refine blk_drewN ?_ _|refine blk_drew ?_|refine blk_alloc ?_ _));refine blk_far ?_ NB718_719.out _;(with_reducible repeat (first|refine blk_drewN ?_ _|refine blk_drew ?_|refine blk_alloc ?_ _));refine blk_put (cs:=#[.slice Ao26 x719000_1.length co26]) ?_ 0 _ rfl;(with_reducible repeat (first|refine blk_drewN ?_ _|refine blk_drew ?_|refine blk_alloc ?_ _));exact BK718.out⟩,⟨by (with_reducible repeat (first|refine blk_drewN ?_ _|refine blk_drew ?_|refine blk_alloc ?_ _));refine blk_put (cs:=#[.slice Ao21 x720000_1.length co21]) ?_ 0 _ rfl;(with_reducible repeat (first|refine blk_drewN ?_ _|refine blk_drew ?_|refine blk_alloc ?_ _));refine blk_far ?_ NB719_718.out _;(with_reducible repeat (first|refine blk_drewN ?_ _|refine blk_drew ?_|refine blk_alloc ?_ _));exact BK719.out⟩,⟨by (with_reducible repeat (first|refine blk_drewN ?_ _|refine blk_drew ?_|refine blk_alloc ?_ _));refine blk_far ?_ NB720_719.out _;(with_reducible repeat (first|refine blk_drewN ?_ _|refine blk_drew ?_|refine blk_alloc ?_ _));refine blk_far ?_ NB720_718.out _;(with_reducible repeat (first|refine blk_drewN ?_ _|refine blk_drew ?_|refine blk_alloc ?_ _));exact BK720.out⟩,⟨qS HB⟩⟩
end Go.Proofs.Yteejcpbngnojkaa.P
end
section
namespace Go.Proofs.Yteejcpbngnojkaa.P
open Go.RowKit Go.Proofs.YteejcpbngnojkaaW.PrintWords Go.Proofs.YteejcpbngnojkaaW.PrintLast Go.Proofs.YteejcpbngnojkaaW.PrintMore
attribute [local go_sem] max2_int min2_int max_two min_two max_three min_three max_four min_four
set_option linter.unusedVariables false
set_option linter.unusedSimpArgs false
def sacristyref01_Cmp.l0 : Nat → List Bool → List Bool → Int → Option (Int)
 |0,_,_,_ => none
 |k + 1,x0,x1,x5 => if x5 ≥ 0 then (if 0 ≤ x5 then (if x5 < (x0.length : Int) then (if x5 < (x1.length : Int) then (if ((rdOf false x0 x5) != (rdOf false x1 x5)) = true then (if rdOf false x1 x5 = true then (some (-1)) else (some 1)) else (sacristyref01_Cmp.l0 k x0 x1 (wrap64 (x5 - 1)))) else (none)) else (none)) else (none)) else (some 0)
def sacristyref01_Cmp.f (k : Nat) (l0 : List Bool) (l1 : List Bool) : Option (Int):=if (l0.length : Int) < (l1.length : Int) then (some (-1)) else (if (l0.length : Int) > (l1.length : Int) then (some 1) else (sacristyref01_Cmp.l0 k l0 l1 (wrap64 ((l0.length : Int) - 1))))
theorem sacristyref01_Cmp.mono_l : ∀ k,(∀ y0 y1 y2,LeO (sacristyref01_Cmp.l0 k y0 y1 y2) (sacristyref01_Cmp.l0 (k + 1) y0 y1 y2))
 |0 => fun _ _ _ r h => by simp [sacristyref01_Cmp.l0] at h
 |k + 1 => by
  have ih0:=sacristyref01_Cmp.mono_l k
  ·intro y0 y1 y2
   unfold sacristyref01_Cmp.l0
   repeat' first
   |(with_reducible exact ih0 _ _ _)
   |(with_reducible exact LeO.refl _)
   |(with_reducible exact LeO.none _)
   |(with_reducible refine LeO.ite ?_ ?_)
   |(with_reducible refine LeO.bind ?_ (fun _ => ?_))
   |exact ih0 _ _ _
   |exact LeO.none _
   |refine LeO.ite ?_ ?_
   |refine LeO.bind ?_ (fun _ => ?_)
theorem sacristyref01_Cmp.mono : ∀ a0 a1 k,LeO (sacristyref01_Cmp.f k a0 a1) (sacristyref01_Cmp.f (k + 1) a0 a1):=by
 intro a0 a1 k
 have ih0:=sacristyref01_Cmp.mono_l k
 unfold sacristyref01_Cmp.f
 repeat' first
   |(with_reducible exact ih0 _ _ _)
   |(with_reducible exact LeO.refl _)
   |(with_reducible exact LeO.none _)
   |(with_reducible refine LeO.ite ?_ ?_)
   |(with_reducible refine LeO.bind ?_ (fun _ => ?_))
   |exact ih0 _ _ _
   |exact LeO.none _
   |refine LeO.ite ?_ ?_
   |refine LeO.bind ?_ (fun _ => ?_)
set_option maxHeartbeats 8000000 in
set_option maxRecDepth 100000 in
theorem sacristyref01_Cmp.calls (k : Nat) (A0 : Option Addr) (c0 : Nat) (l0 : List Bool) (A1 : Option Addr) (c1 : Nat) (l1 : List Bool) (r : Int) (w : World) (hr0 : Kd.C Kd.bool w A0 l0.length l0) (hc0 : l0.length ≤ c0) (hr1 : Kd.C Kd.bool w A1 l1.length l1) (hc1 : l1.length ≤ c1) (h : sacristyref01_Cmp.f k l0 l1 = some r) :
  Calls Try.prog 46 #[.slice A0 l0.length c0,.slice A1 l1.length c1] w fun e w' => e = .returned (.int .i64 r) ∧ Drawn0 w w':=by
 have HR0:=Aside0.mk hr0
 have HC0:=Aside0.mk hc0
 clear hr0 hc0
 have HR1:=Aside0.mk hr1
 have HC1:=Aside0.mk hc1
 clear hr1 hc1
 have H : (if (l0.length : Int) < (l1.length : Int) then (some (-1)) else (if (l0.length : Int) > (l1.length : Int) then (some 1) else (sacristyref01_Cmp.l0 k l0 l1 (wrap64 ((l0.length : Int) - 1))))) = some r:=h
 clear h
 by_cases c3 : (l0.length : Int) < (l1.length : Int)
 ·rw [if_pos c3] at H
  have c3b0 : decide ((l0.length : Int) < (l1.length : Int)) = true:=decide_eq_true c3
  have c3b1 : decide (l0.length < l1.length) = true:=decide_eq_true (Int.ofNat_lt.mp c3)
  clear c3
  obtain rfl:=Option.some.inj H
  go_enter Try.func46,Try.ntmps46
  go_wp2
  repeat (go_quiet (fail);try go_wp2)
  (first|go_ret|(refine ⟨_,results_tmp rfl _ _ _,?_⟩))
  exact ⟨by first|rfl|(simp;done)|(simp [*];done),by repeat (first|exact Drawn0.refl _|apply Drawn0.step)⟩
 ·rw [if_neg c3] at H
  have c3b0 : decide ((l0.length : Int) < (l1.length : Int)) = false:=decide_eq_false c3
  have c3b1 : decide (l0.length < l1.length) = false:=decide_eq_false (fun h => c3 (Int.ofNat_lt.mpr h))
  clear c3
  by_cases c4 : (l0.length : Int) > (l1.length : Int)
  ·rw [if_pos c4] at H
   have c4b0 : decide ((l1.length : Int) < (l0.length : Int)) = true:=decide_eq_true c4
   have c4b1 : decide (l1.length < l0.length) = true:=decide_eq_true (Int.ofNat_lt.mp c4)
   clear c4
   obtain rfl:=Option.some.inj H
   go_enter Try.func46,Try.ntmps46
   go_wp2
   repeat (go_quiet (fail);try go_wp2)
   (first|go_ret|(refine ⟨_,results_tmp rfl _ _ _,?_⟩))
   exact ⟨by first|rfl|(simp;done)|(simp [*];done),by repeat (first|exact Drawn0.refl _|apply Drawn0.step)⟩
  ·rw [if_neg c4] at H
   have c4b0 : decide ((l1.length : Int) < (l0.length : Int)) = false:=decide_eq_false c4
   have c4b1 : decide (l1.length < l0.length) = false:=decide_eq_false (fun h => c4 (Int.ofNat_lt.mpr h))
   clear c4
   have H':=Aside0.mk H
   clear H
   go_enter Try.func46,Try.ntmps46
   go_wp2
   repeat (go_quiet (fail);try go_wp2)
   go_loopg [5] k (fun kq v5 w' => ∃ (x5_1 : Int),v5 = .int .i64 x5_1 ∧ Aside0 (sacristyref01_Cmp.l0 kq l0 l1 x5_1 = some r) ∧ Aside0 (kq ≤ k) ∧ Drawn0 w w')
   case atStart => exact ⟨(wrap64 ((l0.length : Int) - 1)),(by first|rfl|(simp;done)|(simp [*];done)),H',⟨Nat.le_refl _⟩,by repeat (first|exact Drawn0.refl _|apply Drawn0.step)⟩
   case round =>
    clear H'
    try clear c1
    try clear p2
    try clear c3
    try clear c3b0
    try clear c3b1
    try clear c4
    try clear c4b0
    try clear c4b1
    obtain ⟨x5_1,rfl,HA,HK1,⟨m1,rfl⟩⟩:=hrel
    cases gk with
    |zero => exact absurd HA.out (by simp [sacristyref01_Cmp.l0])
    |succ k1 =>
     have H:=HA.out
     clear HA
     simp only [sacristyref01_Cmp.l0] at H
     by_cases c5 : x5_1 ≥ 0
     ·rw [if_pos c5] at H
      have c5b0 : decide (0 ≤ x5_1) = true:=decide_eq_true c5
      clear c5
      by_cases c6 : 0 ≤ x5_1
      ·rw [if_pos c6] at H
       have c6b0 : decide (0 ≤ x5_1) = true:=decide_eq_true c6
       clear c6
       by_cases c7 : x5_1 < (l0.length : Int)
       ·rw [if_pos c7] at H
        have c7b0 : decide (x5_1 < (l0.length : Int)) = true:=decide_eq_true c7
        clear c7
        by_cases c8 : x5_1 < (l1.length : Int)
        ·rw [if_pos c8] at H
         have c8b0 : decide (x5_1 < (l1.length : Int)) = true:=decide_eq_true c8
         clear c8
         by_cases c9 : ((rdOf false l0 x5_1) != (rdOf false l1 x5_1)) = true
         ·rw [if_pos c9] at H
          have c9b0 : ((rdOf false l0 x5_1) != (rdOf false l1 x5_1)) = true:=c9
          (try (have c9b1 : decide ((rdOf false l0 x5_1) = (rdOf false l1 x5_1)) = false:=by simpa using c9))
          (try (have c9b2 : ((rdOf false l0 x5_1) == (rdOf false l1 x5_1)) = false:=by simpa using c9))
          (try (have c9b3 : ¬ ((rdOf false l0 x5_1) = (rdOf false l1 x5_1)):=by simpa using c9))
          clear c9
          obtain ⟨bq10,hbq10⟩ : ∃ b_ : Bool,b_ = (rdOf false l1 x5_1):=⟨_,rfl⟩
          replace H : (if bq10 = true then (some (-1)) else (some 1)) = some r:=by rw [← hbq10] at H;exact H
          have Nbq10:=Aside0.mk hbq10
          clear hbq10
          by_cases c11 : bq10 = true
          ·subst c11
           rw [if_pos rfl] at H
           obtain rfl:=Option.some.inj H
           have p517 : 0 ≤ (x5_1 : Int):=od
           have q517 : x5_1 < (l0.length : Int):=od
           obtain ⟨ad517,e517,hx517_0⟩:=Kd.at_bool HR0.out x5_1 p517 q517
           (try rw [← Nbq10.out] at hx517_0)
           cases e517
           replace p517:=eq_true p517
           replace q517:=eq_true q517
           have p518 : 0 ≤ (x5_1 : Int):=od
           have q518 : x5_1 < (l1.length : Int):=od
           obtain ⟨ad518,e518,hx518_0⟩:=Kd.at_bool HR1.out x5_1 p518 q518
           (try rw [← Nbq10.out] at hx518_0)
           cases e518
           replace p518:=eq_true p518
           replace q518:=eq_true q518
           have p519 : 0 ≤ (x5_1 : Int):=od
           have q519 : x5_1 < (l1.length : Int):=od
           obtain ⟨ad519,e519,hx519_0⟩:=Kd.at_bool HR1.out x5_1 p519 q519
           (try rw [← Nbq10.out] at hx519_0)
           obtain rfl : ad518 = ad519:=(by injection e519)
           replace p519:=eq_true p519
           replace q519:=eq_true q519
           have hz:=c9b0
           rw [← Nbq10.out] at hz
           have hz2 : rdOf false l0 x5_1 = false:=by simpa using hz
           rw [hz2] at hx517_0
           clear hz hz2 c9b0 c9b1 c9b2 c9b3
           go_wp2
           repeat (go_quiet (fail);try go_wp2)
           (first|go_ret|(refine ⟨_,results_tmp rfl _ _ _,?_⟩))
           exact ⟨by first|rfl|(simp;done)|(simp [*];done),by repeat (first|exact Drawn0.refl _|apply Drawn0.step)⟩
          ·replace c11:=Bool.eq_false_iff.mpr c11
           subst c11
           rw [qFT] at H
           obtain rfl:=Option.some.inj H
           have p517 : 0 ≤ (x5_1 : Int):=od
           have q517 : x5_1 < (l0.length : Int):=od
           obtain ⟨ad517,e517,hx517_0⟩:=Kd.at_bool HR0.out x5_1 p517 q517
           (try rw [← Nbq10.out] at hx517_0)
           cases e517
           replace p517:=eq_true p517
           replace q517:=eq_true q517
           have p518 : 0 ≤ (x5_1 : Int):=od
           have q518 : x5_1 < (l1.length : Int):=od
           obtain ⟨ad518,e518,hx518_0⟩:=Kd.at_bool HR1.out x5_1 p518 q518
           (try rw [← Nbq10.out] at hx518_0)
           cases e518
           replace p518:=eq_true p518
           replace q518:=eq_true q518
           have p519 : 0 ≤ (x5_1 : Int):=od
           have q519 : x5_1 < (l1.length : Int):=od
           obtain ⟨ad519,e519,hx519_0⟩:=Kd.at_bool HR1.out x5_1 p519 q519
           (try rw [← Nbq10.out] at hx519_0)
           obtain rfl : ad518 = ad519:=(by injection e519)
           replace p519:=eq_true p519
           replace q519:=eq_true q519
           have hz:=c9b0
           rw [← Nbq10.out] at hz
           have hz2 : rdOf false l0 x5_1 = true:=by simpa using hz
           rw [hz2] at hx517_0
           clear hz hz2 c9b0 c9b1 c9b2 c9b3
           go_wp2
           repeat (go_quiet (fail);try go_wp2)
           (first|go_ret|(refine ⟨_,results_tmp rfl _ _ _,?_⟩))
           exact ⟨by first|rfl|(simp;done)|(simp [*];done),by repeat (first|exact Drawn0.refl _|apply Drawn0.step)⟩
         ·rw [if_neg c9] at H
          have c9b0 : ((rdOf false l0 x5_1) != (rdOf false l1 x5_1)) = false:=by simpa using c9
          (try (have c9b1 : decide ((rdOf false l0 x5_1) = (rdOf false l1 x5_1)) = true:=by simpa using c9))
          (try (have c9b2 : ((rdOf false l0 x5_1) == (rdOf false l1 x5_1)) = true:=by simpa using c9))
          clear c9
          have H':=Aside0.mk H
          clear H
          have p517 : 0 ≤ (x5_1 : Int):=od
          have q517 : x5_1 < (l0.length : Int):=od
          obtain ⟨ad517,e517,hx517_0⟩:=Kd.at_bool HR0.out x5_1 p517 q517
          cases e517
          replace p517:=eq_true p517
          replace q517:=eq_true q517
          have p518 : 0 ≤ (x5_1 : Int):=od
          have q518 : x5_1 < (l1.length : Int):=od
          obtain ⟨ad518,e518,hx518_0⟩:=Kd.at_bool HR1.out x5_1 p518 q518
          cases e518
          replace p518:=eq_true p518
          replace q518:=eq_true q518
          go_wp2
          repeat (go_quiet (fail);try go_wp2)
          go_roundg k1
          case measure => have:=HK1.out;omega
          case rel => exact ⟨(wrap64 (x5_1 - 1)),(by first|rfl|(simp;done)|(simp [*];done)),H',⟨by have:=HK1.out;omega⟩,by repeat (first|exact Drawn0.refl _|apply Drawn0.step)⟩
        ·rw [if_neg c8] at H
         exact absurd H (by simp)
       ·rw [if_neg c7] at H
        exact absurd H (by simp)
      ·rw [if_neg c6] at H
       exact absurd H (by simp)
     ·rw [if_neg c5] at H
      have c5b0 : decide (0 ≤ x5_1) = false:=decide_eq_false c5
      clear c5
      obtain rfl:=Option.some.inj H
      go_wp2
      repeat (go_quiet (fail);try go_wp2)
      (first|go_ret|(refine ⟨_,results_tmp rfl _ _ _,?_⟩))
      exact ⟨by first|rfl|(simp;done)|(simp [*];done),by repeat (first|exact Drawn0.refl _|apply Drawn0.step)⟩
end Go.Proofs.Yteejcpbngnojkaa.P
end
section
namespace Go.Proofs.Yteejcpbngnojkaa.P
open Go.RowKit Go.Proofs.YteejcpbngnojkaaW.PrintWords Go.Proofs.YteejcpbngnojkaaW.PrintLast Go.Proofs.YteejcpbngnojkaaW.PrintMore
attribute [local go_sem] max2_int min2_int max_two min_two max_three min_three max_four min_four
set_option linter.unusedVariables false
set_option linter.unusedSimpArgs false
def sacristyref01_at.f (l0 : List Bool) (a1 : Int) : Option (Int):=if a1 ≥ 0 then (if a1 < (l0.length : Int) then (if 0 ≤ a1 then (if rdOf false l0 a1 = true then (some 1) else (some 0)) else (none)) else (some 0)) else (some 0)
set_option maxHeartbeats 8000000 in
set_option maxRecDepth 100000 in
theorem sacristyref01_at.calls (A0 : Option Addr) (c0 : Nat) (l0 : List Bool) (a1 : Int) (r : Int) (w : World) (hr0 : Kd.C Kd.bool w A0 l0.length l0) (hc0 : l0.length ≤ c0) (h : sacristyref01_at.f l0 a1 = some r) :
  Calls Try.prog 112 #[.slice A0 l0.length c0,.int .i64 a1] w fun e w' => e = .returned (.int .i64 r) ∧ Drawn0 w w':=by
 have HR0:=Aside0.mk hr0
 have HC0:=Aside0.mk hc0
 clear hr0 hc0
 have H : (if a1 ≥ 0 then (if a1 < (l0.length : Int) then (if 0 ≤ a1 then (if rdOf false l0 a1 = true then (some 1) else (some 0)) else (none)) else (some 0)) else (some 0)) = some r:=h
 clear h
 by_cases c3 : a1 ≥ 0
 ·rw [if_pos c3] at H
  have c3b0 : decide (0 ≤ a1) = true:=decide_eq_true c3
  clear c3
  by_cases c4 : a1 < (l0.length : Int)
  ·rw [if_pos c4] at H
   have c4b0 : decide (a1 < (l0.length : Int)) = true:=decide_eq_true c4
   clear c4
   by_cases c5 : 0 ≤ a1
   ·rw [if_pos c5] at H
    have c5b0 : decide (0 ≤ a1) = true:=decide_eq_true c5
    clear c5
    obtain ⟨bq6,hbq6⟩ : ∃ b_ : Bool,b_ = (rdOf false l0 a1):=⟨_,rfl⟩
    replace H : (if bq6 = true then (some 1) else (some 0)) = some r:=by rw [← hbq6] at H;exact H
    have Nbq6:=Aside0.mk hbq6
    clear hbq6
    by_cases c7 : bq6 = true
    ·subst c7
     rw [if_pos rfl] at H
     obtain rfl:=Option.some.inj H
     have p731 : 0 ≤ (a1 : Int):=od
     have q731 : a1 < (l0.length : Int):=od
     obtain ⟨ad731,e731,hx731_0⟩:=Kd.at_bool HR0.out a1 p731 q731
     (try rw [← Nbq6.out] at hx731_0)
     cases e731
     replace p731:=eq_true p731
     replace q731:=eq_true q731
     go_enter Try.func112,Try.ntmps112
     go_wp2
     (first|go_ret|(refine ⟨_,results_tmp rfl _ _ _,?_⟩))
     exact ⟨by first|rfl|(simp;done)|(simp [*];done),by repeat (first|exact Drawn0.refl _|apply Drawn0.step)⟩
    ·replace c7:=Bool.eq_false_iff.mpr c7
     subst c7
     rw [qFT] at H
     obtain rfl:=Option.some.inj H
     have p731 : 0 ≤ (a1 : Int):=od
     have q731 : a1 < (l0.length : Int):=od
     obtain ⟨ad731,e731,hx731_0⟩:=Kd.at_bool HR0.out a1 p731 q731
     (try rw [← Nbq6.out] at hx731_0)
     cases e731
     replace p731:=eq_true p731
     replace q731:=eq_true q731
     go_enter Try.func112,Try.ntmps112
     go_wp2
     (first|go_ret|(refine ⟨_,results_tmp rfl _ _ _,?_⟩))
     exact ⟨by first|rfl|(simp;done)|(simp [*];done),by repeat (first|exact Drawn0.refl _|apply Drawn0.step)⟩
   ·rw [if_neg c5] at H
    exact absurd H (by simp)
  ·rw [if_neg c4] at H
   have c4b0 : decide (a1 < (l0.length : Int)) = false:=decide_eq_false c4
   clear c4
   obtain rfl:=Option.some.inj H
   go_enter Try.func112,Try.ntmps112
   go_wp2
   (first|go_ret|(refine ⟨_,results_tmp rfl _ _ _,?_⟩))
   exact ⟨by first|rfl|(simp;done)|(simp [*];done),by repeat (first|exact Drawn0.refl _|apply Drawn0.step)⟩
 ·rw [if_neg c3] at H
  have c3b0 : decide (0 ≤ a1) = false:=decide_eq_false c3
  clear c3
  obtain rfl:=Option.some.inj H
  go_enter Try.func112,Try.ntmps112
  go_wp2
  (first|go_ret|(refine ⟨_,results_tmp rfl _ _ _,?_⟩))
  exact ⟨by first|rfl|(simp;done)|(simp [*];done),by repeat (first|exact Drawn0.refl _|apply Drawn0.step)⟩
end Go.Proofs.Yteejcpbngnojkaa.P
end
section
namespace Go.Proofs.Yteejcpbngnojkaa.P
open Go.RowKit Go.Proofs.YteejcpbngnojkaaW.PrintWords Go.Proofs.YteejcpbngnojkaaW.PrintLast Go.Proofs.YteejcpbngnojkaaW.PrintMore
attribute [local go_sem] max2_int min2_int max_two min_two max_three min_three max_four min_four
set_option linter.unusedVariables false
set_option linter.unusedSimpArgs false
def sacristyref01_Sub.l0 : Nat → List Bool → List Bool → List Bool → Int → Int → Option (List Bool)
 |0,_,_,_,_,_ => none
 |k + 1,x0,x1,x5,x6,x7 => if x7 < (x0.length : Int) then ((sacristyref01_at.f x0 x7).bind fun t738 => ((sacristyref01_at.f x1 x7).bind fun t739 => (if (wrap64 ((wrap64 (t738 - t739)) - x6)) < 0 then (if x5.length < 140737488355328 then (sacristyref01_Sub.l0 k x0 x1 (x5 ++ [((wrap64 ((wrap64 ((wrap64 (t738 - t739)) - x6)) + 2)) == 1)]) 1 (wrap64 (x7 + 1))) else (none)) else (if x5.length < 140737488355328 then (sacristyref01_Sub.l0 k x0 x1 (x5 ++ [((wrap64 ((wrap64 (t738 - t739)) - x6)) == 1)]) 0 (wrap64 (x7 + 1))) else (none))))) else ((sacristyref01_Trim.f k x5).bind fun t735 => (some t735))
def sacristyref01_Sub.f (k : Nat) (l0 : List Bool) (l1 : List Bool) : Option (List Bool):=sacristyref01_Sub.l0 k l0 l1 (([] : List Bool)) 0 0
theorem sacristyref01_Sub.mono_l : ∀ k,(∀ y0 y1 y2 y3 y4,LeO (sacristyref01_Sub.l0 k y0 y1 y2 y3 y4) (sacristyref01_Sub.l0 (k + 1) y0 y1 y2 y3 y4))
 |0 => fun _ _ _ _ _ r h => by simp [sacristyref01_Sub.l0] at h
 |k + 1 => by
  have ih0:=sacristyref01_Sub.mono_l k
  ·intro y0 y1 y2 y3 y4
   unfold sacristyref01_Sub.l0
   repeat' first
   |(with_reducible exact ih0 _ _ _ _ _)
   |(with_reducible exact sacristyref01_Trim.mono _ _)
   |(with_reducible exact LeO.refl _)
   |(with_reducible exact LeO.none _)
   |(with_reducible refine LeO.ite ?_ ?_)
   |(with_reducible refine LeO.bind ?_ (fun _ => ?_))
   |exact ih0 _ _ _ _ _
   |exact sacristyref01_Trim.mono _ _
   |exact LeO.none _
   |refine LeO.ite ?_ ?_
   |refine LeO.bind ?_ (fun _ => ?_)
theorem sacristyref01_Sub.mono : ∀ a0 a1 k,LeO (sacristyref01_Sub.f k a0 a1) (sacristyref01_Sub.f (k + 1) a0 a1):=by
 intro a0 a1 k
 have ih0:=sacristyref01_Sub.mono_l k
 unfold sacristyref01_Sub.f
 repeat' first
   |(with_reducible exact ih0 _ _ _ _ _)
   |(with_reducible exact sacristyref01_Trim.mono _ _)
   |(with_reducible exact LeO.refl _)
   |(with_reducible exact LeO.none _)
   |(with_reducible refine LeO.ite ?_ ?_)
   |(with_reducible refine LeO.bind ?_ (fun _ => ?_))
   |exact ih0 _ _ _ _ _
   |exact sacristyref01_Trim.mono _ _
   |exact LeO.none _
   |refine LeO.ite ?_ ?_
   |refine LeO.bind ?_ (fun _ => ?_)
set_option maxHeartbeats 8000000 in
set_option maxRecDepth 100000 in
theorem sacristyref01_Sub.calls (k : Nat) (A0 : Option Addr) (c0 : Nat) (l0 : List Bool) (A1 : Option Addr) (c1 : Nat) (l1 : List Bool) (r : List Bool) (w : World) (hr0 : Kd.C Kd.bool w A0 l0.length l0) (hc0 : l0.length ≤ c0) (hr1 : Kd.C Kd.bool w A1 l1.length l1) (hc1 : l1.length ≤ c1) (h : sacristyref01_Sub.f k l0 l1 = some r) :
  Calls Try.prog 63 #[.slice A0 l0.length c0,.slice A1 l1.length c1] w fun e w' => ∃ v0_ : Value,e = .returned (v0_) ∧ Kd.V Kd.bool 4 w' w.heap.size (fun k_ => (w.heap.size ≤ k_)) v0_ r ∧ Below w.heap.size w w':=by
 have HR0:=Aside0.mk hr0
 have HC0:=Aside0.mk hc0
 clear hr0 hc0
 have HR1:=Aside0.mk hr1
 have HC1:=Aside0.mk hc1
 clear hr1 hc1
 have HB:=Aside0.mk (Below.refl w.heap.size w)
 have H : (sacristyref01_Sub.l0 k l0 l1 (([] : List Bool)) 0 0) = some r:=h
 clear h
 obtain ⟨y732,hy732⟩ : ∃ y_ : List Bool,y_ = (([] : List Bool)):=⟨_,rfl⟩
 replace H : (sacristyref01_Sub.l0 k l0 l1 y732 0 0) = some r:=by first|(rw [hy732];with_reducible exact H)|(have H2_:=(Option.bind_some _ _).symm.trans H;rw [hy732];with_reducible exact H2_)|(have H2_:=(Option.bind_some _ _).symm.trans H;with_reducible exact H2_)|with_reducible exact H|(rw [hy732];exact H)|exact H
 have Ny732:=Aside0.mk hy732
 clear hy732
 have H':=Aside0.mk H
 clear H
 go_enter Try.func63,Try.ntmps63
 go_wp2_with (first|((with_reducible refine gate_dst (N:=9) rfl ?_);refine Kd.R_lit Kd.bool _ 4 ?hg (N:=9) ?hd (xs:=([] : List Bool)) (inner:=[]) (ok:=fun _ => True) (okp:=fun _ => True) ?hr ?hp (fun _ hk => hk) trivial (Below.refl _ _) (Nat.le_refl _) (by simp) ?_;(case hd => rfl);(case hg => rfl);(case hr => first|(go_simp;done)|(go_simp;rfl));(case hp => exact (Reps.none _ _));intro v733 w3 ho4 hb hg_ hnew_;clear hg_ hnew_;(first|rw [← Ny732.out] at ho4|(simp only [Int.reduceToNat] at ho4;rw [← Ny732.out] at ho4));have HO734:=Aside0.mk (Kd.R_lower (Kd.R_newM (M:=fun k_ => (w.heap.size ≤ k_)) ho4 (below_size (qS HB)) (fun k_ h_ => h_)) (below_size (qS HB)));replace HB:=qs HB hb;clear hb ho4))
 go_loopg [5,6,7] k (fun kq v5 v6 v7 w' => ∃ (x5_1 : List Bool) (x6_1 : Int) (x7_1 : Int),v6 = .int .i64 x6_1 ∧ v7 = .int .i64 x7_1 ∧ Aside0 (sacristyref01_Sub.l0 kq l0 l1 x5_1 x6_1 x7_1 = some r) ∧ Aside0 (kq ≤ k) ∧ Aside0 (Kd.R Kd.bool 4 w' w.heap.size (fun k_ => (w.heap.size ≤ k_)) v5 x5_1) ∧ Aside0 (Below w.heap.size w w'))
 case atStart => exact ⟨(y732),(0),(0),(by first|rfl|(simp;done)|(simp [*];done)),(by first|rfl|(simp;done)|(simp [*];done)),H',⟨Nat.le_refl _⟩,⟨qRm HO734⟩,⟨qS HB⟩⟩
 case round =>
  clear H'
  try clear c1
  try clear p2
  obtain ⟨x5_1,x6_1,x7_1,rfl,rfl,HA,HK1,HO_5,HB⟩:=hrel
  cases gk with
  |zero => exact absurd HA.out (by simp [sacristyref01_Sub.l0])
  |succ k1 =>
   have H:=HA.out
   clear HA
   simp only [sacristyref01_Sub.l0] at H
   by_cases c5 : x7_1 < (l0.length : Int)
   ·rw [if_pos c5] at H
    have c5b0 : decide (x7_1 < (l0.length : Int)) = true:=decide_eq_true c5
    clear c5
    obtain ⟨t738,A6,H⟩:=qH H
    obtain ⟨t739,A7,H⟩:=qH H
    by_cases c8 : (wrap64 ((wrap64 (t738 - t739)) - x6_1)) < 0
    ·rw [if_pos c8] at H
     have c8b0 : decide ((wrap64 ((wrap64 (t738 - t739)) - x6_1)) < 0) = true:=decide_eq_true c8
     clear c8
     by_cases c9 : x5_1.length < 140737488355328
     ·rw [if_pos c9] at H
      have LMc9:=Aside0.mk c9
      clear c9
      obtain ⟨y740,hy740⟩ : ∃ y_ : List Bool,y_ = (x5_1 ++ [((wrap64 ((wrap64 ((wrap64 (t738 - t739)) - x6_1)) + 2)) == 1)]):=⟨_,rfl⟩
      replace H : (sacristyref01_Sub.l0 k1 l0 l1 y740 1 (wrap64 (x7_1 + 1))) = some r:=by first|(rw [hy740];with_reducible exact H)|(have H2_:=(Option.bind_some _ _).symm.trans H;rw [hy740];with_reducible exact H2_)|(have H2_:=(Option.bind_some _ _).symm.trans H;with_reducible exact H2_)|with_reducible exact H|(rw [hy740];exact H)|exact H
      have Ny740:=Aside0.mk hy740
      clear hy740
      have H':=Aside0.mk H
      clear H
      go_wp2_with (first|((with_reducible refine gate_callee (f:=112) rfl ?_);refine gL (some 18) Try.func112 #[.slice A0 l0.length c0,.int .i64 x7_1] ?_;(with_reducible refine (sacristyref01_at.calls _ _ l0 x7_1 t738 _ ?side1 ?side2 A6.out).mono ?_);(case side1 => exact qCB HR0 HB);(case side2 => exact HC0.out);rintro e w' ⟨rfl,⟨nd,rfl⟩⟩;refine ⟨_,rfl,?_⟩)|((with_reducible refine gate_callee (f:=112) rfl ?_);refine gL (some 21) Try.func112 #[.slice A1 l1.length c1,.int .i64 x7_1] ?_;(with_reducible refine (sacristyref01_at.calls _ _ l1 x7_1 t739 _ ?side1 ?side2 A7.out).mono ?_);(case side1 => repeat (first|exact (Kd.C_below HR1.out (qS HB))|(with_reducible refine Kd.C_alloc ?_ _)|(with_reducible refine Kd.C_drewN ?_ _)|(with_reducible refine Kd.C_drew ?_)));(case side2 => exact HC1.out);rintro e w' ⟨rfl,⟨nd,rfl⟩⟩;refine ⟨_,rfl,?_⟩)|((with_reducible refine gate_builtin (b:=.append) (xs:=#[.tmp 29,.tmp 32]) rfl ?_);at_builtin;refine Kd.R_append Kd.bool (w0:=w) w.heap.size rfl (.tmp 29) (.tmp 32) 42 4 (.bool false) 1 rfl Try.underlying42 info4 rfl (by decide) (by omega) u5 x5_1 ((wrap64 ((wrap64 ((wrap64 (t738 - t739)) - x6_1)) + 2)) == 1) [.bool ((wrap64 ((wrap64 ((wrap64 (t738 - t739)) - x6_1)) + 2)) == 1)] (fun k_ => (w.heap.size ≤ k_)) (fun _ => False) rfl rfl ?aP (fun _ hk => hk.elim) ?aF ?aO ?aB ?aS ?aL ?_;(case aP => exact rfl);(case aB => exact (qS HB));(case aF => exact (fun k_ hk => (Nat.le_trans (below_size (qS HB)) hk)));(case aO => exact (qRm HO_5));(case aS => exact (below_size (qS HB)));(case aL => have:=LMc9.out;omega);intro v741 w10 ho hb hg hat;rw [← Ny740.out] at ho;replace HB:=Aside0.mk (hb);have HO742:=Aside0.mk (ho);(try clear HO_5);clear ho hb hg hat))
      go_roundg k1
      case measure => have:=HK1.out;omega
      case rel => exact ⟨(y740),(1),(wrap64 (x7_1 + 1)),(by first|rfl|(simp;done)|(simp [*];done)),(by first|rfl|(simp;done)|(simp [*];done)),H',⟨by have:=HK1.out;omega⟩,⟨qRm HO742⟩,⟨qS HB⟩⟩
     ·rw [if_neg c9] at H
      exact absurd H (by simp)
    ·rw [if_neg c8] at H
     have c8b0 : decide ((wrap64 ((wrap64 (t738 - t739)) - x6_1)) < 0) = false:=decide_eq_false c8
     clear c8
     by_cases c11 : x5_1.length < 140737488355328
     ·rw [if_pos c11] at H
      have LMc11:=Aside0.mk c11
      clear c11
      obtain ⟨y743,hy743⟩ : ∃ y_ : List Bool,y_ = (x5_1 ++ [((wrap64 ((wrap64 (t738 - t739)) - x6_1)) == 1)]):=⟨_,rfl⟩
      replace H : (sacristyref01_Sub.l0 k1 l0 l1 y743 0 (wrap64 (x7_1 + 1))) = some r:=by first|(rw [hy743];with_reducible exact H)|(have H2_:=(Option.bind_some _ _).symm.trans H;rw [hy743];with_reducible exact H2_)|(have H2_:=(Option.bind_some _ _).symm.trans H;with_reducible exact H2_)|with_reducible exact H|(rw [hy743];exact H)|exact H
      have Ny743:=Aside0.mk hy743
      clear hy743
      have H':=Aside0.mk H
      clear H
      go_wp2_with (first|((with_reducible refine gate_callee (f:=112) rfl ?_);refine gL (some 18) Try.func112 #[.slice A0 l0.length c0,.int .i64 x7_1] ?_;(with_reducible refine (sacristyref01_at.calls _ _ l0 x7_1 t738 _ ?side1 ?side2 A6.out).mono ?_);(case side1 => exact qCB HR0 HB);(case side2 => exact HC0.out);rintro e w' ⟨rfl,⟨nd,rfl⟩⟩;refine ⟨_,rfl,?_⟩)|((with_reducible refine gate_callee (f:=112) rfl ?_);refine gL (some 21) Try.func112 #[.slice A1 l1.length c1,.int .i64 x7_1] ?_;(with_reducible refine (sacristyref01_at.calls _ _ l1 x7_1 t739 _ ?side1 ?side2 A7.out).mono ?_);(case side1 => repeat (first|exact (Kd.C_below HR1.out (qS HB))|(with_reducible refine Kd.C_alloc ?_ _)|(with_reducible refine Kd.C_drewN ?_ _)|(with_reducible refine Kd.C_drew ?_)));(case side2 => exact HC1.out);rintro e w' ⟨rfl,⟨nd,rfl⟩⟩;refine ⟨_,rfl,?_⟩)|((with_reducible refine gate_builtin (b:=.append) (xs:=#[.tmp 29,.tmp 32]) rfl ?_);at_builtin;refine Kd.R_append Kd.bool (w0:=w) w.heap.size rfl (.tmp 29) (.tmp 32) 42 4 (.bool false) 1 rfl Try.underlying42 info4 rfl (by decide) (by omega) u5 x5_1 ((wrap64 ((wrap64 (t738 - t739)) - x6_1)) == 1) [.bool ((wrap64 ((wrap64 (t738 - t739)) - x6_1)) == 1)] (fun k_ => (w.heap.size ≤ k_)) (fun _ => False) rfl rfl ?aP (fun _ hk => hk.elim) ?aF ?aO ?aB ?aS ?aL ?_;(case aP => exact rfl);(case aB => exact (qS HB));(case aF => exact (fun k_ hk => (Nat.le_trans (below_size (qS HB)) hk)));(case aO => exact (qRm HO_5));(case aS => exact (below_size (qS HB)));(case aL => have:=LMc11.out;omega);intro v744 w12 ho hb hg hat;rw [← Ny743.out] at ho;replace HB:=Aside0.mk (hb);have HO745:=Aside0.mk (ho);(try clear HO_5);clear ho hb hg hat))
      go_roundg k1
      case measure => have:=HK1.out;omega
      case rel => exact ⟨(y743),(0),(wrap64 (x7_1 + 1)),(by first|rfl|(simp;done)|(simp [*];done)),(by first|rfl|(simp;done)|(simp [*];done)),H',⟨by have:=HK1.out;omega⟩,⟨qRm HO745⟩,⟨qS HB⟩⟩
     ·rw [if_neg c11] at H
      exact absurd H (by simp)
   ·rw [if_neg c5] at H
    have c5b0 : decide (x7_1 < (l0.length : Int)) = false:=decide_eq_false c5
    clear c5
    obtain ⟨t735,A13,H⟩:=qH H
    obtain rfl:=Option.some.inj H
    obtain ⟨Ao14,co14,eo14⟩:=Kd.R_slice HO_5.out
    subst eo14
    go_wp2_with (first|((with_reducible refine gate_callee (f:=111) rfl ?_);refine gL (some 35) Try.func111 #[.slice Ao14 x5_1.length co14] ?_;(with_reducible refine (sacristyref01_Trim.calls k1 (fun k_ => some k_ = (.slice Ao14 x5_1.length co14 : Value).ownBlock) _ _ x5_1 t735 _ ?side1 A13.out).mono ?_);(case side1 => exact Kd.R_V (Kd.R_tight rfl (HO_5.out)));rintro e w15 ⟨v736,rfl,ho0,hb⟩;refine ⟨_,rfl,?_⟩;have HO737:=Aside0.mk (Kd.V_lower (Kd.V_mono (ok':=fun k_ => (w.heap.size ≤ k_)) ho0 (fun k_ hk_ => Or.elim hk_ (fun hs_ => ((HO_5.out).1 k_ hs_.symm)) (fun hn_ => (Nat.le_trans (below_size (qS HB)) hn_)))) (below_size (qS HB)));replace HO_5:=qRb HO_5 hb;replace HB:=qs HB hb;clear hb ho0))
    (first|go_ret|(refine ⟨_,results_tmp rfl _ _ _,?_⟩))
    exact ⟨_,by first|rfl|(simp [errW_none,errW_some] <;> rfl)|(simp [*,errW_none,errW_some] <;> rfl),qVm HO737,qS HB⟩
end Go.Proofs.Yteejcpbngnojkaa.P
end
section
namespace Go.Proofs.Yteejcpbngnojkaa.P
open Go.RowKit Go.Proofs.YteejcpbngnojkaaW.PrintWords Go.Proofs.YteejcpbngnojkaaW.PrintLast Go.Proofs.YteejcpbngnojkaaW.PrintMore
attribute [local go_sem] max2_int min2_int max_two min_two max_three min_three max_four min_four
set_option linter.unusedVariables false
set_option linter.unusedSimpArgs false
def sacristyref01_Div.l0 : Nat → List Bool → List Bool → List Bool → List Bool → Int → Option (List Bool × List Bool)
 |0,_,_,_,_,_ => none
 |k + 1,x0,x1,x6,x7,x8 => if x8 ≥ 0 then (if 0 ≤ x8 then (if x8 < (x0.length : Int) then ((some (([rdOf false x0 x8] : List Bool) : List Bool)).bind fun y756 => (if y756.length + x7.length < 140737488355328 then ((sacristyref01_Trim.f k (y756 ++ x7)).bind fun t762 => ((sacristyref01_Cmp.f k t762 x1).bind fun t765 => (if t765 ≥ 0 then ((sacristyref01_Sub.f k t762 x1).bind fun t766 => (if x8 < (x6.length : Int) then (sacristyref01_Div.l0 k x0 x1 (x6.set (x8 : Int).toNat true) t766 (wrap64 (x8 - 1))) else (none))) else (sacristyref01_Div.l0 k x0 x1 x6 t762 (wrap64 (x8 - 1)))))) else (none))) else (none)) else (none)) else ((sacristyref01_Trim.f k x6).bind fun t752 => (some (t752,x7)))
def sacristyref01_Div.f (k : Nat) (l0 : List Bool) (l1 : List Bool) : Option (List Bool × List Bool):=if 0 ≤ (l0.length : Int) then (if ((l0.length : Int) : Int).toNat ≤ 281474976710656 then (sacristyref01_Div.l0 k l0 l1 (List.replicate ((l0.length : Int) : Int).toNat false) (([] : List Bool)) (wrap64 ((l0.length : Int) - 1))) else (none)) else (none)
theorem sacristyref01_Div.mono_l : ∀ k,(∀ y0 y1 y2 y3 y4,LeO (sacristyref01_Div.l0 k y0 y1 y2 y3 y4) (sacristyref01_Div.l0 (k + 1) y0 y1 y2 y3 y4))
 |0 => fun _ _ _ _ _ r h => by simp [sacristyref01_Div.l0] at h
 |k + 1 => by
  have ih0:=sacristyref01_Div.mono_l k
  ·intro y0 y1 y2 y3 y4
   unfold sacristyref01_Div.l0
   repeat' first
   |(with_reducible exact ih0 _ _ _ _ _)
   |(with_reducible exact sacristyref01_Cmp.mono _ _ _)
   |(with_reducible exact sacristyref01_Sub.mono _ _ _)
   |(with_reducible exact sacristyref01_Trim.mono _ _)
   |(with_reducible exact LeO.refl _)
   |(with_reducible exact LeO.none _)
   |(with_reducible refine LeO.ite ?_ ?_)
   |(with_reducible refine LeO.bind ?_ (fun _ => ?_))
   |exact ih0 _ _ _ _ _
   |exact sacristyref01_Cmp.mono _ _ _
   |exact sacristyref01_Sub.mono _ _ _
   |exact sacristyref01_Trim.mono _ _
   |exact LeO.none _
   |refine LeO.ite ?_ ?_
   |refine LeO.bind ?_ (fun _ => ?_)
theorem sacristyref01_Div.mono : ∀ a0 a1 k,LeO (sacristyref01_Div.f k a0 a1) (sacristyref01_Div.f (k + 1) a0 a1):=by
 intro a0 a1 k
 have ih0:=sacristyref01_Div.mono_l k
 unfold sacristyref01_Div.f
 repeat' first
   |(with_reducible exact ih0 _ _ _ _ _)
   |(with_reducible exact sacristyref01_Cmp.mono _ _ _)
   |(with_reducible exact sacristyref01_Sub.mono _ _ _)
   |(with_reducible exact sacristyref01_Trim.mono _ _)
   |(with_reducible exact LeO.refl _)
   |(with_reducible exact LeO.none _)
   |(with_reducible refine LeO.ite ?_ ?_)
   |(with_reducible refine LeO.bind ?_ (fun _ => ?_))
   |exact ih0 _ _ _ _ _
   |exact sacristyref01_Cmp.mono _ _ _
   |exact sacristyref01_Sub.mono _ _ _
   |exact sacristyref01_Trim.mono _ _
   |exact LeO.none _
   |refine LeO.ite ?_ ?_
   |refine LeO.bind ?_ (fun _ => ?_)
set_option maxHeartbeats 8000000 in
set_option maxRecDepth 100000 in
theorem sacristyref01_Div.calls (k : Nat) (A0 : Option Addr) (c0 : Nat) (l0 : List Bool) (A1 : Option Addr) (c1 : Nat) (l1 : List Bool) (r1 : List Bool) (r2 : List Bool) (w : World) (hr0 : Kd.C Kd.bool w A0 l0.length l0) (hc0 : l0.length ≤ c0) (hr1 : Kd.C Kd.bool w A1 l1.length l1) (hc1 : l1.length ≤ c1) (h : sacristyref01_Div.f k l0 l1 = some (r1,r2)) :
  Calls Try.prog 59 #[.slice A0 l0.length c0,.slice A1 l1.length c1] w fun e w' => ∃ v0_ v1_ : Value,e = .returned (.tuple #[v0_,v1_]) ∧ Kd.V Kd.bool 4 w' w.heap.size (fun k_ => (w.heap.size ≤ k_)) v0_ r1 ∧ Kd.V Kd.bool 4 w' w.heap.size (fun k_ => (w.heap.size ≤ k_)) v1_ r2 ∧ Below w.heap.size w w':=by
 have HR0:=Aside0.mk hr0
 have HC0:=Aside0.mk hc0
 clear hr0 hc0
 have HR1:=Aside0.mk hr1
 have HC1:=Aside0.mk hc1
 clear hr1 hc1
 have HB:=Aside0.mk (Below.refl w.heap.size w)
 have H : (if 0 ≤ (l0.length : Int) then (if ((l0.length : Int) : Int).toNat ≤ 281474976710656 then (sacristyref01_Div.l0 k l0 l1 (List.replicate ((l0.length : Int) : Int).toNat false) (([] : List Bool)) (wrap64 ((l0.length : Int) - 1))) else (none)) else (none)) = some (r1,r2):=h
 clear h
 by_cases c3 : 0 ≤ (l0.length : Int)
 ·rw [if_pos c3] at H
  have c3b0:=eq_true c3
  have c3b1 : decide (0 ≤ (l0.length : Int)) = true:=decide_eq_true c3
  clear c3
  by_cases c4 : ((l0.length : Int) : Int).toNat ≤ 281474976710656
  ·rw [if_pos c4] at H
   have c4b0:=eq_true c4
   have c4b1 : decide (((l0.length : Int) : Int).toNat ≤ 281474976710656) = true:=decide_eq_true c4
   clear c4
   obtain ⟨y746,hy746⟩ : ∃ y_ : List Bool,y_ = (List.replicate ((l0.length : Int) : Int).toNat false):=⟨_,rfl⟩
   replace H : (sacristyref01_Div.l0 k l0 l1 y746 (([] : List Bool)) (wrap64 ((l0.length : Int) - 1))) = some (r1,r2):=by first|(rw [hy746];with_reducible exact H)|(have H2_:=(Option.bind_some _ _).symm.trans H;rw [hy746];with_reducible exact H2_)|(have H2_:=(Option.bind_some _ _).symm.trans H;with_reducible exact H2_)|with_reducible exact H|(rw [hy746];exact H)|exact H
   have Ny746:=Aside0.mk hy746
   clear hy746
   obtain ⟨y749,hy749⟩ : ∃ y_ : List Bool,y_ = (([] : List Bool)):=⟨_,rfl⟩
   replace H : (sacristyref01_Div.l0 k l0 l1 y746 y749 (wrap64 ((l0.length : Int) - 1))) = some (r1,r2):=by first|(rw [hy749];with_reducible exact H)|(have H2_:=(Option.bind_some _ _).symm.trans H;rw [hy749];with_reducible exact H2_)|(have H2_:=(Option.bind_some _ _).symm.trans H;with_reducible exact H2_)|with_reducible exact H|(rw [hy749];exact H)|exact H
   have Ny749:=Aside0.mk hy749
   clear hy749
   have H':=Aside0.mk H
   clear H
   go_enter Try.func59,Try.ntmps59
   go_wp2_with (first|((with_reducible refine gate_dst (N:=11) rfl ?_);refine Kd.R_make Kd.bool _ 4 rfl (N:=11) rfl 42 _ _ rfl (l0.length : Int) rfl rfl Try.underlying42 (.bool false) 1 info4 rfl (by decide) (by omega) false (ok:=fun _ => True) (okp:=fun _ => True) rfl (fun _ hk => hk) trivial (od) (Nat.le_trans (Nat.mul_le_mul_right _ (od : (l0.length : Int).toNat ≤ 281474976710656)) (by omega)) (Below.refl _ _) (Nat.le_refl _) ?_;intro v747 w5 ho6 hb hg_ hnew_;clear hg_ hnew_;(first|rw [← Ny746.out] at ho6|(simp only [Int.reduceToNat] at ho6;rw [← Ny746.out] at ho6));have HO748:=Aside0.mk (Kd.R_lower (Kd.R_newM (M:=fun k_ => (w.heap.size ≤ k_)) ho6 (below_size (qS HB)) (fun k_ h_ => h_)) (below_size (qS HB)));replace HB:=qs HB hb;clear hb ho6)|((with_reducible refine gate_dst (N:=12) rfl ?_);refine Kd.R_lit Kd.bool _ 4 ?hg (N:=12) ?hd (xs:=([] : List Bool)) (inner:=[]) (ok:=fun _ => True) (okp:=fun _ => True) ?hr ?hp (fun _ hk => hk) trivial (Below.refl _ _) (Nat.le_refl _) (by simp) ?_;(case hd => rfl);(case hg => rfl);(case hr => first|(go_simp;done)|(go_simp;rfl));(case hp => exact (Reps.none _ _));intro v750 w7 ho8 hb hg_ hnew_;clear hg_ hnew_;(first|rw [← Ny749.out] at ho8|(simp only [Int.reduceToNat] at ho8;rw [← Ny749.out] at ho8));have HO751:=Aside0.mk (Kd.R_lower (Kd.R_new' (Kd.R_newM (M:=fun k_ => (w.heap.size ≤ k_)) ho8 (below_size (qS HB)) (fun k_ h_ => h_)) (Kd.R_lt (qRm HO748))) (below_size (qS HB)));replace HO748:=qRd HO748 ho8 hb;replace HB:=qs HB hb;clear hb ho8))
   go_loopg [7,8] k (fun kq v7 v8 w' => ∃ (x6_1 : List Bool) (x7_1 : List Bool) (x8_1 : Int),v8 = .int .i64 x8_1 ∧ Aside0 (sacristyref01_Div.l0 kq l0 l1 x6_1 x7_1 x8_1 = some (r1,r2)) ∧ Aside0 (kq ≤ k) ∧ Aside0 (Kd.R Kd.bool 4 w' w.heap.size (fun k_ => (w.heap.size ≤ k_)) v747 x6_1) ∧ Aside0 (Kd.V Kd.bool 4 w' w.heap.size (fun k_ => (w.heap.size ≤ k_) ∧ some k_ ≠ (v747 : Value).ownBlock) v7 x7_1) ∧ Aside0 (Below w.heap.size w w'))
   case atStart => exact ⟨(y746),(y749),(wrap64 ((l0.length : Int) - 1)),(by first|rfl|(simp;done)|(simp [*];done)),H',⟨Nat.le_refl _⟩,⟨qRm HO748⟩,⟨Kd.R_V (qRm HO751)⟩,⟨qS HB⟩⟩
   case round =>
    clear H'
    try clear c1
    try clear p2
    try clear c3
    try clear c3b0
    try clear c3b1
    try clear c4
    try clear c4b0
    try clear c4b1
    try clear c5
    try clear p6
    obtain ⟨x6_1,x7_1,x8_1,rfl,HA,HK1,HO_6,HO_7,HB⟩:=hrel
    cases gk with
    |zero => exact absurd HA.out (by simp [sacristyref01_Div.l0])
    |succ k1 =>
     have H:=HA.out
     clear HA
     simp only [sacristyref01_Div.l0] at H
     by_cases c9 : x8_1 ≥ 0
     ·rw [if_pos c9] at H
      have c9b0 : decide (0 ≤ x8_1) = true:=decide_eq_true c9
      clear c9
      by_cases c10 : 0 ≤ x8_1
      ·rw [if_pos c10] at H
       have c10b0 : decide (0 ≤ x8_1) = true:=decide_eq_true c10
       clear c10
       by_cases c11 : x8_1 < (l0.length : Int)
       ·rw [if_pos c11] at H
        have c11b0 : decide (x8_1 < (l0.length : Int)) = true:=decide_eq_true c11
        clear c11
        obtain ⟨y756,hy756⟩ : ∃ y_ : List Bool,y_ = (([rdOf false l0 x8_1] : List Bool)):=⟨_,rfl⟩
        replace H : (if y756.length + x7_1.length < 140737488355328 then ((sacristyref01_Trim.f k1 (y756 ++ x7_1)).bind fun t762 => ((sacristyref01_Cmp.f k1 t762 l1).bind fun t765 => (if t765 ≥ 0 then ((sacristyref01_Sub.f k1 t762 l1).bind fun t766 => (if x8_1 < (x6_1.length : Int) then (sacristyref01_Div.l0 k1 l0 l1 (x6_1.set (x8_1 : Int).toNat true) t766 (wrap64 (x8_1 - 1))) else (none))) else (sacristyref01_Div.l0 k1 l0 l1 x6_1 t762 (wrap64 (x8_1 - 1)))))) else (none)) = some (r1,r2):=by first|(rw [hy756];with_reducible exact H)|(have H2_:=(Option.bind_some _ _).symm.trans H;rw [hy756];with_reducible exact H2_)|(have H2_:=(Option.bind_some _ _).symm.trans H;with_reducible exact H2_)|with_reducible exact H|(rw [hy756];exact H)|exact H
        have Ny756:=Aside0.mk hy756
        clear hy756
        by_cases c12 : y756.length + x7_1.length < 140737488355328
        ·rw [if_pos c12] at H
         have LMc12:=Aside0.mk c12
         clear c12
         obtain ⟨y759,hy759⟩ : ∃ y_ : List Bool,y_ = (y756 ++ x7_1):=⟨_,rfl⟩
         replace H : ((sacristyref01_Trim.f k1 y759).bind fun t762 => ((sacristyref01_Cmp.f k1 t762 l1).bind fun t765 => (if t765 ≥ 0 then ((sacristyref01_Sub.f k1 t762 l1).bind fun t766 => (if x8_1 < (x6_1.length : Int) then (sacristyref01_Div.l0 k1 l0 l1 (x6_1.set (x8_1 : Int).toNat true) t766 (wrap64 (x8_1 - 1))) else (none))) else (sacristyref01_Div.l0 k1 l0 l1 x6_1 t762 (wrap64 (x8_1 - 1)))))) = some (r1,r2):=by first|(rw [hy759];with_reducible exact H)|(have H2_:=(Option.bind_some _ _).symm.trans H;rw [hy759];with_reducible exact H2_)|(have H2_:=(Option.bind_some _ _).symm.trans H;with_reducible exact H2_)|with_reducible exact H|(rw [hy759];exact H)|exact H
         have Ny759:=Aside0.mk hy759
         clear hy759
         obtain ⟨t762,A13,H⟩:=qH H
         obtain ⟨t765,A14,H⟩:=qH H
         by_cases c15 : t765 ≥ 0
         ·rw [if_pos c15] at H
          have c15b0 : decide (0 ≤ t765) = true:=decide_eq_true c15
          clear c15
          obtain ⟨t766,A16,H⟩:=qH H
          by_cases c17 : x8_1 < (x6_1.length : Int)
          ·rw [if_pos c17] at H
           have c17b0 : decide (x8_1 < (x6_1.length : Int)) = true:=decide_eq_true c17
           clear c17
           obtain ⟨y769,hy769⟩ : ∃ y_ : List Bool,y_ = (x6_1.set (x8_1 : Int).toNat true):=⟨_,rfl⟩
           replace H : (sacristyref01_Div.l0 k1 l0 l1 y769 t766 (wrap64 (x8_1 - 1))) = some (r1,r2):=by first|(rw [hy769];with_reducible exact H)|(have H2_:=(Option.bind_some _ _).symm.trans H;rw [hy769];with_reducible exact H2_)|(have H2_:=(Option.bind_some _ _).symm.trans H;with_reducible exact H2_)|with_reducible exact H|(rw [hy769];exact H)|exact H
           have Ny769:=Aside0.mk hy769
           clear hy769
           have H':=Aside0.mk H
           clear H
           have p755 : 0 ≤ (x8_1 : Int):=od
           have q755 : x8_1 < (l0.length : Int):=od
           obtain ⟨ad755,e755,hx755_0⟩:=Kd.at_bool HR0.out x8_1 p755 q755
           cases e755
           replace hx755_0:=(HB.out.cell (World.block_lt_of_cell? w _ hx755_0)).trans hx755_0
           replace p755:=eq_true p755
           replace q755:=eq_true q755
           go_wp2_with (first|((with_reducible refine gate_dst (N:=24) rfl ?_);refine Kd.R_lit Kd.bool _ 4 ?hg (N:=24) ?hd (xs:=([rdOf false l0 x8_1] : List Bool)) (inner:=[.bool (rdOf false l0 x8_1)]) (ok:=fun _ => True) (okp:=fun _ => True) ?hr ?hp (fun _ hk => hk) trivial (Below.refl _ _) (Nat.le_refl _) (by simp) ?_;(case hd => rfl);(case hg => rfl);(case hr => first|(go_simp;done)|(go_simp;rfl));(case hp => exact (Reps.one (show Kd.M Kd.bool _ _ _ (rdOf false l0 x8_1) [.bool (rdOf false l0 x8_1)] from rfl) (Reps.none _ _)));intro v757 w19 ho20 hb hg_ hnew_;clear hg_ hnew_;(first|rw [← Ny756.out] at ho20|(simp only [Int.reduceToNat] at ho20;rw [← Ny756.out] at ho20));replace HO_7:=qVd HO_7 ho20 hb;have HO758:=Aside0.mk (Kd.R_lower (Kd.R_new' (Kd.R_newM (M:=fun k_ => (w.heap.size ≤ k_)) ho20 (below_size (qS HB)) (fun k_ h_ => h_)) (Kd.R_lt (qRm HO_6))) (below_size (qS HB)));replace HO_6:=qRd HO_6 ho20 hb;replace HB:=qs HB hb;clear hb ho20;obtain ⟨Ao22,co22,eo22⟩:=Kd.V_slice HO_7.out;subst eo22)|((with_reducible refine gate_builtin (b:=.append) (xs:=#[.tmp 24,.tmp 25]) rfl ?_);at_builtin;refine Kd.R_append_rows Kd.bool (w0:=w) w.heap.size rfl (.tmp 24) (.tmp 25) 42 4 (.bool false) 1 rfl Try.underlying42 info4 rfl (by decide) (by omega) v757 y756 x7_1 _ _ _ (fun k_ => (w.heap.size ≤ k_) ∧ some k_ ≠ (v747 : Value).ownBlock) (fun _ => False) rfl rfl ?aO ?aR (fun _ _ h => h) (fun _ h => h.elim) ?aF ?aB ?aS ?aL ?_;(case aR => exact qCV HO_7);(case aB => exact (qS HB));(case aF => exact (fun k_ hk => ⟨(Nat.le_trans (below_size (qS HB)) hk),Kd.fresh' (Kd.R_lt (qRm HO_6)) k_ hk⟩));(case aO => exact (qRm HO758));(case aS => exact (below_size (qS HB)));(case aL => have:=LMc12.out;omega);intro v760 w21 ho hb hg hat;rw [← Ny759.out] at ho;replace HO_6:=Aside0.mk (Kd.R_after (ok:=(fun k_ => (w.heap.size ≤ k_))) (qRm HO_6) hg hat);replace HO_7:=Aside0.mk (Kd.V_afterv (ok:=(fun k_ => (w.heap.size ≤ k_) ∧ some k_ ≠ (v747 : Value).ownBlock)) (qVm HO_7) hg hat);replace HB:=Aside0.mk (hb);have HO761:=Aside0.mk (ho);(try clear HO758);clear ho hb hg hat;obtain ⟨Ao23,co23,eo23⟩:=Kd.R_slice HO761.out;subst eo23)|((with_reducible refine gate_callee (f:=111) rfl ?_);refine gL (some 27) Try.func111 #[.slice Ao23 y759.length co23] ?_;(with_reducible refine (sacristyref01_Trim.calls k1 (fun k_ => some k_ = (.slice Ao23 y759.length co23 : Value).ownBlock) _ _ y759 t762 _ ?side1 A13.out).mono ?_);(case side1 => exact Kd.R_V (Kd.R_tight rfl (HO761.out)));rintro e w24 ⟨v763,rfl,ho0,hb⟩;refine ⟨_,rfl,?_⟩;replace HO_7:=qVb HO_7 hb;have HO764:=Aside0.mk (Kd.V_lower (Kd.V_mono (ok':=fun k_ => (w.heap.size ≤ k_) ∧ some k_ ≠ (v747 : Value).ownBlock) ho0 (fun k_ hk_ => ⟨Or.elim hk_ (fun hs_ => ((HO761.out).1 k_ hs_.symm).1) (fun hn_ => (Nat.le_trans (below_size (qS HB)) hn_)),Or.elim hk_ (fun hs_ => ((HO761.out).1 k_ hs_.symm).2) (fun hn_ => (Kd.fresh' (Kd.R_lt (qRm HO_6)) k_ hn_))⟩)) (below_size (qS HB)));replace HO_6:=qRb HO_6 hb;replace HO761:=qRb HO761 hb;replace HB:=qs HB hb;clear hb ho0;obtain ⟨Ao25,co25,eo25⟩:=Kd.V_slice HO764.out;subst eo25)|((with_reducible refine gate_callee (f:=46) rfl ?_);refine gL (some 30) Try.func46 #[.slice Ao25 t762.length co25,.slice A1 l1.length c1] ?_;(with_reducible refine (sacristyref01_Cmp.calls k1 _ _ t762 _ _ l1 t765 _ ?side1 ?side2 ?side3 ?side4 A14.out).mono ?_);(case side1 => exact qCV HO764);(case side2 => exact qL HO764);(case side3 => exact qCB HR1 HB);(case side4 => exact HC1.out);rintro e w' ⟨rfl,⟨nd,rfl⟩⟩;refine ⟨_,rfl,?_⟩;(try (rw [drewN_self w24];generalize hq_ : World.drewN w24 _ = w24;have n0_ : Aside0 (Kd.R Kd.bool 4 w24 w.heap.size (fun k_ => (w.heap.size ≤ k_) ∧ some k_ ≠ (v747 : Value).ownBlock) (.slice Ao23 y759.length co23) y759):=⟨by rw [← hq_];exact (qRm HO761)⟩;have n1_ : Aside0 (Kd.V Kd.bool 4 w24 w.heap.size (fun k_ => (w.heap.size ≤ k_) ∧ some k_ ≠ (v747 : Value).ownBlock) (.slice Ao25 t762.length co25) t762):=⟨by rw [← hq_];exact (qVm HO764)⟩;have n2_ : Aside0 (Kd.R Kd.bool 4 w24 w.heap.size (fun k_ => (w.heap.size ≤ k_) ∧ some k_ ≠ (.slice Ao23 y759.length co23 : Value).ownBlock) v747 x6_1):=⟨by rw [← hq_];exact (qRm HO_6)⟩;have n3_ : Aside0 (Kd.V Kd.bool 4 w24 w.heap.size (fun k_ => (w.heap.size ≤ k_) ∧ some k_ ≠ (.slice Ao23 y759.length co23 : Value).ownBlock ∧ some k_ ≠ (v747 : Value).ownBlock) (.slice Ao22 x7_1.length co22) x7_1):=⟨by rw [← hq_];exact (qVm HO_7)⟩;have n4_ : Aside0 (Below w.heap.size w w24):=⟨by rw [← hq_];exact (qS HB)⟩;clear HO761 HO764 HO_6 HO_7 HB hq_;have HO761:=n0_;have HO764:=n1_;have HO_6:=n2_;have HO_7:=n3_;have HB:=n4_;clear n0_ n1_ n2_ n3_ n4_)))|((with_reducible refine gate_callee (f:=63) rfl ?_);refine gL (some 34) Try.func63 #[.slice Ao25 t762.length co25,.slice A1 l1.length c1] ?_;(with_reducible refine (sacristyref01_Sub.calls k1 _ _ t762 _ _ l1 t766 _ ?side1 ?side2 ?side3 ?side4 A16.out).mono ?_);(case side1 => exact qCV HO764);(case side2 => exact qL HO764);(case side3 => exact qCB HR1 HB);(case side4 => exact HC1.out);rintro e w26 ⟨v767,rfl,ho0,hb⟩;refine ⟨_,rfl,?_⟩;replace HO_7:=qVb HO_7 hb;replace HO764:=qVb HO764 hb;have HO768:=Aside0.mk (Kd.V_lower (Kd.V_mono (ok':=fun k_ => (w.heap.size ≤ k_) ∧ some k_ ≠ (v747 : Value).ownBlock ∧ some k_ ≠ (.slice Ao23 y759.length co23 : Value).ownBlock) ho0 (fun k_ hk_ => ⟨(Nat.le_trans (below_size (qS HB)) hk_),(Kd.fresh' (Kd.R_lt (qRm HO_6)) k_ hk_),(Kd.fresh' (Kd.R_lt (qRm HO761)) k_ hk_)⟩)) (below_size (qS HB)));replace HO_6:=qRb HO_6 hb;replace HO761:=qRb HO761 hb;replace HB:=qs HB hb;clear hb ho0;have p18 : 0 ≤ (x8_1 : Int):=od;have q18 : (x8_1 : Int) < ((x6_1.length : Int) : Int):=od;obtain ⟨go18,co18,eo18,gb18,gl18,cl18,HG18⟩:=Kd.R_form HO_6.out (by omega);(first|cases eo18|(injection eo18 with ea_ en_ ec_;(first|subst ea_|(injection ea_ with ea_;subst ea_));subst ec_;clear en_));have GB18:=Aside0.mk gb18;have GG18:=Aside0.mk HG18;clear gb18 gl18 HG18;obtain ⟨hx18_0,hf18_0⟩:=Kd.R_celln false HO_6.out (x8_1 : Int) p18 q18;replace p18:=eq_true p18;replace q18:=eq_true q18;obtain ⟨hy27_,hz27_⟩:=Kd.R_celln false HO_6.out (x8_1 : Int) (od) (od);have HP27:=Kd.R_putg HO_6.out (x8_1 : Int) true)|((with_reducible refine gate_store (t:=4) (p:=37) rfl ?_);refine qSt (w26.setCell ⟨go18,(x8_1 : Int).toNat,none⟩ (.bool true)) ?_;intro w28 hw;have hg : w26.grownBy w28 (some go18):=(by rw [hw];exact HP27.2);have hp_ : Kd.R Kd.bool 4 w28 w.heap.size (fun k_ => (w.heap.size ≤ k_) ∧ some k_ ≠ (.slice Ao23 y759.length co23 : Value).ownBlock) (.slice (some ⟨go18,0,none⟩) x6_1.length co18) y769:=(by rw [hw,Ny769.out];exact HP27.1);clear HP27;replace HO_6:=Aside0.mk (hp_);replace HO_7:=Aside0.mk trivial;replace HO761:=Aside0.mk (Kd.R_after (v:=(.slice (some ⟨go18,0,none⟩) x6_1.length co18)) (v1:=(.slice (some ⟨go18,0,none⟩) x6_1.length co18)) (ok:=(fun k_ => (w.heap.size ≤ k_))) (qRm HO761) hg (.inl rfl));replace HO764:=Aside0.mk (Kd.V_afterv (v:=(.slice (some ⟨go18,0,none⟩) x6_1.length co18)) (v1:=(.slice (some ⟨go18,0,none⟩) x6_1.length co18)) (ok:=(fun k_ => (w.heap.size ≤ k_))) (qVm HO764) hg (.inl rfl));replace HO768:=Aside0.mk (Kd.V_afterv (v:=(.slice (some ⟨go18,0,none⟩) x6_1.length co18)) (v1:=(.slice (some ⟨go18,0,none⟩) x6_1.length co18)) (ok:=(fun k_ => (w.heap.size ≤ k_) ∧ some k_ ≠ (.slice Ao23 y759.length co23 : Value).ownBlock)) (qVm HO768) hg (.inl rfl));replace HB:=Aside0.mk ((by rw [hw];exact below_set (HB.out) GB18.out : Below w.heap.size w w28));clear hg hw hp_))
           go_roundg k1
           case measure => have:=HK1.out;omega
           case rel => exact ⟨(y769),(t766),(wrap64 (x8_1 - 1)),(by first|rfl|(simp;done)|(simp [*];done)),H',⟨by have:=HK1.out;omega⟩,⟨qRm HO_6⟩,⟨qVm HO768⟩,⟨qS HB⟩⟩
          ·rw [if_neg c17] at H
           exact absurd H (by simp)
         ·rw [if_neg c15] at H
          have c15b0 : decide (0 ≤ t765) = false:=decide_eq_false c15
          clear c15
          have H':=Aside0.mk H
          clear H
          have p755 : 0 ≤ (x8_1 : Int):=od
          have q755 : x8_1 < (l0.length : Int):=od
          obtain ⟨ad755,e755,hx755_0⟩:=Kd.at_bool HR0.out x8_1 p755 q755
          cases e755
          replace hx755_0:=(HB.out.cell (World.block_lt_of_cell? w _ hx755_0)).trans hx755_0
          replace p755:=eq_true p755
          replace q755:=eq_true q755
          go_wp2_with (first|((with_reducible refine gate_dst (N:=24) rfl ?_);refine Kd.R_lit Kd.bool _ 4 ?hg (N:=24) ?hd (xs:=([rdOf false l0 x8_1] : List Bool)) (inner:=[.bool (rdOf false l0 x8_1)]) (ok:=fun _ => True) (okp:=fun _ => True) ?hr ?hp (fun _ hk => hk) trivial (Below.refl _ _) (Nat.le_refl _) (by simp) ?_;(case hd => rfl);(case hg => rfl);(case hr => first|(go_simp;done)|(go_simp;rfl));(case hp => exact (Reps.one (show Kd.M Kd.bool _ _ _ (rdOf false l0 x8_1) [.bool (rdOf false l0 x8_1)] from rfl) (Reps.none _ _)));intro v757 w29 ho30 hb hg_ hnew_;clear hg_ hnew_;(first|rw [← Ny756.out] at ho30|(simp only [Int.reduceToNat] at ho30;rw [← Ny756.out] at ho30));replace HO_7:=qVd HO_7 ho30 hb;have HO758:=Aside0.mk (Kd.R_lower (Kd.R_new' (Kd.R_newM (M:=fun k_ => (w.heap.size ≤ k_)) ho30 (below_size (qS HB)) (fun k_ h_ => h_)) (Kd.R_lt (qRm HO_6))) (below_size (qS HB)));replace HO_6:=qRd HO_6 ho30 hb;replace HB:=qs HB hb;clear hb ho30;obtain ⟨Ao32,co32,eo32⟩:=Kd.V_slice HO_7.out;subst eo32)|((with_reducible refine gate_builtin (b:=.append) (xs:=#[.tmp 24,.tmp 25]) rfl ?_);at_builtin;refine Kd.R_append_rows Kd.bool (w0:=w) w.heap.size rfl (.tmp 24) (.tmp 25) 42 4 (.bool false) 1 rfl Try.underlying42 info4 rfl (by decide) (by omega) v757 y756 x7_1 _ _ _ (fun k_ => (w.heap.size ≤ k_) ∧ some k_ ≠ (v747 : Value).ownBlock) (fun _ => False) rfl rfl ?aO ?aR (fun _ _ h => h) (fun _ h => h.elim) ?aF ?aB ?aS ?aL ?_;(case aR => exact qCV HO_7);(case aB => exact (qS HB));(case aF => exact (fun k_ hk => ⟨(Nat.le_trans (below_size (qS HB)) hk),Kd.fresh' (Kd.R_lt (qRm HO_6)) k_ hk⟩));(case aO => exact (qRm HO758));(case aS => exact (below_size (qS HB)));(case aL => have:=LMc12.out;omega);intro v760 w31 ho hb hg hat;rw [← Ny759.out] at ho;replace HO_6:=Aside0.mk (Kd.R_after (ok:=(fun k_ => (w.heap.size ≤ k_))) (qRm HO_6) hg hat);replace HO_7:=Aside0.mk (Kd.V_afterv (ok:=(fun k_ => (w.heap.size ≤ k_) ∧ some k_ ≠ (v747 : Value).ownBlock)) (qVm HO_7) hg hat);replace HB:=Aside0.mk (hb);have HO761:=Aside0.mk (ho);(try clear HO758);clear ho hb hg hat;obtain ⟨Ao33,co33,eo33⟩:=Kd.R_slice HO761.out;subst eo33)|((with_reducible refine gate_callee (f:=111) rfl ?_);refine gL (some 27) Try.func111 #[.slice Ao33 y759.length co33] ?_;(with_reducible refine (sacristyref01_Trim.calls k1 (fun k_ => some k_ = (.slice Ao33 y759.length co33 : Value).ownBlock) _ _ y759 t762 _ ?side1 A13.out).mono ?_);(case side1 => exact Kd.R_V (Kd.R_tight rfl (HO761.out)));rintro e w34 ⟨v763,rfl,ho0,hb⟩;refine ⟨_,rfl,?_⟩;replace HO_7:=qVb HO_7 hb;have HO764:=Aside0.mk (Kd.V_lower (Kd.V_mono (ok':=fun k_ => (w.heap.size ≤ k_) ∧ some k_ ≠ (v747 : Value).ownBlock) ho0 (fun k_ hk_ => ⟨Or.elim hk_ (fun hs_ => ((HO761.out).1 k_ hs_.symm).1) (fun hn_ => (Nat.le_trans (below_size (qS HB)) hn_)),Or.elim hk_ (fun hs_ => ((HO761.out).1 k_ hs_.symm).2) (fun hn_ => (Kd.fresh' (Kd.R_lt (qRm HO_6)) k_ hn_))⟩)) (below_size (qS HB)));replace HO_6:=qRb HO_6 hb;replace HO761:=qRb HO761 hb;replace HB:=qs HB hb;clear hb ho0;obtain ⟨Ao35,co35,eo35⟩:=Kd.V_slice HO764.out;subst eo35)|((with_reducible refine gate_callee (f:=46) rfl ?_);refine gL (some 30) Try.func46 #[.slice Ao35 t762.length co35,.slice A1 l1.length c1] ?_;(with_reducible refine (sacristyref01_Cmp.calls k1 _ _ t762 _ _ l1 t765 _ ?side1 ?side2 ?side3 ?side4 A14.out).mono ?_);(case side1 => exact qCV HO764);(case side2 => exact qL HO764);(case side3 => exact qCB HR1 HB);(case side4 => exact HC1.out);rintro e w' ⟨rfl,⟨nd,rfl⟩⟩;refine ⟨_,rfl,?_⟩))
          go_roundg k1
          case measure => have:=HK1.out;omega
          case rel => exact ⟨(x6_1),(t762),(wrap64 (x8_1 - 1)),(by first|rfl|(simp;done)|(simp [*];done)),H',⟨by have:=HK1.out;omega⟩,⟨qRm HO_6⟩,⟨qVm HO764⟩,⟨qS HB⟩⟩
        ·rw [if_neg c12] at H
         exact absurd H (by simp)
       ·rw [if_neg c11] at H
        exact absurd H (by simp)
      ·rw [if_neg c10] at H
       exact absurd H (by simp)
     ·rw [if_neg c9] at H
      have c9b0 : decide (0 ≤ x8_1) = false:=decide_eq_false c9
      clear c9
      obtain ⟨t752,A36,H⟩:=qH H
      simp only [Option.some.injEq,Prod.mk.injEq] at H
      obtain ⟨rfl,rfl⟩:=H
      obtain ⟨Ao37,co37,eo37⟩:=Kd.R_slice HO_6.out
      subst eo37
      go_wp2_with (first|((with_reducible refine gate_callee (f:=111) rfl ?_);refine gL (some 39) Try.func111 #[.slice Ao37 x6_1.length co37] ?_;(with_reducible refine (sacristyref01_Trim.calls k1 (fun k_ => some k_ = (.slice Ao37 x6_1.length co37 : Value).ownBlock) _ _ x6_1 t752 _ ?side1 A36.out).mono ?_);(case side1 => exact Kd.R_V (Kd.R_tight rfl (HO_6.out)));rintro e w38 ⟨v753,rfl,ho0,hb⟩;refine ⟨_,rfl,?_⟩;replace HO_7:=qVb HO_7 hb;have HO754:=Aside0.mk (Kd.V_lower (Kd.V_mono (ok':=fun k_ => (w.heap.size ≤ k_)) ho0 (fun k_ hk_ => Or.elim hk_ (fun hs_ => ((HO_6.out).1 k_ hs_.symm)) (fun hn_ => (Nat.le_trans (below_size (qS HB)) hn_)))) (below_size (qS HB)));replace HO_6:=qRb HO_6 hb;replace HB:=qs HB hb;clear hb ho0))
      (first|go_ret2|(refine ⟨_,results_tmp2 rfl _ _ _,?_⟩))
      exact ⟨_,_,by first|rfl|(simp [errW_none,errW_some] <;> rfl)|(simp [*,errW_none,errW_some] <;> rfl),qVm HO754,qVm HO_7,qS HB⟩
  ·rw [if_neg c4] at H
   exact absurd H (by simp)
 ·rw [if_neg c3] at H
  exact absurd H (by simp)
end Go.Proofs.Yteejcpbngnojkaa.P
end
section
namespace Go.Proofs.Yteejcpbngnojkaa.P
open Go.RowKit Go.Proofs.YteejcpbngnojkaaW.PrintWords Go.Proofs.YteejcpbngnojkaaW.PrintLast Go.Proofs.YteejcpbngnojkaaW.PrintMore
attribute [local go_sem] max2_int min2_int max_two min_two max_three min_three max_four min_four
set_option linter.unusedVariables false
set_option linter.unusedSimpArgs false
def sacristyref01_Gcd.l0 : Nat → List Bool → List Bool → Option (List Bool)
 |0,_,_ => none
 |k + 1,x0,x1 => if (x1.length : Int) > 0 then ((sacristyref01_Div.f k x0 x1).bind fun bt770 => (sacristyref01_Gcd.l0 k x1 bt770.2)) else (some x0)
def sacristyref01_Gcd.f (k : Nat) (l0 : List Bool) (l1 : List Bool) : Option (List Bool):=sacristyref01_Gcd.l0 k l0 l1
theorem sacristyref01_Gcd.mono_l : ∀ k,(∀ y0 y1,LeO (sacristyref01_Gcd.l0 k y0 y1) (sacristyref01_Gcd.l0 (k + 1) y0 y1))
 |0 => fun _ _ r h => by simp [sacristyref01_Gcd.l0] at h
 |k + 1 => by
  have ih0:=sacristyref01_Gcd.mono_l k
  ·intro y0 y1
   unfold sacristyref01_Gcd.l0
   repeat' first
   |(with_reducible exact ih0 _ _)
   |(with_reducible exact sacristyref01_Div.mono _ _ _)
   |(with_reducible exact LeO.refl _)
   |(with_reducible exact LeO.none _)
   |(with_reducible refine LeO.ite ?_ ?_)
   |(with_reducible refine LeO.bind ?_ (fun _ => ?_))
   |exact ih0 _ _
   |exact sacristyref01_Div.mono _ _ _
   |exact LeO.none _
   |refine LeO.ite ?_ ?_
   |refine LeO.bind ?_ (fun _ => ?_)
theorem sacristyref01_Gcd.mono : ∀ a0 a1 k,LeO (sacristyref01_Gcd.f k a0 a1) (sacristyref01_Gcd.f (k + 1) a0 a1):=by
 intro a0 a1 k
 have ih0:=sacristyref01_Gcd.mono_l k
 unfold sacristyref01_Gcd.f
 repeat' first
   |(with_reducible exact ih0 _ _)
   |(with_reducible exact sacristyref01_Div.mono _ _ _)
   |(with_reducible exact LeO.refl _)
   |(with_reducible exact LeO.none _)
   |(with_reducible refine LeO.ite ?_ ?_)
   |(with_reducible refine LeO.bind ?_ (fun _ => ?_))
   |exact ih0 _ _
   |exact sacristyref01_Div.mono _ _ _
   |exact LeO.none _
   |refine LeO.ite ?_ ?_
   |refine LeO.bind ?_ (fun _ => ?_)
set_option maxHeartbeats 8000000 in
set_option maxRecDepth 100000 in
theorem sacristyref01_Gcd.calls (k : Nat) (P0_ : Nat → Prop) (A0 : Option Addr) (c0 : Nat) (l0 : List Bool) (P1_ : Nat → Prop) (A1 : Option Addr) (c1 : Nat) (l1 : List Bool) (r : List Bool) (w : World) (hs0 : Kd.V Kd.bool 4 w w.heap.size (fun k_ => P0_ k_) (.slice A0 l0.length c0) l0) (hs1 : Kd.V Kd.bool 4 w w.heap.size (fun k_ => P1_ k_) (.slice A1 l1.length c1) l1) (h : sacristyref01_Gcd.f k l0 l1 = some r) :
  Calls Try.prog 52 #[.slice A0 l0.length c0,.slice A1 l1.length c1] w fun e w' => ∃ v0_ : Value,e = .returned (v0_) ∧ Kd.V Kd.bool 4 w' w.heap.size (fun k_ => ((P0_ k_ ∨ P1_ k_) ∨ w.heap.size ≤ k_)) v0_ r ∧ Below w.heap.size w w':=by
 have HO0:=Aside0.mk (show Kd.V Kd.bool 4 w w.heap.size (fun k_ => ((P0_ k_ ∨ P1_ k_) ∨ w.heap.size ≤ k_)) (.slice A0 l0.length c0) l0 from Kd.V_mono hs0 (fun k_ hk => .inl (.inl hk)))
 have HO1:=Aside0.mk (show Kd.V Kd.bool 4 w w.heap.size (fun k_ => ((P0_ k_ ∨ P1_ k_) ∨ w.heap.size ≤ k_)) (.slice A1 l1.length c1) l1 from Kd.V_mono hs1 (fun k_ hk => .inl (.inr hk)))
 have HB:=Aside0.mk (Below.refl w.heap.size w)
 have H : (sacristyref01_Gcd.l0 k l0 l1) = some r:=h
 clear h
 have H':=Aside0.mk H
 clear H
 go_enter Try.func52,Try.ntmps52
 go_wp2
 go_loopg [0,1] k (fun kq v0 v1 w' => ∃ (x0_1 : List Bool) (x1_1 : List Bool),Aside0 (sacristyref01_Gcd.l0 kq x0_1 x1_1 = some r) ∧ Aside0 (kq ≤ k) ∧ Aside0 (Kd.V Kd.bool 4 w' w.heap.size (fun k_ => ((P0_ k_ ∨ P1_ k_) ∨ w.heap.size ≤ k_)) v0 x0_1) ∧ Aside0 (Kd.V Kd.bool 4 w' w.heap.size (fun k_ => ((P0_ k_ ∨ P1_ k_) ∨ w.heap.size ≤ k_)) v1 x1_1) ∧ Aside0 (Below w.heap.size w w'))
 case atStart => exact ⟨(l0),(l1),H',⟨Nat.le_refl _⟩,⟨qVm HO0⟩,⟨qVm HO1⟩,⟨qS HB⟩⟩
 case round =>
  clear H'
  try clear c1
  try clear p2
  obtain ⟨x0_1,x1_1,HA,HK1,HO_0,HO_1,HB⟩:=hrel
  cases gk with
  |zero => exact absurd HA.out (by simp [sacristyref01_Gcd.l0])
  |succ k1 =>
   have H:=HA.out
   clear HA
   simp only [sacristyref01_Gcd.l0] at H
   by_cases c3 : (x1_1.length : Int) > 0
   ·rw [if_pos c3] at H
    have c3b0 : decide (0 < (x1_1.length : Int)) = true:=decide_eq_true c3
    have c3b1 : decide (0 < x1_1.length) = true:=decide_eq_true (by omega)
    clear c3
    obtain ⟨⟨t770,t773⟩,A4,H⟩:=qH H
    dsimp only at H
    have H':=Aside0.mk H
    clear H
    obtain ⟨Ao5,co5,eo5⟩:=Kd.V_slice HO_1.out
    subst eo5
    obtain ⟨Ao6,co6,eo6⟩:=Kd.V_slice HO_0.out
    subst eo6
    go_wp2_with (first|((with_reducible refine gate_callee (f:=59) rfl ?_);refine gL (some 13) Try.func59 #[.slice Ao6 x0_1.length co6,.slice Ao5 x1_1.length co5] ?_;(with_reducible refine (sacristyref01_Div.calls k1 _ _ x0_1 _ _ x1_1 t770 t773 _ ?side1 ?side2 ?side3 ?side4 A4.out).mono ?_);(case side1 => exact qCV HO_0);(case side2 => exact qL HO_0);(case side3 => exact qCV HO_1);(case side4 => exact qL HO_1);rintro e w7 ⟨v771,v774,rfl,ho0,ho1,hb⟩;refine ⟨_,rfl,?_⟩;replace HO_0:=qVb HO_0 hb;replace HO_1:=qVb HO_1 hb;have HO772:=Aside0.mk (Kd.V_lower (Kd.V_mono (ok':=fun k_ => ((P0_ k_ ∨ P1_ k_) ∨ w.heap.size ≤ k_)) ho0 (fun k_ hk_ => (.inr (Nat.le_trans (below_size (qS HB)) hk_)))) (below_size (qS HB)));have HO775:=Aside0.mk (Kd.V_lower (Kd.V_mono (ok':=fun k_ => ((P0_ k_ ∨ P1_ k_) ∨ w.heap.size ≤ k_)) ho1 (fun k_ hk_ => (.inr (Nat.le_trans (below_size (qS HB)) hk_)))) (below_size (qS HB)));replace HB:=qs HB hb;clear hb ho0 ho1))
    go_roundg k1
    case measure => have:=HK1.out;omega
    case rel => exact ⟨(x1_1),(t773),H',⟨by have:=HK1.out;omega⟩,⟨qVm HO_1⟩,⟨qVm HO775⟩,⟨qS HB⟩⟩
   ·rw [if_neg c3] at H
    have c3b0 : decide (0 < (x1_1.length : Int)) = false:=decide_eq_false c3
    have c3b1 : decide (0 < x1_1.length) = false:=decide_eq_false (by omega)
    clear c3
    obtain rfl:=Option.some.inj H
    obtain ⟨Ao8,co8,eo8⟩:=Kd.V_slice HO_1.out
    subst eo8
    go_wp2
    (first|go_ret|(refine ⟨_,results_tmp rfl _ _ _,?_⟩))
    exact ⟨_,by first|rfl|(simp [errW_none,errW_some] <;> rfl)|(simp [*,errW_none,errW_some] <;> rfl),qVm HO_0,qS HB⟩
end Go.Proofs.Yteejcpbngnojkaa.P
end
section
namespace Go.Proofs.Yteejcpbngnojkaa.P
open Go.RowKit Go.Proofs.YteejcpbngnojkaaW.PrintWords Go.Proofs.YteejcpbngnojkaaW.PrintLast Go.Proofs.YteejcpbngnojkaaW.PrintMore
attribute [local go_sem] max2_int min2_int max_two min_two max_three min_three max_four min_four
set_option linter.unusedVariables false
set_option linter.unusedSimpArgs false
def sacristylaw01_NatGcds.f (k : Nat) (l0 : List Int) (l1 : List Int) : Option (Bool):=(sacristylaw01_lives.f k).bind fun t776 => (if t776 = true then (if 0 ≤ (mn (l0.length : Int) 24) then (if (mn (l0.length : Int) 24) ≤ (l0.length : Int) then (if 0 ≤ (mn (l1.length : Int) 24) then (if (mn (l1.length : Int) 24) ≤ (l1.length : Int) then ((sacristylaw01_Num.f k (l0.take ((mn (l0.length : Int) 24) : Int).toNat)).bind fun t779 => ((sacristylaw01_Num.f k (l1.take ((mn (l1.length : Int) 24) : Int).toNat)).bind fun t782 => ((nat_Nat_Gcd.f k t779 t782).bind fun t787 => ((sacristylaw01_ref.f k (l0.take ((mn (l0.length : Int) 24) : Int).toNat)).bind fun t791 => ((sacristylaw01_ref.f k (l1.take ((mn (l1.length : Int) 24) : Int).toNat)).bind fun t794 => ((sacristyref01_Gcd.f k t791 t794).bind fun t797 => ((sacristylaw01_Same.f k t787 t797).bind fun t800 => (if t800 = true then ((nat_Nat_Zero.f t787).bind fun t801 => (if t801 = true then ((nat_Nat_Zero.f t779).bind fun t802 => (if t802 = true then ((nat_Nat_Zero.f t782).bind fun t803 => (some t803)) else (none))) else ((nat_Nat_Div.f k t779 t787).bind fun bt804 => ((nat_Nat_Div.f k t782 t787).bind fun bt813 => ((nat_Nat_Zero.f bt804.2.1).bind fun t822 => (if t822 = true then ((nat_Nat_Zero.f bt813.2.1).bind fun t823 => (some t823)) else (none))))))) else (none))))))))) else (none)) else (none)) else (none)) else (none)) else (none))
theorem sacristylaw01_NatGcds.mono : ∀ a0 a1 k,LeO (sacristylaw01_NatGcds.f k a0 a1) (sacristylaw01_NatGcds.f (k + 1) a0 a1):=by
 intro a0 a1 k
 unfold sacristylaw01_NatGcds.f
 repeat' first
   |(with_reducible exact nat_Nat_Div.mono _ _ _)
   |(with_reducible exact nat_Nat_Gcd.mono _ _ _)
   |(with_reducible exact sacristylaw01_Num.mono _ _)
   |(with_reducible exact sacristylaw01_Same.mono _ _ _)
   |(with_reducible exact sacristylaw01_lives.mono _)
   |(with_reducible exact sacristylaw01_ref.mono _ _)
   |(with_reducible exact sacristyref01_Gcd.mono _ _ _)
   |(with_reducible exact LeO.refl _)
   |(with_reducible exact LeO.none _)
   |(with_reducible refine LeO.ite ?_ ?_)
   |(with_reducible refine LeO.bind ?_ (fun _ => ?_))
   |exact nat_Nat_Div.mono _ _ _
   |exact nat_Nat_Gcd.mono _ _ _
   |exact sacristylaw01_Num.mono _ _
   |exact sacristylaw01_Same.mono _ _ _
   |exact sacristylaw01_lives.mono _
   |exact sacristylaw01_ref.mono _ _
   |exact sacristyref01_Gcd.mono _ _ _
   |exact LeO.none _
   |refine LeO.ite ?_ ?_
   |refine LeO.bind ?_ (fun _ => ?_)
def sacristylaw01_NatGcds.T3 : Bool × List (List Nat × List Nat):=(true,[([],[]),([],[]),([1],[1]),([2],[2]),([0,3],[0,3]),([],[]),([],[]),([6],[6]),([7],[7]),([5,8],[5,8]),([4,0,1,2,3,4],[0,1,4]),([9,10,0,1,2,3,4,5,6,7,8,9,10],[5,6,9])])
def sacristylaw01_NatGcds.B3 : List Nat:=[0,0,2,6,15,0,0,64,192,480,31,2047]
theorem sacristylaw01_NatGcds.tab3 : rtab .any (opsOf Try.f10 3) = sacristylaw01_NatGcds.T3:=by kernel_rfl
theorem sacristylaw01_NatGcds.bits3 : waitsOk sacristylaw01_NatGcds.T3.2 sacristylaw01_NatGcds.B3 = true:=by kernel_rfl
def sacristylaw01_NatGcds.T6 : Bool × List (List Nat × List Nat):=(true,[([],[]),([],[]),([1],[1]),([],[]),([3,2],[3]),([2,4,4],[2,4]),([0,5,5],[0,5]),([6],[6])])
def sacristylaw01_NatGcds.B6 : List Nat:=[0,0,2,0,14,30,63,127]
theorem sacristylaw01_NatGcds.tab6 : rtab .any (opsOf Try.f10 6) = sacristylaw01_NatGcds.T6:=by kernel_rfl
theorem sacristylaw01_NatGcds.bits6 : waitsOk sacristylaw01_NatGcds.T6.2 sacristylaw01_NatGcds.B6 = true:=by kernel_rfl
set_option maxHeartbeats 8000000 in
set_option maxRecDepth 100000 in
theorem sacristylaw01_NatGcds.calls (k : Nat) (A0 : Option Addr) (c0 : Nat) (l0 : List Int) (A1 : Option Addr) (c1 : Nat) (l1 : List Int) (r : Bool) (w : World) (hr0 : Kd.C (Kd.int .u8) w A0 l0.length l0) (hc0 : l0.length ≤ c0) (hr1 : Kd.C (Kd.int .u8) w A1 l1.length l1) (hc1 : l1.length ≤ c1) (h : sacristylaw01_NatGcds.f k l0 l1 = some r) :
  Calls Try.prog 10 #[.slice A0 l0.length c0,.slice A1 l1.length c1] w fun e w' => e = .returned (.bool r) ∧ Below w.heap.size w w':=by
 have hu38:=Try.underlying38
 have HR0:=Aside0.mk hr0
 have HC0:=Aside0.mk hc0
 clear hr0 hc0
 have HR1:=Aside0.mk hr1
 have HC1:=Aside0.mk hc1
 clear hr1 hc1
 have HB:=Aside0.mk (Below.refl w.heap.size w)
 have H : ((sacristylaw01_lives.f k).bind fun t776 => (if t776 = true then (if 0 ≤ (mn (l0.length : Int) 24) then (if (mn (l0.length : Int) 24) ≤ (l0.length : Int) then (if 0 ≤ (mn (l1.length : Int) 24) then (if (mn (l1.length : Int) 24) ≤ (l1.length : Int) then ((sacristylaw01_Num.f k (l0.take ((mn (l0.length : Int) 24) : Int).toNat)).bind fun t779 => ((sacristylaw01_Num.f k (l1.take ((mn (l1.length : Int) 24) : Int).toNat)).bind fun t782 => ((nat_Nat_Gcd.f k t779 t782).bind fun t787 => ((sacristylaw01_ref.f k (l0.take ((mn (l0.length : Int) 24) : Int).toNat)).bind fun t791 => ((sacristylaw01_ref.f k (l1.take ((mn (l1.length : Int) 24) : Int).toNat)).bind fun t794 => ((sacristyref01_Gcd.f k t791 t794).bind fun t797 => ((sacristylaw01_Same.f k t787 t797).bind fun t800 => (if t800 = true then ((nat_Nat_Zero.f t787).bind fun t801 => (if t801 = true then ((nat_Nat_Zero.f t779).bind fun t802 => (if t802 = true then ((nat_Nat_Zero.f t782).bind fun t803 => (some t803)) else (none))) else ((nat_Nat_Div.f k t779 t787).bind fun bt804 => ((nat_Nat_Div.f k t782 t787).bind fun bt813 => ((nat_Nat_Zero.f bt804.2.1).bind fun t822 => (if t822 = true then ((nat_Nat_Zero.f bt813.2.1).bind fun t823 => (some t823)) else (none))))))) else (none))))))))) else (none)) else (none)) else (none)) else (none)) else (none))) = some r:=h
 clear h
 obtain ⟨t776,A3,H⟩:=qH H
 by_cases c4 : t776 = true
 ·subst c4
  rw [if_pos rfl] at H
  obtain ⟨ji5,hji5⟩ : ∃ j_ : Int,(mn (l0.length : Int) 24) = j_:=⟨_,rfl⟩
  (first|rw [hji5] at H|simp only [hji5] at H)
  (try rw [hji5] at A3)
  (try (have hji5h : ji5 ≤ 24:=by (rw [← hji5];unfold mn;(repeat' split) <;> omega)))
  (try (have hji5g : ji5 ≤ 64:=by omega))
  (try (have hji5l : 0 ≤ ji5:=by (rw [← hji5];unfold mn;(repeat' split) <;> omega)))
  (try (have hji5m : 0 ≤ ji5:=by omega))
  have hji5_ : (if 24 < (l0.length : Int) then 24 else (l0.length : Int)) = ji5:=hji5
  by_cases c6 : 0 ≤ (ji5)
  ·rw [if_pos c6] at H
   have c6b0:=eq_true c6
   have c6b1 : decide (0 ≤ (ji5)) = true:=decide_eq_true c6
   clear c6
   by_cases c7 : (ji5) ≤ (l0.length : Int)
   ·rw [if_pos c7] at H
    have c7b0:=eq_true c7
    have c7b1 : decide ((ji5) ≤ (l0.length : Int)) = true:=decide_eq_true c7
    clear c7
    obtain ⟨ji8,hji8⟩ : ∃ j_ : Int,(mn (l1.length : Int) 24) = j_:=⟨_,rfl⟩
    (first|rw [hji8] at H|simp only [hji8] at H)
    (try rw [hji8] at A3)
    (try (have hji8h : ji8 ≤ 24:=by (rw [← hji8];unfold mn;(repeat' split) <;> omega)))
    (try (have hji8g : ji8 ≤ 64:=by omega))
    (try (have hji8l : 0 ≤ ji8:=by (rw [← hji8];unfold mn;(repeat' split) <;> omega)))
    (try (have hji8m : 0 ≤ ji8:=by omega))
    have hji8_ : (if 24 < (l1.length : Int) then 24 else (l1.length : Int)) = ji8:=hji8
    by_cases c9 : 0 ≤ (ji8)
    ·rw [if_pos c9] at H
     have c9b0:=eq_true c9
     have c9b1 : decide (0 ≤ (ji8)) = true:=decide_eq_true c9
     clear c9
     by_cases c10 : (ji8) ≤ (l1.length : Int)
     ·rw [if_pos c10] at H
      have c10b0:=eq_true c10
      have c10b1 : decide ((ji8) ≤ (l1.length : Int)) = true:=decide_eq_true c10
      clear c10
      obtain ⟨t779,A11,H⟩:=qH H
      obtain ⟨t782,A12,H⟩:=qH H
      obtain ⟨t787,A13,H⟩:=qH H
      obtain ⟨t791,A14,H⟩:=qH H
      obtain ⟨t794,A15,H⟩:=qH H
      obtain ⟨t797,A16,H⟩:=qH H
      obtain ⟨t800,A17,H⟩:=qH H
      by_cases c18 : t800 = true
      ·subst c18
       rw [if_pos rfl] at H
       obtain ⟨t801,A19,H⟩:=qH H
       by_cases c20 : t801 = true
       ·subst c20
        rw [if_pos rfl] at H
        obtain ⟨t802,A21,H⟩:=qH H
        by_cases c22 : t802 = true
        ·subst c22
         rw [if_pos rfl] at H
         obtain ⟨t803,A23,H⟩:=qH H
         obtain rfl:=Option.some.inj H
         go_enter Try.func10,Try.ntmps10
         try go_wp2_with (first|((with_reducible refine gate_callee (f:=34) rfl ?_);refine gL (some 14) Try.func34 #[] ?_;(with_reducible refine (sacristylaw01_lives.calls k  true _ A3.out).mono ?_);rintro e w24 ⟨rfl,hb⟩;refine ⟨_,rfl,?_⟩;replace HB:=qs HB hb;clear hb))
         replace HB:=qsd HB
         obtain ⟨i026,hi026,_,hsz26,_⟩:=info_parts info5
         obtain ⟨hcut26,hA26,hC26⟩:=print_take_of (P:=Try.prog) (Value.int .u8) 0 22 5 .i64 Try.underlying22 hi026 hsz26 A0 c0 l0 (ji5) (od) (od) HC0.out
         have HR777:=Aside0.mk (Kd.C_of_reads (h1:=fun _ => rfl) (hA26 _ (Kd.reads_of_C HR0.out)))
         have HC777:=Aside0.mk hC26
         clear hA26 hC26 hi026 hsz26
         obtain ⟨i027,hi027,_,hsz27,_⟩:=info_parts info5
         obtain ⟨hcut27,hA27,hC27⟩:=print_take_of (P:=Try.prog) (Value.int .u8) 0 22 5 .i64 Try.underlying22 hi027 hsz27 A1 c1 l1 (ji8) (od) (od) HC1.out
         have HR778:=Aside0.mk (Kd.C_of_reads (h1:=fun _ => rfl) (hA27 _ (Kd.reads_of_C HR1.out)))
         have HC778:=Aside0.mk hC27
         clear hA27 hC27 hi027 hsz27
         refine start_ (n:=12) (S:=fun w' => True) (ds:=[]) #[false,false,false,false,false,false,false,false,false,false,false,false] (by kernel_rfl) rfl rfl trivial (fun hHeld => ?_);refine with_tabW sacristylaw01_NatGcds.tab3 sacristylaw01_NatGcds.bits3 (fun HT_ HW_ => ?_)
         generalize w24.drew = w25 at HB HR777 HR778 hHeld ⊢
         refine qP 0 16 HT_ ?_
         refine qP 1 17 HT_ ?_
         refine qP 2 18 HT_ ?_
         refine qP 3 19 HT_ ?_
         refine qP 4 20 HT_ ?_
         refine qP 5 21 HT_ ?_
         refine qP 6 22 HT_ ?_
         refine qP 7 23 HT_ ?_
         refine qP 8 24 HT_ ?_
         refine qP 9 25 HT_ ?_
         refine qP 10 0 HT_ ?_
         refine qP 11 1 HT_ ?_
         refine qD HT_ ?_
         try go_wp2_with (first|((with_reducible refine gate_callee (f:=40) rfl ?_);refine goesL_ (some 27) rfl rfl Try.func40 (by kernel_rfl) rfl #[.slice A0 (l0.take ((ji5) : Int).toNat).length c0] rfl (by (try simp only [List.map_toArray,List.map_cons,List.map_nil]);first|done|(rw [show (l0.take ((ji5) : Int).toNat).length = (ji5).toNat from (by rw [List.length_take];have h_ : ((ji5) : Int) ≤ (l0.length : Int):=od;omega)] <;> rfl)|(simp only [hji5];rfl)|rfl|(simp only [List.length_drop,List.length_take];rfl)) ?_;(with_reducible refine (sacristylaw01_Num.calls k _ _ (l0.take ((ji5) : Int).toNat) t779 _ ?side1 ?side2 A11.out).mono ?_);(case side1 => exact qCB HR777 HB);(case side2 => exact HC777.out);rintro e w28 ⟨v780,rfl,ho0,hb⟩;refine ⟨_,rfl,?_⟩;have HO781:=Aside0.mk (Kd.V_lower (Kd.V_mono (ok':=fun k_ => True) ho0 (fun k_ hk_ => trivial)) (below_size (qS HB)));replace HB:=qs HB hb;clear hb ho0)|((with_reducible refine gate_callee (f:=40) rfl ?_);refine goesL_ (some 29) rfl rfl Try.func40 (by kernel_rfl) rfl #[.slice A1 (l1.take ((ji8) : Int).toNat).length c1] rfl (by (try simp only [List.map_toArray,List.map_cons,List.map_nil]);first|done|(rw [show (l1.take ((ji8) : Int).toNat).length = (ji8).toNat from (by rw [List.length_take];have h_ : ((ji8) : Int) ≤ (l1.length : Int):=od;omega)] <;> rfl)|(simp only [hji8];rfl)|rfl|(simp only [List.length_drop,List.length_take];rfl)) ?_;(with_reducible refine (sacristylaw01_Num.calls k _ _ (l1.take ((ji8) : Int).toNat) t782 _ ?side1 ?side2 A12.out).mono ?_);(case side1 => exact qCB HR778 HB);(case side2 => exact HC778.out);rintro e w29 ⟨v783,rfl,ho0,hb⟩;refine ⟨_,rfl,?_⟩;replace HO781:=qVb HO781 hb;have HO784:=Aside0.mk (Kd.V_lower (Kd.V_mono (ok':=fun k_ => True) ho0 (fun k_ hk_ => trivial)) (below_size (qS HB)));replace HB:=qs HB hb;clear hb ho0)|((with_reducible refine gate_dst (N:=5) rfl ?_);refine qX #[.slice none 0 0] 38 ?_;intro gb785 hg w30 hbox hb;replace HO781:=qVe HO781 hb hg;replace HO784:=qVe HO784 hb hg;have BK785:=Aside0.mk hbox;have GE785:=qh hg HB;replace HB:=qs HB hb;clear hb hbox hg)|((with_reducible refine gate_dst (N:=6) rfl ?_);refine qX #[.slice none 0 0] 38 ?_;intro gb786 hg w31 hbox hb;replace HO781:=qVe HO781 hb hg;replace HO784:=qVe HO784 hb hg;have BK786:=Aside0.mk hbox;have GE786:=qh hg HB;replace HB:=qs HB hb;have NB785_786:=ql hg BK785;have NB786_785:=qg hg BK785;replace BK785:=qb BK785 hb;clear hb hbox hg;obtain ⟨Ao32,co32,eo32⟩:=Kd.V_slice HO781.out;subst eo32;have hnb33:=NB785_786.out;have hnc33:=NB786_785.out;have hcz34_0:=bc BK785;have hfz34_0:=bz BK785)|((with_reducible refine gate_store (t:=38) (p:=5) rfl ?_);refine qSt (w31.setCell ⟨gb785,0,none⟩ (.slice Ao32 t779.length co32)) ?_;intro w35 hw;replace HO781:=qVh hw HO781;replace HO784:=qVh hw HO784;replace BK785:=qBp hw BK785;replace BK786:=qBh hw BK786;replace HB:=qSh hw HB;(try clear hw);obtain ⟨Ao36,co36,eo36⟩:=Kd.V_slice HO784.out;subst eo36;have hcz37_0:=bc BK786;have hfz37_0:=bz BK786)|((with_reducible refine gate_store (t:=38) (p:=6) rfl ?_);refine qSt (w35.setCell ⟨gb786,0,none⟩ (.slice Ao36 t782.length co36)) ?_;intro w38 hw;replace HO781:=qVh hw HO781;replace HO784:=qVh hw HO784;replace BK785:=qBh hw BK785;replace BK786:=qBp hw BK786;replace HB:=qSh hw HB;(try clear hw);have hcz39_0:=bc BK785;have hfz39_0:=bz BK785;have hcz40_0:=bc BK786;have hfz40_0:=bz BK786)|((with_reducible refine gate_callee (f:=51) rfl ?_);refine gL (some 32) Try.func51 #[.agg #[.slice Ao32 t779.length co32],.agg #[.slice Ao36 t782.length co36]] ?_;(with_reducible refine (nat_Nat_Gcd.calls k (fun k_ => (k_ ≠ gb785 ∧ k_ ≠ gb786)) _ _ t779 (fun k_ => (k_ ≠ gb785 ∧ k_ ≠ gb786)) _ _ t782 t787 _ ?side1 ?side2 A13.out).mono ?_);(case side1 => first|exact HO781.out|exact qVm HO781);(case side2 => first|exact HO784.out|exact qVm HO784);rintro e w41 ⟨v788,rfl,ho0,hb⟩;refine ⟨_,rfl,?_⟩;replace HO781:=qVb HO781 hb;replace HO784:=qVb HO784 hb;have HO789:=Aside0.mk (Kd.V_lower (Kd.V_mono (ok':=fun k_ => k_ ≠ gb785 ∧ k_ ≠ gb786) ho0 (fun k_ hk_ => ⟨Or.elim hk_ (fun hs_ => Or.elim hs_ (fun hs_ => hs_.1) (fun hs_ => hs_.1)) (fun hn_ => (Kd.freshB (qB BK785.out) k_ hn_)),Or.elim hk_ (fun hs_ => Or.elim hs_ (fun hs_ => hs_.2) (fun hs_ => hs_.2)) (fun hn_ => (Kd.freshB (qB BK786.out) k_ hn_))⟩)) (below_size (qS HB)));replace BK785:=qb BK785 hb;replace BK786:=qb BK786 hb;replace HB:=qs HB hb;clear hb ho0)|((with_reducible refine gate_dst (N:=7) rfl ?_);refine qX #[.slice none 0 0] 38 ?_;intro gb790 hg w42 hbox hb;replace HO781:=qVe HO781 hb hg;replace HO784:=qVe HO784 hb hg;replace HO789:=qVe HO789 hb hg;have BK790:=Aside0.mk hbox;have GE790:=qh hg HB;replace HB:=qs HB hb;have NB785_790:=ql hg BK785;have NB790_785:=qg hg BK785;replace BK785:=qb BK785 hb;have NB786_790:=ql hg BK786;have NB790_786:=qg hg BK786;replace BK786:=qb BK786 hb;clear hb hbox hg;obtain ⟨Ao43,co43,eo43⟩:=Kd.V_slice HO789.out;subst eo43;have hnb44:=NB790_785.out;have hnc44:=NB785_790.out;have hnb45:=NB790_786.out;have hnc45:=NB786_790.out;have hcz46_0:=bc BK790;have hfz46_0:=bz BK790))
         generalize hw : (w42.setCell ⟨gb790,0,none⟩ (.slice Ao43 t787.length co43)) = w47
         replace hw:=hw.symm
         replace HO781:=qVh hw HO781
         replace HO784:=qVh hw HO784
         replace HO789:=qVh hw HO789
         replace BK785:=qBh hw BK785
         replace BK786:=qBh hw BK786
         replace BK790:=qBp hw BK790
         replace HB:=qSh hw HB
         clear hw
         replace HO781:=qVw HO781
         replace HO784:=qVw HO784
         replace HO789:=qVw HO789
         replace BK785:=qbd BK785
         replace BK786:=qbd BK786
         replace BK790:=qbd BK790
         replace HB:=qsd HB
         refine start_ (n:=8) (S:=fun w' => w'.cell? ⟨gb790,0,none⟩ = some (.slice Ao43 t787.length co43)) (ds:=[]) #[false,false,false,false,false,false,false,false] (by kernel_rfl) rfl rfl (bc BK790) (fun hHeld => ?_);refine with_tabW sacristylaw01_NatGcds.tab6 sacristylaw01_NatGcds.bits6 (fun HT_ HW_ => ?_)
         generalize w47.drew = w48 at HO781 HO784 HO789 BK785 BK786 BK790 HB hHeld ⊢
         refine qP 1 34 HT_ ?_
         refine qP 3 36 HT_ ?_
         refine qT 0 33 HT_ HW_ hHeld ?_
         refine q1 2 (some 35) HT_ rfl (fun K hK => ?_)
         refine goes_ Try.func41 (by kernel_rfl) rfl #[.slice A0 (l0.take ((ji5) : Int).toNat).length c0] (by rfl) rfl rfl (by (try simp only [List.map_toArray,List.map_cons,List.map_nil]);first|done|(rw [show (l0.take ((ji5) : Int).toNat).length = (ji5).toNat from (by rw [List.length_take];have h_ : ((ji5) : Int) ≤ (l0.length : Int):=od;omega)] <;> rfl)|(simp only [hji5];rfl)|rfl|(simp only [List.length_drop,List.length_take];rfl)) ?_
         with_reducible refine (sacristylaw01_ref.calls k _ _ (l0.take ((ji5) : Int).toNat) t791 _ ?side1 ?side2 A14.out).mono ?_
         (case side1 => exact qCB HR777 HB)
         (case side2 => exact HC777.out)
         rintro e w49 ⟨v792,rfl,ho0,hb⟩
         refine ⟨_,rfl,?_⟩
         replace HO781:=qVb HO781 hb
         replace HO784:=qVb HO784 hb
         replace HO789:=qVb HO789 hb
         have HO793:=Aside0.mk (Kd.V_lower (Kd.V_mono (ok':=fun k_ => k_ ≠ gb785 ∧ k_ ≠ gb786 ∧ k_ ≠ gb790) ho0 (fun k_ hk_ => ⟨(Kd.freshB (qB BK785.out) k_ hk_),(Kd.freshB (qB BK786.out) k_ hk_),(Kd.freshB (qB BK790.out) k_ hk_)⟩)) (below_size (qS HB)))
         replace BK785:=qb BK785 hb
         replace BK786:=qb BK786 hb
         replace BK790:=qb BK790 hb
         replace HB:=qs HB hb
         clear hb ho0
         refine hK.out _ _ (bc BK790) (fun hHeld => ?_)
         clear hK K
         refine qO 35 ?_
         refine q1 4 (some 37) HT_ rfl (fun K hK => ?_)
         refine goes_ Try.func41 (by kernel_rfl) rfl #[.slice A1 (l1.take ((ji8) : Int).toNat).length c1] (by rfl) rfl rfl (by (try simp only [List.map_toArray,List.map_cons,List.map_nil]);first|done|(rw [show (l1.take ((ji8) : Int).toNat).length = (ji8).toNat from (by rw [List.length_take];have h_ : ((ji8) : Int) ≤ (l1.length : Int):=od;omega)] <;> rfl)|(simp only [hji8];rfl)|rfl|(simp only [List.length_drop,List.length_take];rfl)) ?_
         with_reducible refine (sacristylaw01_ref.calls k _ _ (l1.take ((ji8) : Int).toNat) t794 _ ?side1 ?side2 A15.out).mono ?_
         (case side1 => exact qCB HR778 HB)
         (case side2 => exact HC778.out)
         rintro e w50 ⟨v795,rfl,ho0,hb⟩
         refine ⟨_,rfl,?_⟩
         replace HO781:=qVb HO781 hb
         replace HO784:=qVb HO784 hb
         replace HO789:=qVb HO789 hb
         replace HO793:=qVb HO793 hb
         have HO796:=Aside0.mk (Kd.V_lower (Kd.V_mono (ok':=fun k_ => k_ ≠ gb785 ∧ k_ ≠ gb786 ∧ k_ ≠ gb790) ho0 (fun k_ hk_ => ⟨(Kd.freshB (qB BK785.out) k_ hk_),(Kd.freshB (qB BK786.out) k_ hk_),(Kd.freshB (qB BK790.out) k_ hk_)⟩)) (below_size (qS HB)))
         replace BK785:=qb BK785 hb
         replace BK786:=qb BK786 hb
         replace BK790:=qb BK790 hb
         replace HB:=qs HB hb
         clear hb ho0
         obtain ⟨Ao51,co51,eo51⟩:=Kd.V_slice HO793.out
         (first|subst eo51|(injection eo51 with f1_ f2_ f3_;have f4_:=f1_.symm;have f5_:=f3_.symm;clear f1_ f2_ f3_;subst f4_;subst f5_))
         obtain ⟨Ao52,co52,eo52⟩:=Kd.V_slice HO796.out
         (first|subst eo52|(injection eo52 with f1_ f2_ f3_;have f4_:=f1_.symm;have f5_:=f3_.symm;clear f1_ f2_ f3_;subst f4_;subst f5_))
         refine hK.out _ _ (bc BK790) (fun hHeld => ?_)
         clear hK K
         refine qO 37 ?_
         refine q1 5 (some 38) HT_ rfl (fun K hK => ?_)
         refine g_ Try.func52 #[.slice Ao51 t791.length co51,.slice Ao52 t794.length co52] ?_
         with_reducible refine (sacristyref01_Gcd.calls k (fun k_ => (k_ ≠ gb785 ∧ (k_ ≠ gb786 ∧ k_ ≠ gb790))) _ _ t791 (fun k_ => (k_ ≠ gb785 ∧ (k_ ≠ gb786 ∧ k_ ≠ gb790))) _ _ t794 t797 _ ?side1 ?side2 A16.out).mono ?_
         (case side1 => first|exact HO793.out|exact qVm HO793)
         (case side2 => first|exact HO796.out|exact qVm HO796)
         rintro e w53 ⟨v798,rfl,ho0,hb⟩
         refine ⟨_,rfl,?_⟩
         replace HO781:=qVb HO781 hb
         replace HO784:=qVb HO784 hb
         replace HO789:=qVb HO789 hb
         replace HO793:=qVb HO793 hb
         replace HO796:=qVb HO796 hb
         have HO799:=Aside0.mk (Kd.V_lower (Kd.V_mono (ok':=fun k_ => k_ ≠ gb785 ∧ k_ ≠ gb786 ∧ k_ ≠ gb790) ho0 (fun k_ hk_ => ⟨Or.elim hk_ (fun hs_ => Or.elim hs_ (fun hs_ => hs_.1) (fun hs_ => hs_.1)) (fun hn_ => (Kd.freshB (qB BK785.out) k_ hn_)),Or.elim hk_ (fun hs_ => Or.elim hs_ (fun hs_ => hs_.2.1) (fun hs_ => hs_.2.1)) (fun hn_ => (Kd.freshB (qB BK786.out) k_ hn_)),Or.elim hk_ (fun hs_ => Or.elim hs_ (fun hs_ => hs_.2.2) (fun hs_ => hs_.2.2)) (fun hn_ => (Kd.freshB (qB BK790.out) k_ hn_))⟩)) (below_size (qS HB)))
         replace BK785:=qb BK785 hb
         replace BK786:=qb BK786 hb
         replace BK790:=qb BK790 hb
         replace HB:=qs HB hb
         clear hb ho0
         obtain ⟨Ao54,co54,eo54⟩:=Kd.V_slice HO799.out
         (first|subst eo54|(injection eo54 with f1_ f2_ f3_;have f4_:=f1_.symm;have f5_:=f3_.symm;clear f1_ f2_ f3_;subst f4_;subst f5_))
         refine hK.out _ _ (bc BK790) (fun hHeld => ?_)
         clear hK K
         refine qO 38 ?_
         refine q1 6 (some 39) HT_ rfl (fun K hK => ?_)
         refine g_ Try.func37 #[.agg #[.slice Ao43 t787.length co43],.slice Ao54 t797.length co54] ?_
         with_reducible refine (sacristylaw01_Same.calls k _ _ t787 _ _ t797 true _ ?side1 ?side2 ?side3 ?side4 A17.out).mono ?_
         (case side1 => exact qCV HO789)
         (case side2 => exact qL HO789)
         (case side3 => exact qCV HO799)
         (case side4 => exact qL HO799)
         rintro e w55 ⟨rfl,hb⟩
         refine ⟨_,rfl,?_⟩
         replace HO781:=qVb HO781 hb
         replace HO784:=qVb HO784 hb
         replace HO789:=qVb HO789 hb
         replace HO793:=qVb HO793 hb
         replace HO796:=qVb HO796 hb
         replace HO799:=qVb HO799 hb
         replace BK785:=qb BK785 hb
         replace BK786:=qb BK786 hb
         replace BK790:=qb BK790 hb
         replace HB:=qs HB hb
         clear hb
         refine hK.out _ _ (bc BK790) (fun hHeld => ?_)
         clear hK K
         refine qO 39 ?_
         refine qP 7 40 HT_ ?_
         refine qD HT_ ?_
         have hcz56_0:=bc BK790
         have hfz56_0:=bz BK790
         try go_wp2_with (first|((with_reducible refine gate_callee (f:=44) rfl ?_);refine gL (some 42) Try.func44 #[.agg #[.slice Ao43 t787.length co43]] ?_;(with_reducible refine (nat_Nat_Zero.calls _ _ t787 true _ ?side1 ?side2 A19.out).mono ?_);(case side1 => exact qCV HO789);(case side2 => exact qL HO789);rintro e w57 ⟨rfl,hb⟩;refine ⟨_,rfl,?_⟩;replace HO781:=qVb HO781 hb;replace HO784:=qVb HO784 hb;replace HO789:=qVb HO789 hb;replace HO793:=qVb HO793 hb;replace HO796:=qVb HO796 hb;replace HO799:=qVb HO799 hb;replace BK785:=qb BK785 hb;replace BK786:=qb BK786 hb;replace BK790:=qb BK790 hb;replace HB:=qs HB hb;clear hb;have hcz58_0:=bc BK785;have hfz58_0:=bz BK785)|((with_reducible refine gate_callee (f:=44) rfl ?_);refine gL (some 44) Try.func44 #[.agg #[.slice Ao32 t779.length co32]] ?_;(with_reducible refine (nat_Nat_Zero.calls _ _ t779 true _ ?side1 ?side2 A21.out).mono ?_);(case side1 => exact qCV HO781);(case side2 => exact qL HO781);rintro e w59 ⟨rfl,hb⟩;refine ⟨_,rfl,?_⟩;replace HO781:=qVb HO781 hb;replace HO784:=qVb HO784 hb;replace HO789:=qVb HO789 hb;replace HO793:=qVb HO793 hb;replace HO796:=qVb HO796 hb;replace HO799:=qVb HO799 hb;replace BK785:=qb BK785 hb;replace BK786:=qb BK786 hb;replace BK790:=qb BK790 hb;replace HB:=qs HB hb;clear hb;have hcz60_0:=bc BK786;have hfz60_0:=bz BK786)|(go_at_call 44;(with_reducible refine (nat_Nat_Zero.calls _ _ t782 t803 _ ?side1 ?side2 A23.out).mono ?_);(case side1 => exact qCV HO784);(case side2 => exact qL HO784);rintro e w61 ⟨rfl,hb⟩;replace HO781:=qVb HO781 hb;replace HO784:=qVb HO784 hb;replace HO789:=qVb HO789 hb;replace HO793:=qVb HO793 hb;replace HO796:=qVb HO796 hb;replace HO799:=qVb HO799 hb;replace BK785:=qb BK785 hb;replace BK786:=qb BK786 hb;replace BK790:=qb BK790 hb;replace HB:=qs HB hb;clear hb))
         (first|go_ret|(refine ⟨_,results_tmp rfl _ _ _,?_⟩))
         exact ⟨by first|rfl|(simp [errW_none,errW_some] <;> rfl)|(simp only [← hji5,← hji8];first|rfl|(simp [errW_none,errW_some] <;> rfl))|(simp [*,errW_none,errW_some] <;> rfl),qS HB⟩
        ·replace c22:=Bool.eq_false_iff.mpr c22
         subst c22
         rw [qFT] at H
         exact absurd H (by simp)
       ·replace c20:=Bool.eq_false_iff.mpr c20
        subst c20
        rw [qFT] at H
        obtain ⟨⟨t804,t807,t810⟩,A62,H⟩:=qH H
        dsimp only at H
        obtain ⟨⟨t813,t816,t819⟩,A63,H⟩:=qH H
        dsimp only at H
        obtain ⟨t822,A64,H⟩:=qH H
        by_cases c65 : t822 = true
        ·subst c65
         rw [if_pos rfl] at H
         obtain ⟨t823,A66,H⟩:=qH H
         obtain rfl:=Option.some.inj H
         go_enter Try.func10,Try.ntmps10
         try go_wp2_with (first|((with_reducible refine gate_callee (f:=34) rfl ?_);refine gL (some 14) Try.func34 #[] ?_;(with_reducible refine (sacristylaw01_lives.calls k  true _ A3.out).mono ?_);rintro e w67 ⟨rfl,hb⟩;refine ⟨_,rfl,?_⟩;replace HB:=qs HB hb;clear hb))
         replace HB:=qsd HB
         obtain ⟨i069,hi069,_,hsz69,_⟩:=info_parts info5
         obtain ⟨hcut69,hA69,hC69⟩:=print_take_of (P:=Try.prog) (Value.int .u8) 0 22 5 .i64 Try.underlying22 hi069 hsz69 A0 c0 l0 (ji5) (od) (od) HC0.out
         have HR777:=Aside0.mk (Kd.C_of_reads (h1:=fun _ => rfl) (hA69 _ (Kd.reads_of_C HR0.out)))
         have HC777:=Aside0.mk hC69
         clear hA69 hC69 hi069 hsz69
         obtain ⟨i070,hi070,_,hsz70,_⟩:=info_parts info5
         obtain ⟨hcut70,hA70,hC70⟩:=print_take_of (P:=Try.prog) (Value.int .u8) 0 22 5 .i64 Try.underlying22 hi070 hsz70 A1 c1 l1 (ji8) (od) (od) HC1.out
         have HR778:=Aside0.mk (Kd.C_of_reads (h1:=fun _ => rfl) (hA70 _ (Kd.reads_of_C HR1.out)))
         have HC778:=Aside0.mk hC70
         clear hA70 hC70 hi070 hsz70
         refine start_ (n:=12) (S:=fun w' => True) (ds:=[]) #[false,false,false,false,false,false,false,false,false,false,false,false] (by kernel_rfl) rfl rfl trivial (fun hHeld => ?_);refine with_tabW sacristylaw01_NatGcds.tab3 sacristylaw01_NatGcds.bits3 (fun HT_ HW_ => ?_)
         generalize w67.drew = w68 at HB HR777 HR778 hHeld ⊢
         refine qP 0 16 HT_ ?_
         refine qP 1 17 HT_ ?_
         refine qP 2 18 HT_ ?_
         refine qP 3 19 HT_ ?_
         refine qP 4 20 HT_ ?_
         refine qP 5 21 HT_ ?_
         refine qP 6 22 HT_ ?_
         refine qP 7 23 HT_ ?_
         refine qP 8 24 HT_ ?_
         refine qP 9 25 HT_ ?_
         refine qP 10 0 HT_ ?_
         refine qP 11 1 HT_ ?_
         refine qD HT_ ?_
         try go_wp2_with (first|((with_reducible refine gate_callee (f:=40) rfl ?_);refine goesL_ (some 27) rfl rfl Try.func40 (by kernel_rfl) rfl #[.slice A0 (l0.take ((ji5) : Int).toNat).length c0] rfl (by (try simp only [List.map_toArray,List.map_cons,List.map_nil]);first|done|(rw [show (l0.take ((ji5) : Int).toNat).length = (ji5).toNat from (by rw [List.length_take];have h_ : ((ji5) : Int) ≤ (l0.length : Int):=od;omega)] <;> rfl)|(simp only [hji5];rfl)|rfl|(simp only [List.length_drop,List.length_take];rfl)) ?_;(with_reducible refine (sacristylaw01_Num.calls k _ _ (l0.take ((ji5) : Int).toNat) t779 _ ?side1 ?side2 A11.out).mono ?_);(case side1 => exact qCB HR777 HB);(case side2 => exact HC777.out);rintro e w71 ⟨v780,rfl,ho0,hb⟩;refine ⟨_,rfl,?_⟩;have HO781:=Aside0.mk (Kd.V_lower (Kd.V_mono (ok':=fun k_ => True) ho0 (fun k_ hk_ => trivial)) (below_size (qS HB)));replace HB:=qs HB hb;clear hb ho0)|((with_reducible refine gate_callee (f:=40) rfl ?_);refine goesL_ (some 29) rfl rfl Try.func40 (by kernel_rfl) rfl #[.slice A1 (l1.take ((ji8) : Int).toNat).length c1] rfl (by (try simp only [List.map_toArray,List.map_cons,List.map_nil]);first|done|(rw [show (l1.take ((ji8) : Int).toNat).length = (ji8).toNat from (by rw [List.length_take];have h_ : ((ji8) : Int) ≤ (l1.length : Int):=od;omega)] <;> rfl)|(simp only [hji8];rfl)|rfl|(simp only [List.length_drop,List.length_take];rfl)) ?_;(with_reducible refine (sacristylaw01_Num.calls k _ _ (l1.take ((ji8) : Int).toNat) t782 _ ?side1 ?side2 A12.out).mono ?_);(case side1 => exact qCB HR778 HB);(case side2 => exact HC778.out);rintro e w72 ⟨v783,rfl,ho0,hb⟩;refine ⟨_,rfl,?_⟩;replace HO781:=qVb HO781 hb;have HO784:=Aside0.mk (Kd.V_lower (Kd.V_mono (ok':=fun k_ => True) ho0 (fun k_ hk_ => trivial)) (below_size (qS HB)));replace HB:=qs HB hb;clear hb ho0)|((with_reducible refine gate_dst (N:=5) rfl ?_);refine qX #[.slice none 0 0] 38 ?_;intro gb785 hg w73 hbox hb;replace HO781:=qVe HO781 hb hg;replace HO784:=qVe HO784 hb hg;have BK785:=Aside0.mk hbox;have GE785:=qh hg HB;replace HB:=qs HB hb;clear hb hbox hg)|((with_reducible refine gate_dst (N:=6) rfl ?_);refine qX #[.slice none 0 0] 38 ?_;intro gb786 hg w74 hbox hb;replace HO781:=qVe HO781 hb hg;replace HO784:=qVe HO784 hb hg;have BK786:=Aside0.mk hbox;have GE786:=qh hg HB;replace HB:=qs HB hb;have NB785_786:=ql hg BK785;have NB786_785:=qg hg BK785;replace BK785:=qb BK785 hb;clear hb hbox hg;obtain ⟨Ao75,co75,eo75⟩:=Kd.V_slice HO781.out;subst eo75;have hnb76:=NB785_786.out;have hnc76:=NB786_785.out;have hcz77_0:=bc BK785;have hfz77_0:=bz BK785)|((with_reducible refine gate_store (t:=38) (p:=5) rfl ?_);refine qSt (w74.setCell ⟨gb785,0,none⟩ (.slice Ao75 t779.length co75)) ?_;intro w78 hw;replace HO781:=qVh hw HO781;replace HO784:=qVh hw HO784;replace BK785:=qBp hw BK785;replace BK786:=qBh hw BK786;replace HB:=qSh hw HB;(try clear hw);obtain ⟨Ao79,co79,eo79⟩:=Kd.V_slice HO784.out;subst eo79;have hcz80_0:=bc BK786;have hfz80_0:=bz BK786)|((with_reducible refine gate_store (t:=38) (p:=6) rfl ?_);refine qSt (w78.setCell ⟨gb786,0,none⟩ (.slice Ao79 t782.length co79)) ?_;intro w81 hw;replace HO781:=qVh hw HO781;replace HO784:=qVh hw HO784;replace BK785:=qBh hw BK785;replace BK786:=qBp hw BK786;replace HB:=qSh hw HB;(try clear hw);have hcz82_0:=bc BK785;have hfz82_0:=bz BK785;have hcz83_0:=bc BK786;have hfz83_0:=bz BK786)|((with_reducible refine gate_callee (f:=51) rfl ?_);refine gL (some 32) Try.func51 #[.agg #[.slice Ao75 t779.length co75],.agg #[.slice Ao79 t782.length co79]] ?_;(with_reducible refine (nat_Nat_Gcd.calls k (fun k_ => (k_ ≠ gb785 ∧ k_ ≠ gb786)) _ _ t779 (fun k_ => (k_ ≠ gb785 ∧ k_ ≠ gb786)) _ _ t782 t787 _ ?side1 ?side2 A13.out).mono ?_);(case side1 => first|exact HO781.out|exact qVm HO781);(case side2 => first|exact HO784.out|exact qVm HO784);rintro e w84 ⟨v788,rfl,ho0,hb⟩;refine ⟨_,rfl,?_⟩;replace HO781:=qVb HO781 hb;replace HO784:=qVb HO784 hb;have HO789:=Aside0.mk (Kd.V_lower (Kd.V_mono (ok':=fun k_ => k_ ≠ gb785 ∧ k_ ≠ gb786) ho0 (fun k_ hk_ => ⟨Or.elim hk_ (fun hs_ => Or.elim hs_ (fun hs_ => hs_.1) (fun hs_ => hs_.1)) (fun hn_ => (Kd.freshB (qB BK785.out) k_ hn_)),Or.elim hk_ (fun hs_ => Or.elim hs_ (fun hs_ => hs_.2) (fun hs_ => hs_.2)) (fun hn_ => (Kd.freshB (qB BK786.out) k_ hn_))⟩)) (below_size (qS HB)));replace BK785:=qb BK785 hb;replace BK786:=qb BK786 hb;replace HB:=qs HB hb;clear hb ho0)|((with_reducible refine gate_dst (N:=7) rfl ?_);refine qX #[.slice none 0 0] 38 ?_;intro gb790 hg w85 hbox hb;replace HO781:=qVe HO781 hb hg;replace HO784:=qVe HO784 hb hg;replace HO789:=qVe HO789 hb hg;have BK790:=Aside0.mk hbox;have GE790:=qh hg HB;replace HB:=qs HB hb;have NB785_790:=ql hg BK785;have NB790_785:=qg hg BK785;replace BK785:=qb BK785 hb;have NB786_790:=ql hg BK786;have NB790_786:=qg hg BK786;replace BK786:=qb BK786 hb;clear hb hbox hg;obtain ⟨Ao86,co86,eo86⟩:=Kd.V_slice HO789.out;subst eo86;have hnb87:=NB790_785.out;have hnc87:=NB785_790.out;have hnb88:=NB790_786.out;have hnc88:=NB786_790.out;have hcz89_0:=bc BK790;have hfz89_0:=bz BK790))
         generalize hw : (w85.setCell ⟨gb790,0,none⟩ (.slice Ao86 t787.length co86)) = w90
         replace hw:=hw.symm
         replace HO781:=qVh hw HO781
         replace HO784:=qVh hw HO784
         replace HO789:=qVh hw HO789
         replace BK785:=qBh hw BK785
         replace BK786:=qBh hw BK786
         replace BK790:=qBp hw BK790
         replace HB:=qSh hw HB
         clear hw
         replace HO781:=qVw HO781
         replace HO784:=qVw HO784
         replace HO789:=qVw HO789
         replace BK785:=qbd BK785
         replace BK786:=qbd BK786
         replace BK790:=qbd BK790
         replace HB:=qsd HB
         refine start_ (n:=8) (S:=fun w' => w'.cell? ⟨gb790,0,none⟩ = some (.slice Ao86 t787.length co86)) (ds:=[]) #[false,false,false,false,false,false,false,false] (by kernel_rfl) rfl rfl (bc BK790) (fun hHeld => ?_);refine with_tabW sacristylaw01_NatGcds.tab6 sacristylaw01_NatGcds.bits6 (fun HT_ HW_ => ?_)
         generalize w90.drew = w91 at HO781 HO784 HO789 BK785 BK786 BK790 HB hHeld ⊢
         refine qP 1 34 HT_ ?_
         refine qP 3 36 HT_ ?_
         refine qT 0 33 HT_ HW_ hHeld ?_
         refine q1 2 (some 35) HT_ rfl (fun K hK => ?_)
         refine goes_ Try.func41 (by kernel_rfl) rfl #[.slice A0 (l0.take ((ji5) : Int).toNat).length c0] (by rfl) rfl rfl (by (try simp only [List.map_toArray,List.map_cons,List.map_nil]);first|done|(rw [show (l0.take ((ji5) : Int).toNat).length = (ji5).toNat from (by rw [List.length_take];have h_ : ((ji5) : Int) ≤ (l0.length : Int):=od;omega)] <;> rfl)|(simp only [hji5];rfl)|rfl|(simp only [List.length_drop,List.length_take];rfl)) ?_
         with_reducible refine (sacristylaw01_ref.calls k _ _ (l0.take ((ji5) : Int).toNat) t791 _ ?side1 ?side2 A14.out).mono ?_
         (case side1 => exact qCB HR777 HB)
         (case side2 => exact HC777.out)
         rintro e w92 ⟨v792,rfl,ho0,hb⟩
         refine ⟨_,rfl,?_⟩
         replace HO781:=qVb HO781 hb
         replace HO784:=qVb HO784 hb
         replace HO789:=qVb HO789 hb
         have HO793:=Aside0.mk (Kd.V_lower (Kd.V_mono (ok':=fun k_ => k_ ≠ gb785 ∧ k_ ≠ gb786 ∧ k_ ≠ gb790) ho0 (fun k_ hk_ => ⟨(Kd.freshB (qB BK785.out) k_ hk_),(Kd.freshB (qB BK786.out) k_ hk_),(Kd.freshB (qB BK790.out) k_ hk_)⟩)) (below_size (qS HB)))
         replace BK785:=qb BK785 hb
         replace BK786:=qb BK786 hb
         replace BK790:=qb BK790 hb
         replace HB:=qs HB hb
         clear hb ho0
         refine hK.out _ _ (bc BK790) (fun hHeld => ?_)
         clear hK K
         refine qO 35 ?_
         refine q1 4 (some 37) HT_ rfl (fun K hK => ?_)
         refine goes_ Try.func41 (by kernel_rfl) rfl #[.slice A1 (l1.take ((ji8) : Int).toNat).length c1] (by rfl) rfl rfl (by (try simp only [List.map_toArray,List.map_cons,List.map_nil]);first|done|(rw [show (l1.take ((ji8) : Int).toNat).length = (ji8).toNat from (by rw [List.length_take];have h_ : ((ji8) : Int) ≤ (l1.length : Int):=od;omega)] <;> rfl)|(simp only [hji8];rfl)|rfl|(simp only [List.length_drop,List.length_take];rfl)) ?_
         with_reducible refine (sacristylaw01_ref.calls k _ _ (l1.take ((ji8) : Int).toNat) t794 _ ?side1 ?side2 A15.out).mono ?_
         (case side1 => exact qCB HR778 HB)
         (case side2 => exact HC778.out)
         rintro e w93 ⟨v795,rfl,ho0,hb⟩
         refine ⟨_,rfl,?_⟩
         replace HO781:=qVb HO781 hb
         replace HO784:=qVb HO784 hb
         replace HO789:=qVb HO789 hb
         replace HO793:=qVb HO793 hb
         have HO796:=Aside0.mk (Kd.V_lower (Kd.V_mono (ok':=fun k_ => k_ ≠ gb785 ∧ k_ ≠ gb786 ∧ k_ ≠ gb790) ho0 (fun k_ hk_ => ⟨(Kd.freshB (qB BK785.out) k_ hk_),(Kd.freshB (qB BK786.out) k_ hk_),(Kd.freshB (qB BK790.out) k_ hk_)⟩)) (below_size (qS HB)))
         replace BK785:=qb BK785 hb
         replace BK786:=qb BK786 hb
         replace BK790:=qb BK790 hb
         replace HB:=qs HB hb
         clear hb ho0
         obtain ⟨Ao94,co94,eo94⟩:=Kd.V_slice HO793.out
         (first|subst eo94|(injection eo94 with f1_ f2_ f3_;have f4_:=f1_.symm;have f5_:=f3_.symm;clear f1_ f2_ f3_;subst f4_;subst f5_))
         obtain ⟨Ao95,co95,eo95⟩:=Kd.V_slice HO796.out
         (first|subst eo95|(injection eo95 with f1_ f2_ f3_;have f4_:=f1_.symm;have f5_:=f3_.symm;clear f1_ f2_ f3_;subst f4_;subst f5_))
         refine hK.out _ _ (bc BK790) (fun hHeld => ?_)
         clear hK K
         refine qO 37 ?_
         refine q1 5 (some 38) HT_ rfl (fun K hK => ?_)
         refine g_ Try.func52 #[.slice Ao94 t791.length co94,.slice Ao95 t794.length co95] ?_
         with_reducible refine (sacristyref01_Gcd.calls k (fun k_ => (k_ ≠ gb785 ∧ (k_ ≠ gb786 ∧ k_ ≠ gb790))) _ _ t791 (fun k_ => (k_ ≠ gb785 ∧ (k_ ≠ gb786 ∧ k_ ≠ gb790))) _ _ t794 t797 _ ?side1 ?side2 A16.out).mono ?_
         (case side1 => first|exact HO793.out|exact qVm HO793)
         (case side2 => first|exact HO796.out|exact qVm HO796)
         rintro e w96 ⟨v798,rfl,ho0,hb⟩
         refine ⟨_,rfl,?_⟩
         replace HO781:=qVb HO781 hb
         replace HO784:=qVb HO784 hb
         replace HO789:=qVb HO789 hb
         replace HO793:=qVb HO793 hb
         replace HO796:=qVb HO796 hb
         have HO799:=Aside0.mk (Kd.V_lower (Kd.V_mono (ok':=fun k_ => k_ ≠ gb785 ∧ k_ ≠ gb786 ∧ k_ ≠ gb790) ho0 (fun k_ hk_ => ⟨Or.elim hk_ (fun hs_ => Or.elim hs_ (fun hs_ => hs_.1) (fun hs_ => hs_.1)) (fun hn_ => (Kd.freshB (qB BK785.out) k_ hn_)),Or.elim hk_ (fun hs_ => Or.elim hs_ (fun hs_ => hs_.2.1) (fun hs_ => hs_.2.1)) (fun hn_ => (Kd.freshB (qB BK786.out) k_ hn_)),Or.elim hk_ (fun hs_ => Or.elim hs_ (fun hs_ => hs_.2.2) (fun hs_ => hs_.2.2)) (fun hn_ => (Kd.freshB (qB BK790.out) k_ hn_))⟩)) (below_size (qS HB)))
         replace BK785:=qb BK785 hb
         replace BK786:=qb BK786 hb
         replace BK790:=qb BK790 hb
         replace HB:=qs HB hb
         clear hb ho0
         obtain ⟨Ao97,co97,eo97⟩:=Kd.V_slice HO799.out
         (first|subst eo97|(injection eo97 with f1_ f2_ f3_;have f4_:=f1_.symm;have f5_:=f3_.symm;clear f1_ f2_ f3_;subst f4_;subst f5_))
         refine hK.out _ _ (bc BK790) (fun hHeld => ?_)
         clear hK K
         refine qO 38 ?_
         refine q1 6 (some 39) HT_ rfl (fun K hK => ?_)
         refine g_ Try.func37 #[.agg #[.slice Ao86 t787.length co86],.slice Ao97 t797.length co97] ?_
         with_reducible refine (sacristylaw01_Same.calls k _ _ t787 _ _ t797 true _ ?side1 ?side2 ?side3 ?side4 A17.out).mono ?_
         (case side1 => exact qCV HO789)
         (case side2 => exact qL HO789)
         (case side3 => exact qCV HO799)
         (case side4 => exact qL HO799)
         rintro e w98 ⟨rfl,hb⟩
         refine ⟨_,rfl,?_⟩
         replace HO781:=qVb HO781 hb
         replace HO784:=qVb HO784 hb
         replace HO789:=qVb HO789 hb
         replace HO793:=qVb HO793 hb
         replace HO796:=qVb HO796 hb
         replace HO799:=qVb HO799 hb
         replace BK785:=qb BK785 hb
         replace BK786:=qb BK786 hb
         replace BK790:=qb BK790 hb
         replace HB:=qs HB hb
         clear hb
         refine hK.out _ _ (bc BK790) (fun hHeld => ?_)
         clear hK K
         refine qO 39 ?_
         refine qP 7 40 HT_ ?_
         refine qD HT_ ?_
         have hcz99_0:=bc BK790
         have hfz99_0:=bz BK790
         try go_wp2_with (first|((with_reducible refine gate_callee (f:=44) rfl ?_);refine gL (some 42) Try.func44 #[.agg #[.slice Ao86 t787.length co86]] ?_;(with_reducible refine (nat_Nat_Zero.calls _ _ t787 false _ ?side1 ?side2 A19.out).mono ?_);(case side1 => exact qCV HO789);(case side2 => exact qL HO789);rintro e w100 ⟨rfl,hb⟩;refine ⟨_,rfl,?_⟩;replace HO781:=qVb HO781 hb;replace HO784:=qVb HO784 hb;replace HO789:=qVb HO789 hb;replace HO793:=qVb HO793 hb;replace HO796:=qVb HO796 hb;replace HO799:=qVb HO799 hb;replace BK785:=qb BK785 hb;replace BK786:=qb BK786 hb;replace BK790:=qb BK790 hb;replace HB:=qs HB hb;clear hb;have hcz101_0:=bc BK785;have hfz101_0:=bz BK785;have hcz102_0:=bc BK790;have hfz102_0:=bz BK790)|((with_reducible refine gate_callee (f:=53) rfl ?_);refine gL (some 52) Try.func53 #[.agg #[.slice Ao75 t779.length co75],.agg #[.slice Ao86 t787.length co86]] ?_;(with_reducible refine (nat_Nat_Div.calls k (fun k_ => (k_ ≠ gb785 ∧ (k_ ≠ gb786 ∧ k_ ≠ gb790))) _ _ t779 _ _ t787 t804 t807 t810 _ ?side1 ?side2 ?side3 A62.out).mono ?_);(case side1 => first|exact HO781.out|exact qVm HO781);(case side2 => exact qCV HO789);(case side3 => exact qL HO789);rintro e w103 ⟨v805,v808,rfl,ho0,ho1,hb⟩;refine ⟨_,rfl,?_⟩;replace HO781:=qVb HO781 hb;replace HO784:=qVb HO784 hb;replace HO789:=qVb HO789 hb;replace HO793:=qVb HO793 hb;replace HO796:=qVb HO796 hb;replace HO799:=qVb HO799 hb;have HO806:=Aside0.mk (Kd.V_lower (Kd.V_mono (ok':=fun k_ => k_ ≠ gb785 ∧ k_ ≠ gb786 ∧ k_ ≠ gb790) ho0 (fun k_ hk_ => ⟨Or.elim hk_ (fun hs_ => hs_.1) (fun hn_ => (Kd.freshB (qB BK785.out) k_ hn_)),Or.elim hk_ (fun hs_ => hs_.2.1) (fun hn_ => (Kd.freshB (qB BK786.out) k_ hn_)),Or.elim hk_ (fun hs_ => hs_.2.2) (fun hn_ => (Kd.freshB (qB BK790.out) k_ hn_))⟩)) (below_size (qS HB)));have HO809:=Aside0.mk (Kd.V_lower (Kd.V_mono (ok':=fun k_ => k_ ≠ gb785 ∧ k_ ≠ gb786 ∧ k_ ≠ gb790) ho1 (fun k_ hk_ => ⟨Or.elim hk_ (fun hs_ => hs_.1) (fun hn_ => (Kd.freshB (qB BK785.out) k_ hn_)),Or.elim hk_ (fun hs_ => hs_.2.1) (fun hn_ => (Kd.freshB (qB BK786.out) k_ hn_)),Or.elim hk_ (fun hs_ => hs_.2.2) (fun hn_ => (Kd.freshB (qB BK790.out) k_ hn_))⟩)) (below_size (qS HB)));replace BK785:=qb BK785 hb;replace BK786:=qb BK786 hb;replace BK790:=qb BK790 hb;replace HB:=qs HB hb;clear hb ho0 ho1)|((with_reducible refine gate_dst (N:=8) rfl ?_);refine qX #[.slice none 0 0] 38 ?_;intro gb811 hg w104 hbox hb;replace HO781:=qVe HO781 hb hg;replace HO784:=qVe HO784 hb hg;replace HO789:=qVe HO789 hb hg;replace HO793:=qVe HO793 hb hg;replace HO796:=qVe HO796 hb hg;replace HO799:=qVe HO799 hb hg;replace HO806:=qVe HO806 hb hg;replace HO809:=qVe HO809 hb hg;have BK811:=Aside0.mk hbox;have GE811:=qh hg HB;replace HB:=qs HB hb;have NB785_811:=ql hg BK785;have NB811_785:=qg hg BK785;replace BK785:=qb BK785 hb;have NB786_811:=ql hg BK786;have NB811_786:=qg hg BK786;replace BK786:=qb BK786 hb;have NB790_811:=ql hg BK790;have NB811_790:=qg hg BK790;replace BK790:=qb BK790 hb;clear hb hbox hg)|((with_reducible refine gate_dst (N:=9) rfl ?_);refine qX #[.slice none 0 0] 38 ?_;intro gb812 hg w105 hbox hb;replace HO781:=qVe HO781 hb hg;replace HO784:=qVe HO784 hb hg;replace HO789:=qVe HO789 hb hg;replace HO793:=qVe HO793 hb hg;replace HO796:=qVe HO796 hb hg;replace HO799:=qVe HO799 hb hg;replace HO806:=qVe HO806 hb hg;replace HO809:=qVe HO809 hb hg;have BK812:=Aside0.mk hbox;have GE812:=qh hg HB;replace HB:=qs HB hb;have NB785_812:=ql hg BK785;have NB812_785:=qg hg BK785;replace BK785:=qb BK785 hb;have NB786_812:=ql hg BK786;have NB812_786:=qg hg BK786;replace BK786:=qb BK786 hb;have NB790_812:=ql hg BK790;have NB812_790:=qg hg BK790;replace BK790:=qb BK790 hb;have NB811_812:=ql hg BK811;have NB812_811:=qg hg BK811;replace BK811:=qb BK811 hb;clear hb hbox hg;obtain ⟨Ao106,co106,eo106⟩:=Kd.V_slice HO806.out;subst eo106;have hnb107:=NB811_785.out;have hnc107:=NB785_811.out;have hnb108:=NB811_786.out;have hnc108:=NB786_811.out;have hnb109:=NB811_790.out;have hnc109:=NB790_811.out;have hnb110:=NB811_812.out;have hnc110:=NB812_811.out;have hcz111_0:=bc BK811;have hfz111_0:=bz BK811)|((with_reducible refine gate_store (t:=38) (p:=8) rfl ?_);refine qSt (w105.setCell ⟨gb811,0,none⟩ (.slice Ao106 t804.length co106)) ?_;intro w112 hw;replace HO781:=qVh hw HO781;replace HO784:=qVh hw HO784;replace HO789:=qVh hw HO789;replace HO793:=qVh hw HO793;replace HO796:=qVh hw HO796;replace HO799:=qVh hw HO799;replace HO806:=qVh hw HO806;replace HO809:=qVh hw HO809;replace BK785:=qBh hw BK785;replace BK786:=qBh hw BK786;replace BK790:=qBh hw BK790;replace BK811:=qBp hw BK811;replace BK812:=qBh hw BK812;replace HB:=qSh hw HB;(try clear hw);obtain ⟨Ao113,co113,eo113⟩:=Kd.V_slice HO809.out;subst eo113;have hnb114:=NB812_785.out;have hnc114:=NB785_812.out;have hnb115:=NB812_786.out;have hnc115:=NB786_812.out;have hnb116:=NB812_790.out;have hnc116:=NB790_812.out;have hcz117_0:=bc BK812;have hfz117_0:=bz BK812)|((with_reducible refine gate_store (t:=38) (p:=9) rfl ?_);refine qSt (w112.setCell ⟨gb812,0,none⟩ (.slice Ao113 t807.length co113)) ?_;intro w118 hw;replace HO781:=qVh hw HO781;replace HO784:=qVh hw HO784;replace HO789:=qVh hw HO789;replace HO793:=qVh hw HO793;replace HO796:=qVh hw HO796;replace HO799:=qVh hw HO799;replace HO806:=qVh hw HO806;replace HO809:=qVh hw HO809;replace BK785:=qBh hw BK785;replace BK786:=qBh hw BK786;replace BK790:=qBh hw BK790;replace BK811:=qBh hw BK811;replace BK812:=qBp hw BK812;replace HB:=qSh hw HB;(try clear hw);have hcz119_0:=bc BK786;have hfz119_0:=bz BK786;have hcz120_0:=bc BK790;have hfz120_0:=bz BK790)|((with_reducible refine gate_callee (f:=53) rfl ?_);refine gL (some 59) Try.func53 #[.agg #[.slice Ao79 t782.length co79],.agg #[.slice Ao86 t787.length co86]] ?_;(with_reducible refine (nat_Nat_Div.calls k (fun k_ => (k_ ≠ gb785 ∧ (k_ ≠ gb786 ∧ (k_ ≠ gb790 ∧ (k_ ≠ gb811 ∧ k_ ≠ gb812))))) _ _ t782 _ _ t787 t813 t816 t819 _ ?side1 ?side2 ?side3 A63.out).mono ?_);(case side1 => first|exact HO784.out|exact qVm HO784);(case side2 => exact qCV HO789);(case side3 => exact qL HO789);rintro e w121 ⟨v814,v817,rfl,ho0,ho1,hb⟩;refine ⟨_,rfl,?_⟩;replace HO781:=qVb HO781 hb;replace HO784:=qVb HO784 hb;replace HO789:=qVb HO789 hb;replace HO793:=qVb HO793 hb;replace HO796:=qVb HO796 hb;replace HO799:=qVb HO799 hb;replace HO806:=qVb HO806 hb;replace HO809:=qVb HO809 hb;have HO815:=Aside0.mk (Kd.V_lower (Kd.V_mono (ok':=fun k_ => k_ ≠ gb785 ∧ k_ ≠ gb786 ∧ k_ ≠ gb790 ∧ k_ ≠ gb811 ∧ k_ ≠ gb812) ho0 (fun k_ hk_ => ⟨Or.elim hk_ (fun hs_ => hs_.1) (fun hn_ => (Kd.freshB (qB BK785.out) k_ hn_)),Or.elim hk_ (fun hs_ => hs_.2.1) (fun hn_ => (Kd.freshB (qB BK786.out) k_ hn_)),Or.elim hk_ (fun hs_ => hs_.2.2.1) (fun hn_ => (Kd.freshB (qB BK790.out) k_ hn_)),Or.elim hk_ (fun hs_ => hs_.2.2.2.1) (fun hn_ => (Kd.freshB (qB BK811.out) k_ hn_)),Or.elim hk_ (fun hs_ => hs_.2.2.2.2) (fun hn_ => (Kd.freshB (qB BK812.out) k_ hn_))⟩)) (below_size (qS HB)));have HO818:=Aside0.mk (Kd.V_lower (Kd.V_mono (ok':=fun k_ => k_ ≠ gb785 ∧ k_ ≠ gb786 ∧ k_ ≠ gb790 ∧ k_ ≠ gb811 ∧ k_ ≠ gb812) ho1 (fun k_ hk_ => ⟨Or.elim hk_ (fun hs_ => hs_.1) (fun hn_ => (Kd.freshB (qB BK785.out) k_ hn_)),Or.elim hk_ (fun hs_ => hs_.2.1) (fun hn_ => (Kd.freshB (qB BK786.out) k_ hn_)),Or.elim hk_ (fun hs_ => hs_.2.2.1) (fun hn_ => (Kd.freshB (qB BK790.out) k_ hn_)),Or.elim hk_ (fun hs_ => hs_.2.2.2.1) (fun hn_ => (Kd.freshB (qB BK811.out) k_ hn_)),Or.elim hk_ (fun hs_ => hs_.2.2.2.2) (fun hn_ => (Kd.freshB (qB BK812.out) k_ hn_))⟩)) (below_size (qS HB)));replace BK785:=qb BK785 hb;replace BK786:=qb BK786 hb;replace BK790:=qb BK790 hb;replace BK811:=qb BK811 hb;replace BK812:=qb BK812 hb;replace HB:=qs HB hb;clear hb ho0 ho1)|((with_reducible refine gate_dst (N:=11) rfl ?_);refine qX #[.slice none 0 0] 38 ?_;intro gb820 hg w122 hbox hb;replace HO781:=qVe HO781 hb hg;replace HO784:=qVe HO784 hb hg;replace HO789:=qVe HO789 hb hg;replace HO793:=qVe HO793 hb hg;replace HO796:=qVe HO796 hb hg;replace HO799:=qVe HO799 hb hg;replace HO806:=qVe HO806 hb hg;replace HO809:=qVe HO809 hb hg;replace HO815:=qVe HO815 hb hg;replace HO818:=qVe HO818 hb hg;have BK820:=Aside0.mk hbox;have GE820:=qh hg HB;replace HB:=qs HB hb;have NB785_820:=ql hg BK785;have NB820_785:=qg hg BK785;replace BK785:=qb BK785 hb;have NB786_820:=ql hg BK786;have NB820_786:=qg hg BK786;replace BK786:=qb BK786 hb;have NB790_820:=ql hg BK790;have NB820_790:=qg hg BK790;replace BK790:=qb BK790 hb;have NB811_820:=ql hg BK811;have NB820_811:=qg hg BK811;replace BK811:=qb BK811 hb;have NB812_820:=ql hg BK812;have NB820_812:=qg hg BK812;replace BK812:=qb BK812 hb;clear hb hbox hg)|((with_reducible refine gate_dst (N:=12) rfl ?_);refine qX #[.slice none 0 0] 38 ?_;intro gb821 hg w123 hbox hb;replace HO781:=qVe HO781 hb hg;replace HO784:=qVe HO784 hb hg;replace HO789:=qVe HO789 hb hg;replace HO793:=qVe HO793 hb hg;replace HO796:=qVe HO796 hb hg;replace HO799:=qVe HO799 hb hg;replace HO806:=qVe HO806 hb hg;replace HO809:=qVe HO809 hb hg;replace HO815:=qVe HO815 hb hg;replace HO818:=qVe HO818 hb hg;have BK821:=Aside0.mk hbox;have GE821:=qh hg HB;replace HB:=qs HB hb;have NB785_821:=ql hg BK785;have NB821_785:=qg hg BK785;replace BK785:=qb BK785 hb;have NB786_821:=ql hg BK786;have NB821_786:=qg hg BK786;replace BK786:=qb BK786 hb;have NB790_821:=ql hg BK790;have NB821_790:=qg hg BK790;replace BK790:=qb BK790 hb;have NB811_821:=ql hg BK811;have NB821_811:=qg hg BK811;replace BK811:=qb BK811 hb;have NB812_821:=ql hg BK812;have NB821_812:=qg hg BK812;replace BK812:=qb BK812 hb;have NB820_821:=ql hg BK820;have NB821_820:=qg hg BK820;replace BK820:=qb BK820 hb;clear hb hbox hg;obtain ⟨Ao124,co124,eo124⟩:=Kd.V_slice HO815.out;subst eo124;have hnb125:=NB820_785.out;have hnc125:=NB785_820.out;have hnb126:=NB820_786.out;have hnc126:=NB786_820.out;have hnb127:=NB820_790.out;have hnc127:=NB790_820.out;have hnb128:=NB820_811.out;have hnc128:=NB811_820.out;have hnb129:=NB820_812.out;have hnc129:=NB812_820.out;have hnb130:=NB820_821.out;have hnc130:=NB821_820.out;have hcz131_0:=bc BK820;have hfz131_0:=bz BK820;obtain ⟨Ao132,co132,eo132⟩:=Kd.V_slice HO818.out;subst eo132;have hnb133:=NB821_785.out;have hnc133:=NB785_821.out;have hnb134:=NB821_786.out;have hnc134:=NB786_821.out;have hnb135:=NB821_790.out;have hnc135:=NB790_821.out;have hnb136:=NB821_811.out;have hnc136:=NB811_821.out;have hnb137:=NB821_812.out;have hnc137:=NB812_821.out;have hcz138_0:=bc BK821;have hfz138_0:=bz BK821;have hcz139_0:=bc BK812;have hfz139_0:=bz BK812)|((with_reducible refine gate_callee (f:=44) rfl ?_);refine gL (some 64) Try.func44 #[.agg #[.slice Ao113 t807.length co113]] ?_;(with_reducible refine (nat_Nat_Zero.calls _ _ t807 true _ ?side1 ?side2 A64.out).mono ?_);(case side1 => refine (Kd.V_reads' (e:=23) (base:=w.heap.size) (ok:=fun k_ => (((k_ ≠ gb785 ∧ (k_ ≠ gb786 ∧ (k_ ≠ gb790 ∧ (k_ ≠ gb811 ∧ k_ ≠ gb812)))) ∧ k_ ≠ gb820) ∧ k_ ≠ gb821)) (n:=t807.length) (c:=co113) ?_).2.2;exact (qVm HO809));(case side2 => exact qL HO809);rintro e w140 ⟨rfl,hb⟩;refine ⟨_,rfl,?_⟩;replace HO781:=qVb HO781 hb;replace HO784:=qVb HO784 hb;replace HO789:=qVb HO789 hb;replace HO793:=qVb HO793 hb;replace HO796:=qVb HO796 hb;replace HO799:=qVb HO799 hb;replace HO806:=qVb HO806 hb;replace HO809:=qVb HO809 hb;replace HO815:=qVb HO815 hb;replace HO818:=qVb HO818 hb;replace BK785:=Aside0.mk (blk_below (g:=gb785) (o:=.cells #[.slice Ao75 t779.length co75] 38 (0,0)) (by (with_reducible repeat (first|refine blk_drewN ?_ _|refine blk_drew ?_|refine blk_alloc ?_ _));refine blk_far ?_ NB785_821.out _;(with_reducible repeat (first|refine blk_drewN ?_ _|refine blk_drew ?_|refine blk_alloc ?_ _));refine blk_far ?_ NB785_820.out _;(with_reducible repeat (first|refine blk_drewN ?_ _|refine blk_drew ?_|refine blk_alloc ?_ _));exact BK785.out) hb);replace BK786:=Aside0.mk (blk_below (g:=gb786) (o:=.cells #[.slice Ao79 t782.length co79] 38 (0,0)) (by (with_reducible repeat (first|refine blk_drewN ?_ _|refine blk_drew ?_|refine blk_alloc ?_ _));refine blk_far ?_ NB786_821.out _;(with_reducible repeat (first|refine blk_drewN ?_ _|refine blk_drew ?_|refine blk_alloc ?_ _));refine blk_far ?_ NB786_820.out _;(with_reducible repeat (first|refine blk_drewN ?_ _|refine blk_drew ?_|refine blk_alloc ?_ _));exact BK786.out) hb);replace BK790:=Aside0.mk (blk_below (g:=gb790) (o:=.cells #[.slice Ao86 t787.length co86] 38 (0,0)) (by (with_reducible repeat (first|refine blk_drewN ?_ _|refine blk_drew ?_|refine blk_alloc ?_ _));refine blk_far ?_ NB790_821.out _;(with_reducible repeat (first|refine blk_drewN ?_ _|refine blk_drew ?_|refine blk_alloc ?_ _));refine blk_far ?_ NB790_820.out _;(with_reducible repeat (first|refine blk_drewN ?_ _|refine blk_drew ?_|refine blk_alloc ?_ _));exact BK790.out) hb);replace BK811:=Aside0.mk (blk_below (g:=gb811) (o:=.cells #[.slice Ao106 t804.length co106] 38 (0,0)) (by (with_reducible repeat (first|refine blk_drewN ?_ _|refine blk_drew ?_|refine blk_alloc ?_ _));refine blk_far ?_ NB811_821.out _;(with_reducible repeat (first|refine blk_drewN ?_ _|refine blk_drew ?_|refine blk_alloc ?_ _));refine blk_far ?_ NB811_820.out _;(with_reducible repeat (first|refine blk_drewN ?_ _|refine blk_drew ?_|refine blk_alloc ?_ _));exact BK811.out) hb);replace BK812:=Aside0.mk (blk_below (g:=gb812) (o:=.cells #[.slice Ao113 t807.length co113] 38 (0,0)) (by (with_reducible repeat (first|refine blk_drewN ?_ _|refine blk_drew ?_|refine blk_alloc ?_ _));refine blk_far ?_ NB812_821.out _;(with_reducible repeat (first|refine blk_drewN ?_ _|refine blk_drew ?_|refine blk_alloc ?_ _));refine blk_far ?_ NB812_820.out _;(with_reducible repeat (first|refine blk_drewN ?_ _|refine blk_drew ?_|refine blk_alloc ?_ _));exact BK812.out) hb);replace BK820:=Aside0.mk (blk_below (g:=gb820) (o:=.cells #[.slice Ao124 t813.length co124] 38 (0,0)) (by (with_reducible repeat (first|refine blk_drewN ?_ _|refine blk_drew ?_|refine blk_alloc ?_ _));refine blk_far ?_ NB820_821.out _;(with_reducible repeat (first|refine blk_drewN ?_ _|refine blk_drew ?_|refine blk_alloc ?_ _));refine blk_put (cs:=#[.slice none 0 0]) ?_ 0 _ rfl;(with_reducible repeat (first|refine blk_drewN ?_ _|refine blk_drew ?_|refine blk_alloc ?_ _));exact BK820.out) hb);replace BK821:=Aside0.mk (blk_below (g:=gb821) (o:=.cells #[.slice Ao132 t816.length co132] 38 (0,0)) (by (with_reducible repeat (first|refine blk_drewN ?_ _|refine blk_drew ?_|refine blk_alloc ?_ _));refine blk_put (cs:=#[.slice none 0 0]) ?_ 0 _ rfl;(with_reducible repeat (first|refine blk_drewN ?_ _|refine blk_drew ?_|refine blk_alloc ?_ _));refine blk_far ?_ NB821_820.out _;(with_reducible repeat (first|refine blk_drewN ?_ _|refine blk_drew ?_|refine blk_alloc ?_ _));exact BK821.out) hb);replace HB:=qs HB hb;clear hb;have hcz141_0:=bc BK821;have hfz141_0:=bz BK821)|(go_at_call 44;(with_reducible refine (nat_Nat_Zero.calls _ _ t816 t823 _ ?side1 ?side2 A66.out).mono ?_);(case side1 => exact qCV HO818);(case side2 => exact qL HO818);rintro e w142 ⟨rfl,hb⟩;replace HO781:=qVb HO781 hb;replace HO784:=qVb HO784 hb;replace HO789:=qVb HO789 hb;replace HO793:=qVb HO793 hb;replace HO796:=qVb HO796 hb;replace HO799:=qVb HO799 hb;replace HO806:=qVb HO806 hb;replace HO809:=qVb HO809 hb;replace HO815:=qVb HO815 hb;replace HO818:=qVb HO818 hb;replace BK785:=qb BK785 hb;replace BK786:=qb BK786 hb;replace BK790:=qb BK790 hb;replace BK811:=qb BK811 hb;replace BK812:=qb BK812 hb;replace BK820:=qb BK820 hb;replace BK821:=qb BK821 hb;replace HB:=qs HB hb;clear hb))
         (first|go_ret|(refine ⟨_,results_tmp rfl _ _ _,?_⟩))
         exact ⟨by first|rfl|(simp [errW_none,errW_some] <;> rfl)|(simp only [← hji5,← hji8];first|rfl|(simp [errW_none,errW_some] <;> rfl))|(simp [*,errW_none,errW_some] <;> rfl),qS HB⟩
        ·replace c65:=Bool.eq_false_iff.mpr c65
         subst c65
         rw [qFT] at H
         exact absurd H (by simp)
      ·replace c18:=Bool.eq_false_iff.mpr c18
       subst c18
       rw [qFT] at H
       exact absurd H (by simp)
     ·rw [if_neg c10] at H
      exact absurd H (by simp)
    ·rw [if_neg c9] at H
     exact absurd H (by simp)
   ·rw [if_neg c7] at H
    exact absurd H (by simp)
  ·rw [if_neg c6] at H
   exact absurd H (by simp)
 ·replace c4:=Bool.eq_false_iff.mpr c4
  subst c4
  rw [qFT] at H
  exact absurd H (by simp)
def sacristylaw01_NatGcds.Pure : Prop:=∀ (l0 : List Int) (l1 : List Int),l0.length ≤ maxLen → l0.length * 1 ≤ 140737488351232 → (∀ x ∈ l0,(Lit.int .u8 x).wf = true) → l1.length ≤ maxLen → l1.length * 1 ≤ 140737488351232 → (∀ x ∈ l1,(Lit.int .u8 x).wf = true) → ∃ k,sacristylaw01_NatGcds.f k l0 l1 = some true
theorem sacristylaw01_NatGcds.walk (P : sacristylaw01_NatGcds.Pure) (a0 : Option Addr) (len0 cap0 : Nat) (z0 : List Int) (a1 : Option Addr) (len1 cap1 : Nat) (z1 : List Int) (w : World) (w0 : (a0 = none ∧ len0 = 0 ∧ cap0 = 0 ∧ z0 = []) ∨ ∃ x,a0 = some x ∧ len0 ≤ cap0 ∧ cap0 ≤ maxLen ∧ z0.length = cap0 ∧ (∀ i,i < z0.length → w.cell? (x.add i) = some (.int .u8 (z0.getD i 0))) ∧ ∀ n ∈ z0,(Lit.int .u8 n).wf = true) (y0 : len0 * 1 ≤ 140737488351232) (w1 : (a1 = none ∧ len1 = 0 ∧ cap1 = 0 ∧ z1 = []) ∨ ∃ x,a1 = some x ∧ len1 ≤ cap1 ∧ cap1 ≤ maxLen ∧ z1.length = cap1 ∧ (∀ i,i < z1.length → w.cell? (x.add i) = some (.int .u8 (z1.getD i 0))) ∧ ∀ n ∈ z1,(Lit.int .u8 n).wf = true) (y1 : len1 * 1 ≤ 140737488351232) :
  Calls Try.prog 10 #[.slice a0 len0 cap0,.slice a1 len1 cap1] w fun e w' => e = .returned (.bool true) ∧ Below w.heap.size w w':=by
 obtain ⟨l0,rfl,hr0,hm0,hw0,hc0⟩:=ReadsInt.ofRowC w0
 obtain ⟨l1,rfl,hr1,hm1,hw1,hc1⟩:=ReadsInt.ofRowC w1
 obtain ⟨k,h⟩:=P l0 l1 hm0 y0 hw0 hm1 y1 hw1
 refine (sacristylaw01_NatGcds.calls k _ _ l0 _ _ l1 true w (Kd.C_of_reads (d:=(0 : Int)) (h1:=fun _ => rfl) hr0) hc0 (Kd.C_of_reads (d:=(0 : Int)) (h1:=fun _ => rfl) hr1) hc1 h).mono ?_
 rintro e w' ⟨rfl,hd⟩
 exact ⟨rfl,hd⟩
end Go.Proofs.Yteejcpbngnojkaa.P
end
section
namespace Go.Proofs.Yteejcpbngnojkaa.P
open Go.RowKit Go.Proofs.YteejcpbngnojkaaW.PrintWords Go.Proofs.YteejcpbngnojkaaW.PrintLast Go.Proofs.YteejcpbngnojkaaW.PrintMore
attribute [local go_sem] max2_int min2_int max_two min_two max_three min_three max_four min_four
set_option linter.unusedVariables false
set_option linter.unusedSimpArgs false
mutual
def sacristyref01_Add.l0 : Nat → List Bool → List Bool → List Bool → Int → Int → Option (List Bool)
 |0,_,_,_,_,_ => none
 |k + 1,x0,x1,x5,x6,x7 => if x7 < (x0.length : Int) then (sacristyref01_Add.j1 k x0 x1 x5 x6 x7 true) else (if x7 < (x1.length : Int) then (sacristyref01_Add.j1 k x0 x1 x5 x6 x7 true) else (sacristyref01_Add.j1 k x0 x1 x5 x6 x7 (decide (x6 > 0))))
def sacristyref01_Add.j1 : Nat → List Bool → List Bool → List Bool → Int → Int → Bool → Option (List Bool)
 |0,_,_,_,_,_,_ => none
 |k + 1,x0,x1,x5,x6,x7,x23 => if x23 = true then ((sacristyref01_at.f x0 x7).bind fun t853 => ((sacristyref01_at.f x1 x7).bind fun t854 => (if x5.length < 140737488355328 then (sacristyref01_Add.l0 k x0 x1 (x5 ++ [((Int.tmod (wrap64 ((wrap64 (t853 + t854)) + x6)) 2) == 1)]) (wrap64 (Int.tdiv (wrap64 ((wrap64 (t853 + t854)) + x6)) 2)) (wrap64 (x7 + 1))) else (none)))) else ((sacristyref01_Trim.f k x5).bind fun t858 => (some t858))
end
def sacristyref01_Add.f (k : Nat) (l0 : List Bool) (l1 : List Bool) : Option (List Bool):=sacristyref01_Add.l0 k l0 l1 (([] : List Bool)) 0 0
theorem sacristyref01_Add.mono_l : ∀ k,(∀ y0 y1 y2 y3 y4,LeO (sacristyref01_Add.l0 k y0 y1 y2 y3 y4) (sacristyref01_Add.l0 (k + 1) y0 y1 y2 y3 y4)) ∧ (∀ y0 y1 y2 y3 y4 y5,LeO (sacristyref01_Add.j1 k y0 y1 y2 y3 y4 y5) (sacristyref01_Add.j1 (k + 1) y0 y1 y2 y3 y4 y5))
 |0 => ⟨fun _ _ _ _ _ r h => by simp [sacristyref01_Add.l0] at h,fun _ _ _ _ _ _ r h => by simp [sacristyref01_Add.j1] at h⟩
 |k + 1 => by
  obtain ⟨ih0,ih1⟩:=sacristyref01_Add.mono_l k
  refine ⟨?_,?_⟩
  ·intro y0 y1 y2 y3 y4
   unfold sacristyref01_Add.l0
   repeat' first
   |(with_reducible exact ih0 _ _ _ _ _)
   |(with_reducible exact ih1 _ _ _ _ _ _)
   |(with_reducible exact sacristyref01_Trim.mono _ _)
   |(with_reducible exact LeO.refl _)
   |(with_reducible exact LeO.none _)
   |(with_reducible refine LeO.ite ?_ ?_)
   |(with_reducible refine LeO.bind ?_ (fun _ => ?_))
   |exact ih0 _ _ _ _ _
   |exact ih1 _ _ _ _ _ _
   |exact sacristyref01_Trim.mono _ _
   |exact LeO.none _
   |refine LeO.ite ?_ ?_
   |refine LeO.bind ?_ (fun _ => ?_)
  ·intro y0 y1 y2 y3 y4 y5
   unfold sacristyref01_Add.j1
   repeat' first
   |(with_reducible exact ih0 _ _ _ _ _)
   |(with_reducible exact ih1 _ _ _ _ _ _)
   |(with_reducible exact sacristyref01_Trim.mono _ _)
   |(with_reducible exact LeO.refl _)
   |(with_reducible exact LeO.none _)
   |(with_reducible refine LeO.ite ?_ ?_)
   |(with_reducible refine LeO.bind ?_ (fun _ => ?_))
   |exact ih0 _ _ _ _ _
   |exact ih1 _ _ _ _ _ _
   |exact sacristyref01_Trim.mono _ _
   |exact LeO.none _
   |refine LeO.ite ?_ ?_
   |refine LeO.bind ?_ (fun _ => ?_)
theorem sacristyref01_Add.mono : ∀ a0 a1 k,LeO (sacristyref01_Add.f k a0 a1) (sacristyref01_Add.f (k + 1) a0 a1):=by
 intro a0 a1 k
 obtain ⟨ih0,ih1⟩:=sacristyref01_Add.mono_l k
 unfold sacristyref01_Add.f
 repeat' first
   |(with_reducible exact ih0 _ _ _ _ _)
   |(with_reducible exact ih1 _ _ _ _ _ _)
   |(with_reducible exact sacristyref01_Trim.mono _ _)
   |(with_reducible exact LeO.refl _)
   |(with_reducible exact LeO.none _)
   |(with_reducible refine LeO.ite ?_ ?_)
   |(with_reducible refine LeO.bind ?_ (fun _ => ?_))
   |exact ih0 _ _ _ _ _
   |exact ih1 _ _ _ _ _ _
   |exact sacristyref01_Trim.mono _ _
   |exact LeO.none _
   |refine LeO.ite ?_ ?_
   |refine LeO.bind ?_ (fun _ => ?_)
end Go.Proofs.Yteejcpbngnojkaa.P
end
section
namespace Go.Proofs.Yteejcpbngnojkaa.P
open Go.RowKit Go.Proofs.YteejcpbngnojkaaW.PrintWords Go.Proofs.YteejcpbngnojkaaW.PrintLast Go.Proofs.YteejcpbngnojkaaW.PrintMore
attribute [local go_sem] max2_int min2_int max_two min_two max_three min_three max_four min_four
set_option linter.unusedVariables false
set_option linter.unusedSimpArgs false
def sacristyref01_Shift.f (l0 : List Bool) (a1 : Int) : Option (List Bool):=if (l0.length : Int) = 0 then (some (([] : List Bool))) else (if 0 ≤ a1 then (if (a1 : Int).toNat ≤ 281474976710656 then ((some (List.replicate (a1 : Int).toNat false : List Bool)).bind fun y864 => (if y864.length + l0.length < 140737488355328 then (some (y864 ++ l0)) else (none))) else (none)) else (none))
end Go.Proofs.Yteejcpbngnojkaa.P
end
section
namespace Go.Proofs.Yteejcpbngnojkaa.P
open Go.RowKit Go.Proofs.YteejcpbngnojkaaW.PrintWords Go.Proofs.YteejcpbngnojkaaW.PrintLast Go.Proofs.YteejcpbngnojkaaW.PrintMore
attribute [local go_sem] max2_int min2_int max_two min_two max_three min_three max_four min_four
set_option linter.unusedVariables false
set_option linter.unusedSimpArgs false
def sacristyref01_Mul.l0 : Nat → List Bool → List Bool → List Bool → Int → Int → Option (List Bool)
 |0,_,_,_,_,_ => none
 |k + 1,x0,x5,x9,x10,x11 => if x11 < x10 then (if 0 ≤ x11 then (if x11 < (x9.length : Int) then (if rdOf false x9 x11 = true then ((sacristyref01_Shift.f x0 x11).bind fun t874 => ((sacristyref01_Add.f k x5 t874).bind fun t877 => (sacristyref01_Mul.l0 k x0 t877 x9 x10 (wrap64 (x11 + 1))))) else (sacristyref01_Mul.l0 k x0 x5 x9 x10 (wrap64 (x11 + 1)))) else (none)) else (none)) else (some x5)
def sacristyref01_Mul.f (k : Nat) (l0 : List Bool) (l1 : List Bool) : Option (List Bool):=sacristyref01_Mul.l0 k l0 (([] : List Bool)) l1 (l1.length : Int) 0
theorem sacristyref01_Mul.mono_l : ∀ k,(∀ y0 y1 y2 y3 y4,LeO (sacristyref01_Mul.l0 k y0 y1 y2 y3 y4) (sacristyref01_Mul.l0 (k + 1) y0 y1 y2 y3 y4))
 |0 => fun _ _ _ _ _ r h => by simp [sacristyref01_Mul.l0] at h
 |k + 1 => by
  have ih0:=sacristyref01_Mul.mono_l k
  ·intro y0 y1 y2 y3 y4
   unfold sacristyref01_Mul.l0
   repeat' first
   |(with_reducible exact ih0 _ _ _ _ _)
   |(with_reducible exact sacristyref01_Add.mono _ _ _)
   |(with_reducible exact LeO.refl _)
   |(with_reducible exact LeO.none _)
   |(with_reducible refine LeO.ite ?_ ?_)
   |(with_reducible refine LeO.bind ?_ (fun _ => ?_))
   |exact ih0 _ _ _ _ _
   |exact sacristyref01_Add.mono _ _ _
   |exact LeO.none _
   |refine LeO.ite ?_ ?_
   |refine LeO.bind ?_ (fun _ => ?_)
theorem sacristyref01_Mul.mono : ∀ a0 a1 k,LeO (sacristyref01_Mul.f k a0 a1) (sacristyref01_Mul.f (k + 1) a0 a1):=by
 intro a0 a1 k
 have ih0:=sacristyref01_Mul.mono_l k
 unfold sacristyref01_Mul.f
 repeat' first
   |(with_reducible exact ih0 _ _ _ _ _)
   |(with_reducible exact sacristyref01_Add.mono _ _ _)
   |(with_reducible exact LeO.refl _)
   |(with_reducible exact LeO.none _)
   |(with_reducible refine LeO.ite ?_ ?_)
   |(with_reducible refine LeO.bind ?_ (fun _ => ?_))
   |exact ih0 _ _ _ _ _
   |exact sacristyref01_Add.mono _ _ _
   |exact LeO.none _
   |refine LeO.ite ?_ ?_
   |refine LeO.bind ?_ (fun _ => ?_)
end Go.Proofs.Yteejcpbngnojkaa.P
end
section
namespace Go.Proofs.Yteejcpbngnojkaa.P
open Go.RowKit Go.Proofs.YteejcpbngnojkaaW.PrintWords Go.Proofs.YteejcpbngnojkaaW.PrintLast Go.Proofs.YteejcpbngnojkaaW.PrintMore
open Go.Proofs.Yteejcpbngnojkaa.Num
set_option linter.unusedVariables false
def gb (l : List Bool) (j : Nat) : Bool := l.getD j false
theorem rdB (l : List Bool) (i : Nat) : rdOf false l (i : Int) = gb l i := by simp [rdOf, gb]
theorem gb_eq {l : List Bool} {j : Nat} (h : j < l.length) : gb l j = l[j] := by simp [gb, List.getD_eq_getElem?_getD, List.getElem?_eq_getElem h]
theorem gb_out {l : List Bool} {j : Nat} (h : l.length ≤ j) : gb l j = false := by simp [gb, List.getD_eq_getElem?_getD, List.getElem?_eq_none h]
theorem wdec {n : Nat} (h : n ≤ 4611686018427387904) : wrap64 (((n + 1 : Nat) : Int) - 1) = (n : Int) := by rw [w64 (by omega) (by omega)]; omega
theorem winc {n : Nat} (h : n ≤ 4611686018427387904) : wrap64 ((n : Int) + 1) = ((n + 1 : Nat) : Int) := by rw [w64 (by omega) (by omega)]; omega
theorem takeB_snoc {l : List Bool} {j : Nat} (h : j < l.length) : l.take (j + 1) = l.take j ++ [gb l j] := by rw [List.take_succ_eq_append_getElem h, gb_eq h]
theorem valB_take_snoc {l : List Bool} {j : Nat} (h : j < l.length) : valB (l.take (j + 1)) = valB (l.take j) + 2 ^ j * (gb l j).toNat := by
  rw [takeB_snoc h, valB_snoc, List.length_take, Nat.min_eq_left (by omega)]
theorem rTrim_ev (l : List Bool) (hn : l.length ≤ 4611686018427387904) : Ev (fun k => sacristyref01_Trim.f k l) (toB (valB l)) := by
  unfold sacristyref01_Trim.f
  generalize hm : l.length = m
  induction m generalizing l with
  | zero =>
    obtain rfl := List.eq_nil_of_length_eq_zero hm
    refine Ev.step (f := fun _ => some []) (fun k => by simp [sacristyref01_Trim.l0]) ?_
    rw [valB_nil, toB_zero]
    exact Ev.now _
  | succ m ih =>
    have hne : l ≠ [] := fun e => by subst e; simp at hm
    obtain ⟨l', x, rfl⟩ : ∃ l' x, l = l' ++ [x] := ⟨l.dropLast, l.getLast hne, (List.dropLast_concat_getLast hne).symm⟩
    have hm' : l'.length = m := by simpa using hm
    have hm4 : m ≤ 4611686018427387904 := by simp at hn; omega
    have hlen : ((l' ++ [x]).length : Int) = ((m + 1 : Nat) : Int) := by rw [hm]
    have c1 : ((m + 1 : Nat) : Int) > 0 := by omega
    have c2 : (0 : Int) ≤ (m : Int) := by omega
    have c3 : (m : Int) < ((m + 1 : Nat) : Int) := by omega
    have c4 : (m : Int) ≤ ((m + 1 : Nat) : Int) := by omega
    have hw := wdec hm4
    have hrd : rdOf false (l' ++ [x]) (m : Int) = x := by rw [rdB]; simp [gb, List.getD_eq_getElem?_getD, ← hm']
    cases x with
    | false =>
      refine Ev.step (f := fun k => sacristyref01_Trim.l0 k l') (fun k => ?_) ?_
      · simp only [sacristyref01_Trim.l0]
        rw [hlen, hw, if_pos c1, if_pos c2, if_pos c3, hrd, if_neg (by decide), if_pos c4, Int.toNat_natCast, ← hm', List.take_left' rfl]
      · rw [toB_valB_snoc_false]
        exact ih l' (by omega) hm'
    | true =>
      refine Ev.step (f := fun _ => some (l' ++ [true])) (fun k => ?_) ?_
      · simp only [sacristyref01_Trim.l0]
        rw [hlen, hw, if_pos c1, if_pos c2, if_pos c3, hrd, if_pos rfl]
      · rw [toB_valB_true]
        exact Ev.now _
def bitsFrom (x : Nat) : Nat → Nat → List Bool
  | _, 0 => []
  | j, d + 1 => (x / 2 ^ j % 2 == 1) :: bitsFrom x (j + 1) d
theorem bitsFrom_len (x j d : Nat) : (bitsFrom x j d).length = d := by
  induction d generalizing j with
  | zero => rfl
  | succ d ih => simp [bitsFrom, ih]
theorem bit_toNat (n : Nat) : (n % 2 == 1).toNat = n % 2 := by
  have := Nat.mod_lt n (show 0 < 2 by omega)
  rcases Nat.mod_two_eq_zero_or_one n with h | h <;> rw [h] <;> rfl
theorem bitsFrom_val (x j d : Nat) : valB (bitsFrom x j d) = x / 2 ^ j % 2 ^ d := by
  induction d generalizing j with
  | zero => simp [bitsFrom, valB_nil, Nat.mod_one]
  | succ d ih =>
    rw [bitsFrom, valB_cons, ih, bit_toNat, Nat.pow_succ 2 j, ← Nat.div_div_eq_div_mul, Nat.pow_succ, Nat.mul_comm (2 ^ d) 2, Nat.mod_mul]
theorem of_bit (x : Int) (j : Nat) (h0 : 0 ≤ x) (h : x < 256) (hj : j < 8) : (Int.tmod (shr .u8 x (j : Int)) 2 == 1) = (x.toNat / 2 ^ j % 2 == 1) := by
  obtain ⟨n, rfl⟩ := Int.eq_ofNat_of_zero_le h0
  have hmin : min j IntKind.u8.bits = j := Nat.min_eq_left (by show j ≤ 8; omega)
  unfold shr
  rw [Int.toNat_natCast, hmin, Int.toNat_natCast]
  have h2 : (2 : Int) ^ j = ((2 ^ j : Nat) : Int) := by simp
  rw [h2, ← Int.natCast_ediv]
  generalize n / 2 ^ j = N
  rw [show (2 : Int) = ((2 : Nat) : Int) from rfl, ← Int.ofNat_tmod]
  rw [Bool.eq_iff_iff, beq_iff_eq, beq_iff_eq]
  omega
theorem rOf_inner (l : List Int) (hb : Bytes l) (i : Nat) (hi : i < l.length) (r : List Bool) (d : Nat) : ∀ (j : Nat) (acc : List Bool), j + d = 8 → acc.length + d ≤ 1000000 → Ev (fun k => sacristyref01_Of.l0 k l (acc ++ bitsFrom (gw l i).toNat j d) (wrap64 ((i : Int) - 1))) r → Ev (fun k => sacristyref01_Of.l1 k l acc (i : Int) (j : Int)) r := by
  induction d with
  | zero =>
    intro j acc hj hacc hev
    obtain rfl : j = 8 := by omega
    simp only [bitsFrom, List.append_nil] at hev
    exact Ev.step (fun k => by simp only [sacristyref01_Of.l1]; rw [if_neg (by omega)]) hev
  | succ d ih =>
    intro j acc hj hacc hev
    have c1 : (j : Int) < 8 := by omega
    have c2 : (0 : Int) ≤ (i : Int) := by omega
    have c3 : (i : Int) < (l.length : Int) := by omega
    have c4 : (0 : Int) ≤ (j : Int) := by omega
    have c5 : acc.length < 140737488355328 := by omega
    have hj8 : j < 8 := by omega
    have hjd : j + 1 + d = 8 := by omega
    have hw := winc (n := j) (by omega)
    have g := hb.gw i
    refine Ev.step (f := fun k => sacristyref01_Of.l1 k l (acc ++ [((gw l i).toNat / 2 ^ j % 2 == 1)]) (i : Int) ((j + 1 : Nat) : Int)) (fun k => ?_) ?_
    · simp only [sacristyref01_Of.l1]
      rw [if_pos c1, if_pos c2, if_pos c3, if_pos c4, if_pos c5, hw, rd_gw, of_bit _ j g.1 g.2 hj8]
    · refine ih (j + 1) _ hjd (by simp; omega) ?_
      rw [List.append_assoc]
      exact hev
theorem rOf_outer (l : List Int) (hb : Bytes l) (n : Nat) : ∀ (acc : List Bool), n ≤ l.length → acc.length + 8 * n ≤ 900000 → Ev (fun k => sacristyref01_Of.l0 k l acc ((n : Int) - 1)) (toB (valB acc + 2 ^ acc.length * valL (l.take n).reverse)) := by
  induction n with
  | zero =>
    intro acc hn hacc
    have ht := rTrim_ev acc (by omega)
    refine Ev.step (fun k => by simp only [sacristyref01_Of.l0]; rw [if_neg (by omega)]) (Ev.bind (f := fun _ t => some t) ht ?_)
    simp only [List.take_zero, List.reverse_nil, show valL [] = 0 from rfl, Nat.mul_zero, Nat.add_zero]
    exact Ev.now _
  | succ n ih =>
    intro acc hn hacc
    have c1 : ((n : Nat) : Int) ≥ 0 := by omega
    have e1 : ((n + 1 : Nat) : Int) - 1 = (n : Int) := by omega
    have hw : wrap64 ((n : Int) - 1) = (n : Int) - 1 := w64 (by omega) (by omega)
    have g := hb.gw n
    have hlt : (gw l n).toNat < 256 := by omega
    have hn1 : n < l.length := by omega
    rw [e1]
    refine Ev.step (f := fun k => sacristyref01_Of.l1 k l acc (n : Int) 0) (fun k => by simp only [sacristyref01_Of.l0]; rw [if_pos c1]) ?_
    refine rOf_inner l hb n hn1 _ 8 0 acc rfl (by omega) ?_
    rw [hw]
    have h := ih (acc ++ bitsFrom (gw l n).toNat 0 8) (by omega) (by rw [List.length_append, bitsFrom_len]; omega)
    have e2 : valB (acc ++ bitsFrom (gw l n).toNat 0 8) + 2 ^ (acc ++ bitsFrom (gw l n).toNat 0 8).length * valL (l.take n).reverse = valB acc + 2 ^ acc.length * valL (l.take (n + 1)).reverse := by
      have e3 : (l.take (n + 1)).reverse = gw l n :: (l.take n).reverse := by rw [take_snoc hn1, List.reverse_append]; rfl
      rw [e3, valL_cons, valB_append, bitsFrom_val, List.length_append, bitsFrom_len, Nat.pow_add]
      simp only [Nat.pow_zero, Nat.div_one]
      rw [Nat.mod_eq_of_lt hlt]
      generalize (gw l n).toNat = x
      generalize valL (l.take n).reverse = V
      generalize 2 ^ acc.length = P
      grind
    rw [e2] at h
    exact h
theorem rOf_ev (l : List Int) (hb : Bytes l) (hn : l.length ≤ 100000) : Ev (fun k => sacristyref01_Of.f k l) (toB (valH l)) := by
  unfold sacristyref01_Of.f
  have hw : wrap64 ((l.length : Int) - 1) = (l.length : Int) - 1 := w64 (by omega) (by omega)
  rw [hw]
  have h := rOf_outer l hb l.length [] (Nat.le_refl _) (by simp; omega)
  rw [List.take_length] at h
  simpa [valB_nil, valH] using h
theorem rSmall_ev (x : Nat) : ∀ (acc : List Bool), x < 18446744073709551616 → acc.length + (toB x).length ≤ 1000 → Ev (fun k => sacristyref01_Small.l0 k (x : Int) acc) (acc ++ toB x) := by
  induction x using Nat.strongRecOn with
  | ind x ih =>
    intro acc hx hacc
    by_cases h0 : x = 0
    · subst h0
      rw [toB_zero, List.append_nil]
      exact Ev.step (fun k => by simp only [sacristyref01_Small.l0]; rw [if_neg (by omega)]) (Ev.now _)
    · rw [toB_pos (by omega)] at hacc ⊢
      have c1 : (x : Int) > 0 := by omega
      have c2 : acc.length < 140737488355328 := by omega
      have e1 : IntKind.u64.wrap (Int.tdiv (x : Int) 2) = ((x / 2 : Nat) : Int) := by
        rw [show (2 : Int) = ((2 : Nat) : Int) from rfl, ← Int.ofNat_tdiv, wu64 (by omega) (by omega)]
      have e2 : (Int.tmod (x : Int) 2 == 1) = (x % 2 == 1) := by
        rw [show (2 : Int) = ((2 : Nat) : Int) from rfl, ← Int.ofNat_tmod, Bool.eq_iff_iff, beq_iff_eq, beq_iff_eq]; omega
      have h := ih (x / 2) (by omega) (acc ++ [(x % 2 == 1)]) (by omega) (by simp at hacc ⊢; omega)
      rw [List.append_assoc] at h
      refine Ev.step (fun k => ?_) h
      simp only [sacristyref01_Small.l0]
      rw [if_pos c1, if_pos c2, e1, e2]
theorem rSmall (x : Nat) (hx : x < 18446744073709551616) : Ev (fun k => sacristyref01_Small.f k (x : Int)) (toB x) := by
  have h64 : (toB x).length ≤ 64 := toB_len_le 64 x hx
  have := rSmall_ev x [] hx (by simp; omega)
  simpa [sacristyref01_Small.f] using this
theorem rCmp_loop (a b : List Bool) (n : Nat) : n ≤ a.length → n ≤ b.length → n ≤ 1000000 → Ev (fun k => sacristyref01_Cmp.l0 k a b ((n : Int) - 1)) (cmpN (valB (a.take n)) (valB (b.take n))) := by
  induction n with
  | zero =>
    intro ha hb hn
    refine Ev.step (f := fun _ => some 0) (fun k => by simp only [sacristyref01_Cmp.l0]; rw [if_neg (by omega)]) ?_
    simp only [List.take_zero, cmpN, Nat.lt_irrefl, if_false, if_true]
    exact Ev.now _
  | succ n ih =>
    intro ha hb hn
    have e1 : ((n + 1 : Nat) : Int) - 1 = (n : Int) := by omega
    have c1 : (n : Int) ≥ 0 := by omega
    have c2 : (0 : Int) ≤ (n : Int) := by omega
    have c3 : (n : Int) < (a.length : Int) := by omega
    have c4 : (n : Int) < (b.length : Int) := by omega
    have hw : wrap64 ((n : Int) - 1) = (n : Int) - 1 := w64 (by omega) (by omega)
    have hA := valB_lt (a.take n)
    have hB := valB_lt (b.take n)
    rw [List.length_take, Nat.min_eq_left (by omega)] at hA hB
    have h := ih (by omega) (by omega) (by omega)
    rw [e1, valB_take_snoc (by omega), valB_take_snoc (by omega)]
    generalize valB (a.take n) = A at *
    generalize valB (b.take n) = B at *
    generalize hP : 2 ^ n = P at *
    cases hx : gb a n <;> cases hy : gb b n
    · simp only [Bool.toNat_false, Nat.mul_zero, Nat.add_zero]
      refine Ev.step (fun k => ?_) h
      simp only [sacristyref01_Cmp.l0]
      rw [if_pos c1, if_pos c2, if_pos c3, if_pos c4, rdB, rdB, hx, hy, if_neg (by decide), hw]
    · refine Ev.step (f := fun _ => some (-1)) (fun k => ?_) ?_
      · simp only [sacristyref01_Cmp.l0]
        rw [if_pos c1, if_pos c2, if_pos c3, if_pos c4, rdB, rdB, hx, hy, if_pos (by decide), if_pos rfl]
      · have : cmpN (A + P * false.toNat) (B + P * true.toNat) = -1 := by
          simp only [Bool.toNat_false, Bool.toNat_true, cmpN]; rw [if_pos (by omega)]
        rw [this]; exact Ev.now _
    · refine Ev.step (f := fun _ => some 1) (fun k => ?_) ?_
      · simp only [sacristyref01_Cmp.l0]
        rw [if_pos c1, if_pos c2, if_pos c3, if_pos c4, rdB, rdB, hx, hy, if_pos (by decide), if_neg (by decide)]
      · have : cmpN (A + P * true.toNat) (B + P * false.toNat) = 1 := by
          simp only [Bool.toNat_false, Bool.toNat_true, cmpN]; rw [if_neg (by omega), if_neg (by omega)]
        rw [this]; exact Ev.now _
    · have e2 : cmpN (A + P * true.toNat) (B + P * true.toNat) = cmpN A B := by
        simp only [Bool.toNat_true, Nat.mul_one]
        have e3 : (A + P < B + P) ↔ A < B := by omega
        have e4 : (A + P = B + P) ↔ A = B := by omega
        simp only [cmpN, e3, e4]
      rw [e2]
      refine Ev.step (fun k => ?_) h
      simp only [sacristyref01_Cmp.l0]
      rw [if_pos c1, if_pos c2, if_pos c3, if_pos c4, rdB, rdB, hx, hy, if_neg (by decide), hw]
theorem rCmp_ev (a b : Nat) (ha : (toB a).length ≤ 1000000) (hb : (toB b).length ≤ 1000000) : Ev (fun k => sacristyref01_Cmp.f k (toB a) (toB b)) (cmpN a b) := by
  unfold sacristyref01_Cmp.f
  by_cases h1 : (toB a).length < (toB b).length
  · have h2 := toB_len_lt h1
    have h3 := toB_lt a
    refine Ev.congr (f := fun _ => some (cmpN a b)) (fun k => ?_) (Ev.now _)
    have : cmpN a b = -1 := by unfold cmpN; rw [if_pos (by omega)]
    rw [if_pos (by omega), this]
  · by_cases h4 : (toB b).length < (toB a).length
    · have h2 := toB_len_lt h4
      have h3 := toB_lt b
      refine Ev.congr (f := fun _ => some (cmpN a b)) (fun k => ?_) (Ev.now _)
      have : cmpN a b = 1 := by unfold cmpN; rw [if_neg (by omega), if_neg (by omega)]
      rw [if_neg (by omega), if_pos (by omega), this]
    · have hl : (toB b).length = (toB a).length := by omega
      have h := rCmp_loop (toB a) (toB b) (toB a).length (Nat.le_refl _) (by omega) ha
      rw [List.take_length, ← hl, List.take_length, valB_toB, valB_toB, hl] at h
      refine Ev.congr (fun k => ?_) h
      rw [if_neg (by omega), if_neg (by omega), w64 (by omega) (by omega)]
theorem gb_toB (a i : Nat) : (gb (toB a) i).toNat = a / 2 ^ i % 2 := by
  by_cases h : i < (toB a).length
  · rw [gb_eq h, toB_get, bit_toNat]
  · rw [gb_out (by omega)]
    have h1 := toB_lt a
    have h2 : 2 ^ (toB a).length ≤ 2 ^ i := Nat.pow_le_pow_right (by omega) (by omega)
    rw [Nat.div_eq_of_lt (by omega)]
    rfl
theorem at_toB (a i : Nat) : sacristyref01_at.f (toB a) (i : Int) = some ((a / 2 ^ i % 2 : Nat) : Int) := by
  have hg := gb_toB a i
  unfold sacristyref01_at.f
  rw [if_pos (by omega)]
  by_cases h : i < (toB a).length
  · rw [if_pos (by omega), if_pos (by omega), rdB]
    cases hb : gb (toB a) i with
    | false => rw [if_neg (by decide), ← hg, hb]; rfl
    | true => rw [if_pos rfl, ← hg, hb]; rfl
  · rw [if_neg (by omega), ← hg, gb_out (by omega)]; rfl
theorem mod_snoc (a i : Nat) : a % 2 ^ (i + 1) = a % 2 ^ i + 2 ^ i * (a / 2 ^ i % 2) := Nat.mod_pow_succ ..
theorem rSub_loop (a b : Nat) (hab : b ≤ a) (hla : (toB a).length ≤ 1000000) (d : Nat) : ∀ (i c : Nat) (acc : List Bool), i + d = (toB a).length → acc.length = i → c ≤ 1 → valB acc + b % 2 ^ i = a % 2 ^ i + 2 ^ i * c →
    Ev (fun k => sacristyref01_Sub.l0 k (toB a) (toB b) acc (c : Int) (i : Int)) (toB (a - b)) := by
  induction d with
  | zero =>
    intro i c acc hi hl hc he
    replace he := Aside0.mk he
    have ha := toB_lt a
    rw [show (toB a).length = i by omega] at ha
    have ht := rTrim_ev acc (by omega)
    have hv : valB acc = a - b := by
      have := valB_lt acc
      rw [hl] at this
      have h4 : b < 2 ^ i := by omega
      have he := he.out
      rw [Nat.mod_eq_of_lt ha, Nat.mod_eq_of_lt h4] at he
      rcases Nat.eq_zero_or_pos c with h | h
      · subst h; omega
      · obtain rfl : c = 1 := by omega
        omega
    rw [hv] at ht
    exact Ev.step (fun k => by simp only [sacristyref01_Sub.l0]; rw [if_neg (by omega)]) (Ev.bind (f := fun _ t => some t) ht (Ev.now _))
  | succ d ih =>
    intro i c acc hi hl hc he
    replace he := Aside0.mk he
    have ha2 : a / 2 ^ i % 2 ≤ 1 := by have := Nat.mod_lt (a / 2 ^ i) (show 0 < 2 by omega); omega
    have hb2 : b / 2 ^ i % 2 ≤ 1 := by have := Nat.mod_lt (b / 2 ^ i) (show 0 < 2 by omega); omega
    have hma := Aside0.mk (mod_snoc a i)
    have hmb := Aside0.mk (mod_snoc b i)
    have hi4 : i ≤ 4611686018427387904 := by omega
    have hal : acc.length < 140737488355328 := by omega
    have c1 : (i : Int) < ((toB a).length : Int) := by omega
    have ata := at_toB a i
    have atb := at_toB b i
    have i1 : i + 1 + d = (toB a).length := by omega
    generalize a / 2 ^ i % 2 = x at *
    generalize b / 2 ^ i % 2 = y at *
    have e1 : wrap64 (wrap64 ((x : Int) - (y : Int)) - (c : Int)) = (x : Int) - (y : Int) - (c : Int) := by rw [w64 (x := (x : Int) - (y : Int)) (by omega) (by omega), w64 (by omega) (by omega)]
    have hzero : (0 : Nat) ≤ 1 := by decide
    have e5 : (x : Int) - (y : Int) - (c : Int) < 0 → (wrap64 ((x : Int) - (y : Int) - (c : Int) + 2) == 1) = ((x + 2 - y - c) % 2 == 1) := fun hneg => by
      clear e1
      rw [w64 (by omega) (by omega), Bool.eq_iff_iff, beq_iff_eq, beq_iff_eq]; omega
    have e6 : ¬ (x : Int) - (y : Int) - (c : Int) < 0 → ((x : Int) - (y : Int) - (c : Int) == 1) = ((x - y - c) % 2 == 1) := fun hneg => by
      clear e1 e5
      rw [Bool.eq_iff_iff, beq_iff_eq, beq_iff_eq]; omega
    have e7 : (x : Int) - (y : Int) - (c : Int) < 0 → (x + 2 - y - c) % 2 + y + c = x + 2 := fun hneg => by clear e1 e5 e6; omega
    have e8 : ¬ (x : Int) - (y : Int) - (c : Int) < 0 → (x - y - c) % 2 + y + c = x := fun hneg => by clear e1 e5 e6 e7; omega
    have hw := winc (n := i) hi4
    by_cases hneg : (x : Int) - (y : Int) - (c : Int) < 0
    · have e2 := e5 hneg
      have hrec := ih (i + 1) 1 (acc ++ [((x + 2 - y - c) % 2 == 1)]) i1 (by simp [hl]) (by decide) (by
        have hs : (x + 2 - y - c) % 2 + y + c = x + 2 := e7 hneg
        rw [valB_snoc, bit_toNat, hma.out, hmb.out, hl, Nat.pow_succ]
        have he := he.out
        generalize (x + 2 - y - c) % 2 = s at *
        generalize 2 ^ i = P at *
        generalize a % P = A at *
        generalize b % P = B at *
        clear e1 e2 e5 e6 e7 e8 hw ata atb ih hneg hma hmb
        grind)
      refine Ev.step (fun k => ?_) hrec
      simp only [sacristyref01_Sub.l0]
      rw [if_pos c1, ata]
      simp only [Option.bind_some]
      rw [atb]
      simp only [Option.bind_some]
      rw [e1, if_pos hneg, if_pos hal, e2, hw]
      rfl
    · have e2 := e6 hneg
      have hrec := ih (i + 1) 0 (acc ++ [((x - y - c) % 2 == 1)]) i1 (by simp [hl]) (by decide) (by
        have hs : (x - y - c) % 2 + y + c = x := e8 hneg
        rw [valB_snoc, bit_toNat, hma.out, hmb.out, hl, Nat.pow_succ]
        have he := he.out
        generalize (x - y - c) % 2 = s at *
        generalize 2 ^ i = P at *
        generalize a % P = A at *
        generalize b % P = B at *
        clear e1 e2 e5 e6 e7 e8 hw ata atb ih hneg hma hmb
        grind)
      refine Ev.step (fun k => ?_) hrec
      simp only [sacristyref01_Sub.l0]
      rw [if_pos c1, ata]
      simp only [Option.bind_some]
      rw [atb]
      simp only [Option.bind_some]
      rw [e1, if_neg hneg, if_pos hal, e2, hw]
      rfl
theorem rSub_ev (a b : Nat) (hab : b ≤ a) (ha : (toB a).length ≤ 1000000) : Ev (fun k => sacristyref01_Sub.f k (toB a) (toB b)) (toB (a - b)) := by
  unfold sacristyref01_Sub.f
  exact rSub_loop a b hab ha (toB a).length 0 0 [] (by omega) rfl (by omega) (by simp [valB_nil, Nat.mod_one])
theorem rDiv_loop (a b : Nat) (hb : 0 < b) (ha : (toB a).length ≤ 400000) (hlb : (toB b).length ≤ 400000) (n : Nat) : ∀ (q : List Bool), n ≤ (toB a).length → q.length = (toB a).length → valB (q.take n) = 0 → valB (q.drop n) = a / 2 ^ n / b →
    Ev (fun k => sacristyref01_Div.l0 k (toB a) (toB b) q (toB (a / 2 ^ n % b)) ((n : Int) - 1)) (toB (a / b), toB (a % b)) := by
  have hbl := toB_lt b
  induction n with
  | zero =>
    intro q hn hq h0 h1
    simp only [List.drop_zero, Nat.pow_zero, Nat.div_one] at h1 ⊢
    have ht := rTrim_ev q (by omega)
    rw [h1] at ht
    exact Ev.step (fun k => by simp only [sacristyref01_Div.l0]; rw [if_neg (by omega)]) (Ev.bind (f := fun _ t => some (t, toB (a % b))) ht (Ev.now _))
  | succ n ih =>
    intro q hn hq h0 h1
    have e1 : ((n + 1 : Nat) : Int) - 1 = (n : Int) := by omega
    have c1 : (n : Int) ≥ 0 := by omega
    have c2 : (0 : Int) ≤ (n : Int) := by omega
    have c3 : (n : Int) < ((toB a).length : Int) := by omega
    have c4 : (n : Int) < (q.length : Int) := by omega
    have hnq : n < q.length := by omega
    have hnl : n ≤ (toB a).length := by omega
    have hw : wrap64 ((n : Int) - 1) = (n : Int) - 1 := w64 (by omega) (by omega)
    have hg := gb_toB a n
    have hx1 : a / 2 ^ n % 2 ≤ 1 := by have := Nat.mod_lt (a / 2 ^ n) (show 0 < 2 by omega); omega
    have hX : a / 2 ^ n = 2 * (a / 2 ^ (n + 1)) + a / 2 ^ n % 2 := by rw [Nat.pow_succ, ← Nat.div_div_eq_div_mul]; omega
    have hR := Nat.mod_lt (a / 2 ^ (n + 1)) hb
    have hrow : valB ([gb (toB a) n] ++ toB (a / 2 ^ (n + 1) % b)) = a / 2 ^ n % 2 + 2 * (a / 2 ^ (n + 1) % b) := by
      rw [valB_append, valB_one, valB_toB, hg]; rfl
    have hRl : (toB (a / 2 ^ (n + 1) % b)).length ≤ 400000 := Nat.le_trans (toB_len_le (toB b).length _ (by omega)) hlb
    have hlen : ([gb (toB a) n] ++ toB (a / 2 ^ (n + 1) % b)).length ≤ 4611686018427387904 := by simp; omega
    have c5 : [gb (toB a) n].length + (toB (a / 2 ^ (n + 1) % b)).length < 140737488355328 := by simp; omega
    have htr := rTrim_ev _ hlen
    rw [hrow] at htr
    have hdiv := Nat.div_add_mod (a / 2 ^ (n + 1)) b
    have hdl : valB (q.take n) = 0 ∧ gb q n = false := by
      rw [valB_take_snoc hnq] at h0
      have hp : 0 < 2 ^ n := Nat.pow_pos (by omega)
      cases hgq : gb q n with
      | false => rw [hgq] at h0; simp at h0; exact ⟨h0, rfl⟩
      | true => rw [hgq] at h0; simp at h0
    have hqd : valB (q.drop n) = (gb q n).toNat + 2 * valB (q.drop (n + 1)) := by rw [List.drop_eq_getElem_cons hnq, valB_cons, gb_eq hnq]
    have htl : (toB (a / 2 ^ n % 2 + 2 * (a / 2 ^ (n + 1) % b))).length ≤ 1000000 := by
      refine Nat.le_trans (toB_len_le ((toB b).length + 1) _ ?_) (by omega)
      rw [Nat.pow_succ 2 (toB b).length]; omega
    have hcmp := rCmp_ev (a / 2 ^ n % 2 + 2 * (a / 2 ^ (n + 1) % b)) b htl (by omega)
    rw [e1]
    by_cases hge : b ≤ a / 2 ^ n % 2 + 2 * (a / 2 ^ (n + 1) % b)
    · have hsub := rSub_ev _ _ hge htl
      have hq1 : a / 2 ^ n / b = 2 * (a / 2 ^ (n + 1) / b) + 1 ∧ a / 2 ^ n % b = a / 2 ^ n % 2 + 2 * (a / 2 ^ (n + 1) % b) - b := by
        generalize a / 2 ^ (n + 1) / b = Q at *
        generalize a / 2 ^ (n + 1) % b = R at *
        generalize a / 2 ^ n % 2 = x at *
        have e5 : a / 2 ^ n = (x + 2 * R - b) + b * (2 * Q + 1) := by
          rw [hX, ← hdiv, Nat.mul_add b, Nat.mul_one, Nat.mul_left_comm b]; omega
        rw [e5]
        constructor
        · rw [Nat.add_mul_div_left _ _ hb, Nat.div_eq_of_lt (by omega)]; omega
        · rw [Nat.add_mul_mod_self_left, Nat.mod_eq_of_lt (by omega)]
      have hrec := ih (q.set n true) hnl (by rw [List.length_set]; exact hq) (by rw [List.take_set_of_le (Nat.le_refl _)]; exact hdl.1) (by
        rw [List.drop_eq_getElem_cons (l := q.set n true) (by rw [List.length_set]; exact hnq), List.getElem_set_self, List.drop_set_of_lt (by omega), valB_cons, h1, hq1.1]
        simp; omega)
      rw [hq1.2] at hrec
      have hcn : cmpN (a / 2 ^ n % 2 + 2 * (a / 2 ^ (n + 1) % b)) b ≥ 0 := cmpN_le.2 hge
      refine Ev.step (f := fun k => (sacristyref01_Trim.f k ([gb (toB a) n] ++ toB (a / 2 ^ (n + 1) % b))).bind fun t => (sacristyref01_Cmp.f k t (toB b)).bind fun c => if c ≥ 0 then ((sacristyref01_Sub.f k t (toB b)).bind fun t766 => (if (n : Int) < (q.length : Int) then (sacristyref01_Div.l0 k (toB a) (toB b) (q.set n true) t766 ((n : Int) - 1)) else (none))) else (sacristyref01_Div.l0 k (toB a) (toB b) q t ((n : Int) - 1))) (fun k => ?_) (Ev.bind htr (Ev.bind hcmp ?_))
      · simp only [sacristyref01_Div.l0]
        rw [if_pos c1, if_pos c2, if_pos c3, rdB, hw, Int.toNat_natCast]
        refine (Option.bind_some _ _).trans ?_
        rw [if_pos c5]
      · refine Ev.congr (fun k => ?_) (Ev.bind (f := fun k t766 => sacristyref01_Div.l0 k (toB a) (toB b) (q.set n true) t766 ((n : Int) - 1)) hsub hrec)
        rw [if_pos hcn]
        simp only [if_pos c4]
    · have hq1 : a / 2 ^ n / b = 2 * (a / 2 ^ (n + 1) / b) ∧ a / 2 ^ n % b = a / 2 ^ n % 2 + 2 * (a / 2 ^ (n + 1) % b) := by
        generalize a / 2 ^ (n + 1) / b = Q at *
        generalize a / 2 ^ (n + 1) % b = R at *
        generalize a / 2 ^ n % 2 = x at *
        have e5 : a / 2 ^ n = (x + 2 * R) + b * (2 * Q) := by
          rw [hX, ← hdiv, Nat.mul_left_comm b]; omega
        rw [e5]
        constructor
        · rw [Nat.add_mul_div_left _ _ hb, Nat.div_eq_of_lt (by omega)]; omega
        · rw [Nat.add_mul_mod_self_left, Nat.mod_eq_of_lt (by omega)]
      have hrec := ih q hnl hq hdl.1 (by rw [hqd, hdl.2, h1, hq1.1]; simp)
      rw [hq1.2] at hrec
      have hcn : ¬ cmpN (a / 2 ^ n % 2 + 2 * (a / 2 ^ (n + 1) % b)) b ≥ 0 := fun h => hge (cmpN_le.1 h)
      refine Ev.step (f := fun k => (sacristyref01_Trim.f k ([gb (toB a) n] ++ toB (a / 2 ^ (n + 1) % b))).bind fun t => (sacristyref01_Cmp.f k t (toB b)).bind fun c => if c ≥ 0 then ((sacristyref01_Sub.f k t (toB b)).bind fun t766 => (if (n : Int) < (q.length : Int) then (sacristyref01_Div.l0 k (toB a) (toB b) (q.set n true) t766 ((n : Int) - 1)) else (none))) else (sacristyref01_Div.l0 k (toB a) (toB b) q t ((n : Int) - 1))) (fun k => ?_) (Ev.bind htr (Ev.bind hcmp ?_))
      · simp only [sacristyref01_Div.l0]
        rw [if_pos c1, if_pos c2, if_pos c3, rdB, hw, Int.toNat_natCast]
        refine (Option.bind_some _ _).trans ?_
        rw [if_pos c5]
      · refine Ev.congr (fun k => ?_) hrec
        rw [if_neg hcn]
theorem rDiv_ev (a b : Nat) (hb : 0 < b) (ha : (toB a).length ≤ 400000) (hlb : (toB b).length ≤ 400000) : Ev (fun k => sacristyref01_Div.f k (toB a) (toB b)) (toB (a / b), toB (a % b)) := by
  unfold sacristyref01_Div.f
  have hlt := toB_lt a
  have h := rDiv_loop a b hb ha hlb (toB a).length (List.replicate (toB a).length false) (Nat.le_refl _) (by simp) (by rw [List.take_of_length_le (by simp), valB_falses]) (by rw [List.drop_of_length_le (by simp), Nat.div_eq_of_lt hlt, Nat.zero_div]; rfl)
  rw [Nat.div_eq_of_lt hlt, Nat.zero_mod, toB_zero] at h
  refine Ev.congr (fun k => ?_) h
  rw [if_pos (by omega), Int.toNat_natCast, if_pos (by omega), w64 (by omega) (by omega)]
theorem rGcd_ev (b : Nat) : ∀ (a : Nat), (toB a).length ≤ 400000 → (toB b).length ≤ 400000 → Ev (fun k => sacristyref01_Gcd.f k (toB a) (toB b)) (toB (Nat.gcd a b)) := by
  unfold sacristyref01_Gcd.f
  induction b using Nat.strongRecOn with
  | ind b ih =>
    intro a ha hb
    by_cases h0 : b = 0
    · subst h0
      rw [Nat.gcd_zero_right, toB_zero]
      exact Ev.step (f := fun _ => some (toB a)) (fun k => by simp [sacristyref01_Gcd.l0]) (Ev.now _)
    · have hbp : 0 < b := Nat.pos_of_ne_zero h0
      have hne : (toB b).length ≠ 0 := by rw [Ne, List.length_eq_zero_iff, toB_eq_nil]; exact h0
      have hm := Nat.mod_lt a hbp
      have hml : (toB (a % b)).length ≤ 400000 := Nat.le_trans (toB_len_le (toB b).length _ (by have := toB_lt b; omega)) hb
      have h := ih (a % b) hm b hb hml
      have hg : Nat.gcd a b = Nat.gcd b (a % b) := by rw [Nat.gcd_comm a b, Nat.gcd_rec b a, Nat.gcd_comm]
      rw [hg]
      refine Ev.step (fun k => ?_) (Ev.bind (f := fun k bt => sacristyref01_Gcd.l0 k (toB b) bt.2) (rDiv_ev a b hbp ha hb) h)
      simp only [sacristyref01_Gcd.l0]
      rw [if_pos (by omega)]
end Go.Proofs.Yteejcpbngnojkaa.P
end
section
namespace Go.Proofs.Yteejcpbngnojkaa.P
open Go.RowKit Go.Proofs.YteejcpbngnojkaaW.PrintWords Go.Proofs.YteejcpbngnojkaaW.PrintLast Go.Proofs.YteejcpbngnojkaaW.PrintMore
open Go.Proofs.Yteejcpbngnojkaa.Num
set_option linter.unusedVariables false
theorem pw_two (q : Nat) : pw q = 2 ^ (32 * q) := by
  unfold pw; rw [show (4294967296 : Nat) = 2 ^ 32 from by decide, ← Nat.pow_mul]
theorem pow256 (i : Nat) : 256 ^ i = pw (i / 4) * 2 ^ (8 * (i % 4)) := by
  rw [pw_two, ← Nat.pow_add, show (256 : Nat) = 2 ^ 8 from by decide, ← Nat.pow_mul]
  congr 1
  omega
theorem toB_len_eq {n L : Nat} (hL : 0 < L) (h1 : n < 2 ^ L) (h2 : 2 ^ (L - 1) ≤ n) : (toB n).length = L := by
  have h3 := toB_len_le L n h1
  have h4 := toB_len_gt (L - 1) n h2
  omega
theorem bits_len {n m r : Nat} (hm : 1 ≤ m) (hr : 0 < r) (h1 : n / pw (m - 1) < 2 ^ r) (h2 : 2 ^ (r - 1) ≤ n / pw (m - 1)) : (toB n).length = 32 * (m - 1) + r := by
  refine toB_len_eq (by omega) ?_ ?_
  · rw [Nat.div_lt_iff_lt_mul (pw_pos _), Nat.mul_comm, pw_two, ← Nat.pow_add] at h1
    exact h1
  · rw [Nat.le_div_iff_mul_le (pw_pos _), pw_two, ← Nat.pow_add] at h2
    rw [show 32 * (m - 1) + r - 1 = r - 1 + 32 * (m - 1) by omega]
    exact h2
theorem Bits_toW (n : Nat) (hn : (toW n).length ≤ 1048576) : nat_Nat_Bits.f (toW n) = some (((toB n).length : Nat) : Int) := by
  unfold nat_Nat_Bits.f
  by_cases h0 : n = 0
  · subst h0; simp [toW_zero, toB_zero]
  · have hne : (toW n).length ≠ 0 := by rw [Ne, List.length_eq_zero_iff, toW_eq_nil]; exact h0
    obtain ⟨m, hm⟩ : ∃ m, (toW n).length = m := ⟨_, rfl⟩
    have c1 : ¬ (((toW n).length : Nat) : Int) = 0 := by omega
    have c2 : (0 : Int) ≤ ((m - 1 : Nat) : Int) := by omega
    have c3 : ((m - 1 : Nat) : Int) < (m : Int) := by omega
    have hm1 : 1 ≤ m := by omega
    have hm2 : m ≤ 1048576 := by omega
    have hlo : pw (m - 1) ≤ n := toW_len_lt (by omega)
    have hhi : n < pw m := by have := toW_lt n; rwa [hm] at this
    have hd : n / pw (m - 1) < 4294967296 := by
      rw [Nat.div_lt_iff_lt_mul (pw_pos _), Nat.mul_comm, ← pw_succ, show m - 1 + 1 = m by omega]; exact hhi
    have hp : 0 < n / pw (m - 1) := Nat.div_pos hlo (pw_pos _)
    have hg : gw (toW n) (m - 1) = ((n / pw (m - 1) : Nat) : Int) := by rw [toW_gw, Nat.mod_eq_of_lt hd]
    obtain ⟨r, hr, hr32, hlt, hge⟩ := len32 (gw (toW n) (m - 1)) (by rw [hg]; exact Int.natCast_nonneg _) (by rw [hg]; exact Int.ofNat_lt.2 hd)
    rw [hg] at hlt hge
    rw [Int.toNat_natCast] at hlt hge
    obtain ⟨h3, h4⟩ := hge (Int.natCast_pos.2 hp)
    have hlen := bits_len hm1 h3 hlt h4
    have w1 : wrap64 ((m : Int) - 1) = ((m - 1 : Nat) : Int) := by clear hlen hr; rw [w64 (by omega) (by omega)]; omega
    have w2 : wrap64 (wrap64 (32 * ((m - 1 : Nat) : Int)) + (r : Int)) = ((32 * (m - 1) + r : Nat) : Int) := by
      clear hlen hr w1 hd hp hlt h4 hlo hhi hg
      rw [w64 (x := 32 * ((m - 1 : Nat) : Int)) (by omega) (by omega), w64 (by omega) (by omega)]; omega
    rw [if_neg c1, hm, w1, if_pos c2, if_pos c3, rd_gw, hr]
    simp only [Option.bind_some]
    rw [w2, hlen]
theorem fb_round (a b : Int) (y : Nat) (hy : y = 0 ∨ y = 8 ∨ y = 16 ∨ y = 24) (ha0 : 0 ≤ a) (ha : a.toNat < 2 ^ y) (hb0 : 0 ≤ b) (hb : b < 256) :
    Go.bits .or .u32 a (shl .u32 (b % 4294967296) (y : Int)) = ((a.toNat + b.toNat * 2 ^ y : Nat) : Int) ∧ a.toNat + b.toNat * 2 ^ y < 4294967296 := by
  obtain ⟨n, rfl⟩ := Int.eq_ofNat_of_zero_le ha0
  obtain ⟨m, rfl⟩ := Int.eq_ofNat_of_zero_le hb0
  simp only [Int.toNat_natCast] at ha ⊢
  have hmin : min y IntKind.u32.bits = y := Nat.min_eq_left (by show y ≤ 32; omega)
  have hs : shl .u32 ((m : Int) % 4294967296) (y : Int) = ((m * 2 ^ y : Nat) : Int) := by
    unfold shl
    rw [Int.toNat_natCast, hmin]
    have e1 : (m : Int) % 4294967296 = (m : Int) := by omega
    have e2 : (m : Int) * 2 ^ y = ((m * 2 ^ y : Nat) : Int) := by simp
    rw [e1, e2]
    rcases hy with rfl | rfl | rfl | rfl <;> exact wraps_u32 _ (by omega) (by omega)
  rw [hs]
  rcases hy with rfl | rfl | rfl | rfl
  all_goals
    refine ⟨?_, by omega⟩
    rw [bits_join_low .u32 32 (by decide) wraps_u32 _ (n : Int) ((m * 2 ^ _ : Nat) : Int) (by omega) (by first | exact_mod_cast ha) (by omega) (by omega) (by omega) (by omega)]
    omega
structure FBInv (l : List Int) (i : Nat) (row : List Int) : Prop where
  len : row.length = (l.length + 3) / 4
  sz : Sized row
  eq : valW row = valL (l.reverse.take i)
theorem digit_lt {row : List Int} (hs : Sized row) {q c : Nat} (hq : q < row.length) (h : valW row < pw q * c) : (gw row q).toNat < c := by
  have h1 : valW row = valW (row.take q) + pw q * valW (row.drop q) := valW_drop (by omega)
  have h2 : row.drop q = gw row q :: row.drop (q + 1) := by rw [List.drop_eq_getElem_cons hq, gw_eq hq]
  rw [h2, valW_cons] at h1
  have h3 : pw q * (gw row q).toNat < pw q * c := by
    rw [Nat.mul_add] at h1
    omega
  exact Nat.lt_of_mul_lt_mul_left h3
theorem valW_set' {row : List Int} {q : Nat} (hq : q < row.length) {x : Int} (hx : 0 ≤ x) : valW (row.set q x) + pw q * (gw row q).toNat = valW row + pw q * x.toNat := by
  have := val_set (β := 4294967296) (enc := Int.toNat) row q x hq
  rw [← gw_eq hq] at this
  exact this
theorem fb_loop (l : List Int) (hb : Bytes l) (hl : l.length ≤ 128) (d : Nat) : ∀ (i : Nat) (row : List Int), FBInv l i row → i + d = l.length →
    Ev (fun k => nat_FromBytes.l0 k l row (l.length : Int) (i : Int)) (toW (valH l), 0) := by
  induction d with
  | zero =>
    intro i row h hi
    obtain rfl : i = l.length := by omega
    have ht := trim_ev row h.sz (by rw [h.len]; omega)
    have hv : valW row = valH l := by rw [h.eq, List.take_of_length_le (by simp)]; rfl
    rw [hv] at ht
    exact Ev.step (fun k => by simp only [nat_FromBytes.l0]; rw [if_neg (by omega)]) (Ev.bind (f := fun _ t => some (t, (0 : Int))) ht (Ev.now _))
  | succ d ih =>
    intro i row h hi
    have hrl := h.len
    have hil : i < l.length := by omega
    have c1 : (i : Int) < (l.length : Int) := by omega
    have c2 : (0 : Int) ≤ ((l.length - 1 - i : Nat) : Int) := by omega
    have c3 : ((l.length - 1 - i : Nat) : Int) < (l.length : Int) := by omega
    have c4 : (0 : Int) ≤ ((i / 4 : Nat) : Int) := by omega
    have c5 : ((i / 4 : Nat) : Int) < (row.length : Int) := by omega
    have c6 : (0 : Int) ≤ ((8 * (i % 4) : Nat) : Int) := by omega
    have hq : i / 4 < row.length := by omega
    have hy : 8 * (i % 4) = 0 ∨ 8 * (i % 4) = 8 ∨ 8 * (i % 4) = 16 ∨ 8 * (i % 4) = 24 := by omega
    have i1 : i + 1 + d = l.length := by omega
    have hgl : gw l (l.length - 1 - i) = gw l.reverse i := by
      rw [gw_eq (by omega), gw_eq (by simp; omega), List.getElem_reverse]
    have g := hb.gw (l.length - 1 - i)
    have gr := h.sz.gw (i / 4)
    have hval : valW row < 256 ^ i := by
      have := valL_lt (hb.reverse.take i)
      rw [List.length_take, List.length_reverse, Nat.min_eq_left (by omega)] at this
      rw [h.eq]; exact this
    rw [pow256] at hval
    have hdig := digit_lt h.sz hq hval
    obtain ⟨e1, e2⟩ := fb_round (gw row (i / 4)) (gw l (l.length - 1 - i)) (8 * (i % 4)) hy gr.1 hdig g.1 g.2
    have hst : FBInv l (i + 1) (row.set (i / 4) (((gw row (i / 4)).toNat + (gw l (l.length - 1 - i)).toNat * 2 ^ (8 * (i % 4)) : Nat) : Int)) := by
      refine ⟨by rw [List.length_set]; exact h.len, h.sz.set _ ⟨Int.natCast_nonneg _, Int.ofNat_lt.2 e2⟩, ?_⟩
      have e3 := valW_set' hq (x := (((gw row (i / 4)).toNat + (gw l (l.length - 1 - i)).toNat * 2 ^ (8 * (i % 4)) : Nat) : Int)) (Int.natCast_nonneg _)
      rw [Int.toNat_natCast] at e3
      have e4 : valL (l.reverse.take (i + 1)) = valL (l.reverse.take i) + 256 ^ i * (gw l (l.length - 1 - i)).toNat := by
        rw [take_snoc (by simp; omega), valL_append, valL_one, hgl, List.length_take, List.length_reverse, Nat.min_eq_left (by omega)]
      rw [e4, ← h.eq, pow256]
      generalize 2 ^ (8 * (i % 4)) = P at *
      generalize pw (i / 4) = Q at *
      generalize (gw row (i / 4)).toNat = x at *
      generalize (gw l (l.length - 1 - i)).toNat = y at *
      clear e1 e2 e4 hdig hval hgl hy h ih
      grind
    have w1 : wrap64 (wrap64 ((l.length : Int) - 1) - (i : Int)) = ((l.length - 1 - i : Nat) : Int) := by
      clear e1 e2 hst hdig hval hgl
      rw [w64 (x := (l.length : Int) - 1) (by omega) (by omega), w64 (by omega) (by omega)]; omega
    have w2 : wrap64 (Int.tdiv (i : Int) 4) = ((i / 4 : Nat) : Int) := by
      clear e1 e2 hst hdig hval hgl w1
      rw [show (4 : Int) = ((4 : Nat) : Int) from rfl, ← Int.ofNat_tdiv]; exact w64 (by omega) (by omega)
    have w3 : wrap64 (8 * Int.tmod (i : Int) 4) = ((8 * (i % 4) : Nat) : Int) := by
      clear e1 e2 hst hdig hval hgl w1 w2
      rw [show (4 : Int) = ((4 : Nat) : Int) from rfl, ← Int.ofNat_tmod, w64 (by omega) (by omega)]; omega
    have w4 : wrap64 ((i : Int) + 1) = ((i + 1 : Nat) : Int) := by clear e1 e2 hst hdig hval hgl w1 w2 w3; exact winc (by omega)
    refine Ev.step (fun k => ?_) (ih (i + 1) _ hst i1)
    simp only [nat_FromBytes.l0]
    rw [if_pos c1, w1, if_pos c2, if_pos c3, w2, if_pos c4, if_pos c5, w3, if_pos c6, rd_gw, rd_gw, e1, w4, Int.toNat_natCast]
theorem FromBytes_ev (l : List Int) (hb : Bytes l) (hl : l.length ≤ 128) : Ev (fun k => nat_FromBytes.f k l) (toW (valH l), 0) := by
  unfold nat_FromBytes.f
  have h := fb_loop l hb hl l.length 0 (List.replicate ((l.length + 3) / 4) 0) ⟨by simp, Sized.zeros _, by rw [valW_zeros]; rfl⟩ (by omega)
  have w1 : wrap64 (Int.tdiv (wrap64 ((l.length : Int) + 3)) 4) = (((l.length + 3) / 4 : Nat) : Int) := by
    have : wrap64 ((l.length : Int) + 3) = ((l.length + 3 : Nat) : Int) := by rw [w64 (by omega) (by omega)]; omega
    rw [this, show (4 : Int) = ((4 : Nat) : Int) from rfl, ← Int.ofNat_tdiv]
    clear this
    exact w64 (by omega) (by omega)
  have c0 : ¬ (l.length : Int) > 128 := by omega
  have c1 : (0 : Int) ≤ (((l.length + 3) / 4 : Nat) : Int) := by clear w1; omega
  have c2 : (l.length + 3) / 4 ≤ 70368744177664 := by clear w1; omega
  refine Ev.congr (fun k => ?_) h
  rw [if_neg c0, w1, if_pos c1, Int.toNat_natCast, if_pos c2]
  rfl
end Go.Proofs.Yteejcpbngnojkaa.P
end
section
namespace Go.Proofs.Yteejcpbngnojkaa.P
open Go.RowKit Go.Proofs.YteejcpbngnojkaaW.PrintWords Go.Proofs.YteejcpbngnojkaaW.PrintLast Go.Proofs.YteejcpbngnojkaaW.PrintMore
open Go.Proofs.Yteejcpbngnojkaa.Num
set_option linter.unusedVariables false
def nb (v : Nat) : Nat := ((toB v).length + 7) / 8
def highBytes (v size : Nat) : List Int := (lowBytes v size).reverse
theorem highBytes_length (v size : Nat) : (highBytes v size).length = size := by simp [highBytes, lowBytes_length]
theorem highBytes_bytes (v size : Nat) : Bytes (highBytes v size) := (lowBytes_bytes v size).reverse
theorem nb_lt (v : Nat) : v < 256 ^ nb v := by
  have h := toB_lt v
  have h2 : 2 ^ (toB v).length ≤ 2 ^ (8 * nb v) := Nat.pow_le_pow_right (by decide) (by unfold nb; omega)
  rw [show (256 : Nat) = 2 ^ 8 from by decide, ← Nat.pow_mul]
  exact Nat.lt_of_lt_of_le h h2
theorem nb_le {v i : Nat} (h : i < nb v) : 256 ^ i ≤ v := by
  rw [show (256 : Nat) = 2 ^ 8 from by decide, ← Nat.pow_mul]
  exact toB_len_lt (by unfold nb at h; omega)
theorem gw_rev {l : List Int} {j : Nat} (h : j < l.length) : gw l.reverse j = gw l (l.length - 1 - j) := by
  rw [gw_eq (by simpa using h), gw_eq (by omega), List.getElem_reverse]
theorem word_byte (v i : Nat) : (gw (toW v) (i / 4) / 2 ^ (8 * (i % 4))) % 256 = ((v / 256 ^ i % 256 : Nat) : Int) := by
  rw [toW_gw, pow256, ← Nat.div_div_eq_div_mul]
  generalize v / pw (i / 4) = X
  have hy : i % 4 = 0 ∨ i % 4 = 1 ∨ i % 4 = 2 ∨ i % 4 = 3 := by omega
  rcases hy with h | h | h | h <;> rw [h] <;> simp only [Nat.reduceMul, Nat.reducePow, Int.reducePow] <;> omega
theorem nBytes_loop (v size n : Nat) (hn : n = nb v) (hs : n ≤ size) (hsz : size ≤ 1000000) (hv : (toW v).length ≤ 1048576) (d : Nat) : ∀ (i : Nat) (out : List Int), i + d = n → out.length = size → (∀ j, j < size → gw out (size - 1 - j) = if j < i then ((v / 256 ^ j % 256 : Nat) : Int) else 0) →
    Ev (fun k => nat_Nat_Bytes.l0 k (size : Int) out (n : Int) (i : Int) (toW v)) (highBytes v size, 0) := by
  induction d with
  | zero =>
    intro i out hi hl hg
    obtain rfl : i = n := by omega
    have he : out = highBytes v size := by
      refine list_ext_gw (by rw [hl, highBytes_length]) fun j hj => ?_
      unfold highBytes
      rw [gw_rev (by rw [lowBytes_length]; omega), lowBytes_length, lowBytes_get _ _ _ (by omega)]
      have h := hg (size - 1 - j) (by omega)
      rw [show size - 1 - (size - 1 - j) = j by omega] at h
      rw [h]
      by_cases hc : size - 1 - j < i
      · rw [if_pos hc]
      · rw [if_neg hc]
        have h1 := nb_lt v
        rw [← hn] at h1
        have h2 : 256 ^ i ≤ 256 ^ (size - 1 - j) := Nat.pow_le_pow_right (by decide) (by omega)
        rw [Nat.div_eq_of_lt (Nat.lt_of_lt_of_le h1 h2)]
        rfl
    rw [← he]
    exact Ev.step (f := fun _ => some (out, (0 : Int))) (fun k => by simp only [nat_Nat_Bytes.l0]; rw [if_neg (by omega)]) (Ev.now _)
  | succ d ih =>
    intro i out hi hl hg
    have hin : i < nb v := by omega
    have hle := nb_le hin
    have hqa : i / 4 < (toW v).length := by
      refine toW_len_gt _ _ (Nat.le_trans ?_ hle)
      rw [pow256]
      exact Nat.le_mul_of_pos_right _ (Nat.pow_pos (by decide))
    clear hle
    have c1 : (i : Int) < (n : Int) := by omega
    have c2 : (0 : Int) ≤ ((i / 4 : Nat) : Int) := by omega
    have c3 : ((i / 4 : Nat) : Int) < ((toW v).length : Int) := by omega
    have c4 : (0 : Int) ≤ ((8 * (i % 4) : Nat) : Int) := by omega
    have c5 : (0 : Int) ≤ ((size - 1 - i : Nat) : Int) := by omega
    have c6 : ((size - 1 - i : Nat) : Int) < (out.length : Int) := by omega
    have hso : size - 1 - i < out.length := by omega
    have i1 : i + 1 + d = n := by omega
    have hjj : ∀ j, j < size → (size - 1 - i = size - 1 - j ↔ i = j) := fun j hj => by omega
    have hj2 : ∀ j, i ≠ j → (j < i + 1 ↔ j < i) := fun j hj => by omega
    have h2i : i < i + 1 := by omega
    have hy : 8 * (i % 4) ≤ 32 := by omega
    have w1 : wrap64 (wrap64 ((size : Int) - 1) - (i : Int)) = ((size - 1 - i : Nat) : Int) := by
      rw [w64 (x := (size : Int) - 1) (by omega) (by omega), w64 (by omega) (by omega)]; omega
    have w2 : wrap64 (Int.tdiv (i : Int) 4) = ((i / 4 : Nat) : Int) := by
      clear w1
      rw [show (4 : Int) = ((4 : Nat) : Int) from rfl, ← Int.ofNat_tdiv]; exact w64 (by omega) (by omega)
    have w3 : wrap64 (8 * Int.tmod (i : Int) 4) = ((8 * (i % 4) : Nat) : Int) := by
      clear w1 w2
      rw [show (4 : Int) = ((4 : Nat) : Int) from rfl, ← Int.ofNat_tmod, w64 (by omega) (by omega)]; omega
    have w4 : wrap64 ((i : Int) + 1) = ((i + 1 : Nat) : Int) := by clear w1 w2 w3; exact winc (by omega)
    have hsh : shr .u32 (gw (toW v) (i / 4)) ((8 * (i % 4) : Nat) : Int) % 256 = ((v / 256 ^ i % 256 : Nat) : Int) := by
      have hmin : min (8 * (i % 4)) IntKind.u32.bits = 8 * (i % 4) := Nat.min_eq_left hy
      unfold shr
      rw [Int.toNat_natCast, hmin, word_byte]
    refine Ev.step (fun k => ?_) (ih (i + 1) (out.set (size - 1 - i) ((v / 256 ^ i % 256 : Nat) : Int)) i1 (by rw [List.length_set]; exact hl) (fun j hj => ?_))
    · simp only [nat_Nat_Bytes.l0]
      rw [if_pos c1, w2, if_pos c2, if_pos c3, w3, if_pos c4, w1, if_pos c5, if_pos c6, rd_gw, hsh, w4, Int.toNat_natCast]
    · rw [gw_set hso]
      by_cases hij : i = j
      · subst hij
        rw [if_pos rfl, if_pos h2i]
      · rw [if_neg (fun e => hij ((hjj j hj).1 e)), hg j hj]
        simp only [hj2 j hij]
theorem toB_len_words (v n : Nat) (h : 32 * (toW v).length ≤ n) : (toB v).length ≤ n := by
  refine toB_len_le _ _ (Nat.lt_of_lt_of_le (toW_lt v) ?_)
  rw [pw_two]
  exact Nat.pow_le_pow_right (by decide) h
theorem nb_word (v : Nat) (hv : (toW v).length ≤ 1048576) : wrap64 (Int.tdiv (wrap64 ((((toB v).length : Nat) : Int) + 7)) 8) = ((nb v : Nat) : Int) := by
  have h1 : (toB v).length ≤ 33554432 := toB_len_words v _ (by omega)
  unfold nb
  have e1 : wrap64 ((((toB v).length : Nat) : Int) + 7) = (((toB v).length + 7 : Nat) : Int) := by rw [w64 (by omega) (by omega)]; omega
  rw [e1, show (8 : Int) = ((8 : Nat) : Int) from rfl, ← Int.ofNat_tdiv]
  clear e1
  exact w64 (by omega) (by omega)
theorem nb_bound (v : Nat) (hv : (toW v).length ≤ 1000) : nb v ≤ 4000 := by
  have h1 : (toB v).length ≤ 32000 := toB_len_words v _ (by omega)
  unfold nb; omega
theorem nBytes_ev (v size : Nat) (hs : nb v ≤ size) (hsz : size ≤ 1000000) (hv : (toW v).length ≤ 1048576) : Ev (fun k => nat_Nat_Bytes.f k (toW v) (size : Int)) (highBytes v size, 0) := by
  have h : Ev (fun k => nat_Nat_Bytes.l0 k (size : Int) (List.replicate size 0) ((nb v : Nat) : Int) 0 (toW v)) (highBytes v size, 0) := nBytes_loop v size (nb v) rfl hs hsz hv (nb v) 0 (List.replicate size 0) (by omega) (by simp) (fun j hj => by rw [if_neg (by omega)]; exact valW_zero (Sized.zeros _) (valW_zeros _) _)
  have c1 : ¬ (size : Int) < 0 := by omega
  have c2 : ¬ ((nb v : Nat) : Int) > (size : Int) := by omega
  have c3 : (0 : Int) ≤ (size : Int) := by omega
  have c4 : size ≤ 281474976710656 := by omega
  refine Ev.congr (fun k => ?_) h
  unfold nat_Nat_Bytes.f
  rw [if_neg c1, Bits_toW v hv]
  refine (Option.bind_some _ _).trans ?_
  rw [nb_word v hv]
  refine (if_neg c2).trans ?_
  refine (if_pos c3).trans ?_
  rw [Int.toNat_natCast]
  refine (if_pos c4).trans ?_
  with_reducible rfl
theorem Least_ev (v : Nat) (hv : (toW v).length ≤ 1000) : Ev (fun k => nat_Nat_Least.f k (toW v)) (highBytes v (nb v)) := by
  have hb := nb_bound v hv
  have h := nBytes_ev v (nb v) (Nat.le_refl _) (by omega) (by omega)
  refine Ev.congr (fun k => ?_) (Ev.bind (f := fun _ bt => some bt.1) h (Ev.now _))
  unfold nat_Nat_Least.f
  have hv2 : (toW v).length ≤ 1048576 := Nat.le_trans hv (by decide)
  rw [Bits_toW v hv2]
  refine (Option.bind_some _ _).trans ?_
  rw [nb_word v hv2]
structure RBInv (v size i : Nat) (out : List Int) : Prop where
  len : out.length = size
  by_ : Bytes out
  eq : valL out.reverse = v % 2 ^ i
theorem set_rev {l : List Int} {j : Nat} {x : Int} (h : j < l.length) : (l.set (l.length - 1 - j) x).reverse = l.reverse.set j x := by
  refine list_ext_gw (by simp) fun i hi => ?_
  rw [List.length_reverse, List.length_set] at hi
  rw [gw_rev (by rw [List.length_set]; exact hi), gw_set (by omega), gw_set (by rw [List.length_reverse]; exact h), List.length_set]
  by_cases e : j = i
  · subst e; rw [if_pos rfl, if_pos rfl]
  · rw [if_neg (by omega), if_neg e, gw_rev hi]
theorem digitL_lt {l : List Int} (hb : Bytes l) {q c : Nat} (hq : q < l.length) (h : valL l < 256 ^ q * c) : (gw l q).toNat < c := by
  have h1 := val_take_drop (β := 256) (enc := Int.toNat) q l (by omega)
  have h2 : l.drop q = gw l q :: l.drop (q + 1) := by rw [List.drop_eq_getElem_cons hq, gw_eq hq]
  rw [h2] at h1
  have h1 : valL l = valL (l.take q) + 256 ^ q * ((gw l q).toNat + 256 * valL (l.drop (q + 1))) := h1
  have h3 : 256 ^ q * (gw l q).toNat < 256 ^ q * c := by
    rw [Nat.mul_add] at h1
    omega
  exact Nat.lt_of_mul_lt_mul_left h3
theorem valL_set {l : List Int} {q : Nat} (hq : q < l.length) {x : Int} : valL (l.set q x) + 256 ^ q * (gw l q).toNat = valL l + 256 ^ q * x.toNat := by
  have := val_set (β := 256) (enc := Int.toNat) l q x hq
  rw [← gw_eq hq] at this
  exact this
theorem pow2_8 (i : Nat) : 2 ^ i = 256 ^ (i / 8) * 2 ^ (i % 8) := by
  rw [show (256 : Nat) = 2 ^ 8 from by decide, ← Nat.pow_mul, ← Nat.pow_add]
  congr 1
  omega
theorem rb_round (a : Int) (y : Nat) (hy : y < 8) (ha0 : 0 ≤ a) (ha : a.toNat < 2 ^ y) : (a + shl .u8 1 (y : Int)) % 256 = ((a.toNat + 2 ^ y : Nat) : Int) ∧ a.toNat + 2 ^ y < 256 := by
  obtain ⟨n, rfl⟩ := Int.eq_ofNat_of_zero_le ha0
  simp only [Int.toNat_natCast] at ha ⊢
  have hy8 : y = 0 ∨ y = 1 ∨ y = 2 ∨ y = 3 ∨ y = 4 ∨ y = 5 ∨ y = 6 ∨ y = 7 := by omega
  rcases hy8 with rfl | rfl | rfl | rfl | rfl | rfl | rfl | rfl
  all_goals
    simp only [shl, IntKind.bits, Int.toNat_natCast, IntKind.wrap, IntKind.signed] at ha ⊢
    simp at ha ⊢
    omega
theorem rBytes_loop (v size : Nat) (hs : nb v ≤ size) (hsz : size ≤ 1000000) (hv : (toB v).length ≤ 1000000) (d : Nat) : ∀ (i : Nat) (out : List Int), RBInv v size i out → i + d = (toB v).length →
    Ev (fun k => sacristyref01_Bytes.l0 k (size : Int) out (toB v) ((toB v).length : Int) (i : Int)) (highBytes v size, true) := by
  induction d with
  | zero =>
    intro i out h hi
    have hlt := toB_lt v
    rw [show (toB v).length = i by omega] at hlt
    have he : out = highBytes v size := by
      have e1 := h.eq
      rw [Nat.mod_eq_of_lt hlt] at e1
      have e2 := lowBytes_valL h.by_.reverse
      rw [e1, List.length_reverse, h.len] at e2
      unfold highBytes
      rw [e2, List.reverse_reverse]
    rw [← he]
    exact Ev.step (f := fun _ => some (out, true)) (fun k => by simp only [sacristyref01_Bytes.l0]; rw [if_neg (by omega)]) (Ev.now _)
  | succ d ih =>
    intro i out h hi
    have hl := h.len
    have c1 : (i : Int) < ((toB v).length : Int) := by omega
    have c2 : (0 : Int) ≤ (i : Int) := by omega
    have hq8 : i / 8 < size := by unfold nb at hs; omega
    have c3 : (0 : Int) ≤ ((size - 1 - i / 8 : Nat) : Int) := by omega
    have c4 : ((size - 1 - i / 8 : Nat) : Int) < (out.length : Int) := by omega
    have c5 : (0 : Int) ≤ ((i % 8 : Nat) : Int) := by omega
    have i1 : i + 1 + d = (toB v).length := by omega
    have hi8 : i % 8 < 8 := by omega
    have hlo : i / 8 < out.length := by omega
    have hlor : i / 8 < out.reverse.length := by rw [List.length_reverse]; exact hlo
    have w1 : wrap64 (wrap64 ((size : Int) - 1) - wrap64 (Int.tdiv (i : Int) 8)) = ((size - 1 - i / 8 : Nat) : Int) := by
      have : wrap64 (Int.tdiv (i : Int) 8) = ((i / 8 : Nat) : Int) := by
        rw [show (8 : Int) = ((8 : Nat) : Int) from rfl, ← Int.ofNat_tdiv]; exact w64 (by omega) (by omega)
      rw [this]
      clear this
      rw [w64 (x := (size : Int) - 1) (by omega) (by omega), w64 (by omega) (by omega)]; omega
    have w3 : Int.tmod (i : Int) 8 = ((i % 8 : Nat) : Int) := by
      rw [show (8 : Int) = ((8 : Nat) : Int) from rfl, ← Int.ofNat_tmod]
    have w4 : wrap64 ((i : Int) + 1) = ((i + 1 : Nat) : Int) := by clear w1 w3; exact winc (by omega)
    have hg := gb_toB v i
    have hm := mod_snoc v i
    cases hx : gb (toB v) i with
    | false =>
      rw [hx] at hg
      rw [← hg] at hm
      simp only [Bool.toNat_false, Nat.mul_zero, Nat.add_zero] at hm
      refine Ev.step (fun k => ?_) (ih (i + 1) out ⟨h.len, h.by_, by rw [hm]; exact h.eq⟩ i1)
      simp only [sacristyref01_Bytes.l0]
      rw [if_pos c1, if_pos c2, if_pos c1, rdB, hx, if_neg (by decide), w4]
    | true =>
      rw [hx] at hg
      rw [← hg] at hm
      simp only [Bool.toNat_true, Nat.mul_one] at hm
      have hval : valL out.reverse < 2 ^ i := by rw [h.eq]; exact Nat.mod_lt _ (Nat.pow_pos (by decide))
      rw [pow2_8] at hval
      have hdig := digitL_lt h.by_.reverse hlor hval
      have hgr : gw out.reverse (i / 8) = gw out (size - 1 - i / 8) := by rw [gw_rev hlo, hl]
      rw [hgr] at hdig
      obtain ⟨e1, e2⟩ := rb_round (gw out (size - 1 - i / 8)) (i % 8) hi8 (h.by_.gw _).1 hdig
      have hst : RBInv v size (i + 1) (out.set (size - 1 - i / 8) (((gw out (size - 1 - i / 8)).toNat + 2 ^ (i % 8) : Nat) : Int)) := by
        refine ⟨by rw [List.length_set]; exact h.len, fun y hy => ?_, ?_⟩
        · rcases List.mem_or_eq_of_mem_set hy with h1 | rfl
          · exact h.by_ y h1
          · exact ⟨Int.natCast_nonneg _, Int.ofNat_lt.2 e2⟩
        · have e3 := set_rev (l := out) (x := (((gw out (size - 1 - i / 8)).toNat + 2 ^ (i % 8) : Nat) : Int)) hlo
          rw [hl] at e3
          have e4 := valL_set hlor (x := (((gw out (size - 1 - i / 8)).toNat + 2 ^ (i % 8) : Nat) : Int))
          rw [Int.toNat_natCast, hgr, h.eq] at e4
          rw [e3, hm]
          have e5 := pow2_8 i
          rw [e5] at e4 ⊢
          generalize 256 ^ (i / 8) = Q at *
          generalize 2 ^ (i % 8) = P at *
          generalize (gw out (size - 1 - i / 8)).toNat = x at *
          rw [Nat.mul_add] at e4
          clear e1 e2 e3 e5 hdig hgr hval hm ih w1 w3 w4 hg
          omega
      refine Ev.step (fun k => ?_) (ih (i + 1) _ hst i1)
      simp only [sacristyref01_Bytes.l0]
      rw [if_pos c1, if_pos c2, if_pos c1, rdB, hx, if_pos rfl, w1, if_pos c3, if_pos c4, w3, if_pos c5, rd_gw, e1, w4, Int.toNat_natCast]
theorem rnb_word (v : Nat) (hv : (toB v).length ≤ 1000000) : wrap64 (Int.tdiv (wrap64 ((((toB v).length : Nat) : Int) + 7)) 8) = ((nb v : Nat) : Int) := by
  unfold nb
  have e1 : wrap64 ((((toB v).length : Nat) : Int) + 7) = (((toB v).length + 7 : Nat) : Int) := by rw [w64 (by omega) (by omega)]; omega
  rw [e1, show (8 : Int) = ((8 : Nat) : Int) from rfl, ← Int.ofNat_tdiv]
  clear e1
  exact w64 (by omega) (by omega)
theorem rBytes_ev (v size : Nat) (hs : nb v ≤ size) (hsz : size ≤ 1000000) (hv : (toB v).length ≤ 1000000) : Ev (fun k => sacristyref01_Bytes.f k (toB v) (size : Int)) (highBytes v size, true) := by
  have hz : Bytes (List.replicate size 0) := fun x hx => by rw [List.eq_of_mem_replicate hx]; decide
  have h : Ev (fun k => sacristyref01_Bytes.l0 k (size : Int) (List.replicate size 0) (toB v) ((toB v).length : Int) 0) (highBytes v size, true) := rBytes_loop v size hs hsz hv (toB v).length 0 (List.replicate size 0) ⟨by simp, hz, by rw [List.reverse_replicate, valL_zeros]; simp [Nat.mod_one]⟩ (by omega)
  have c2 : ¬ ((nb v : Nat) : Int) > (size : Int) := by omega
  have c3 : (0 : Int) ≤ (size : Int) := by omega
  have c4 : size ≤ 281474976710656 := by omega
  refine Ev.congr (fun k => ?_) h
  unfold sacristyref01_Bytes.f
  rw [rnb_word v hv]
  refine (if_neg c2).trans ?_
  refine (if_pos c3).trans ?_
  rw [Int.toNat_natCast]
  refine (if_pos c4).trans ?_
  with_reducible rfl
theorem highBytes_inj {a b : Nat} (h : highBytes a (nb a) = highBytes b (nb b)) : a = b := by
  have hl := congrArg List.length h
  rw [highBytes_length, highBytes_length] at hl
  have h2 : lowBytes a (nb a) = lowBytes b (nb b) := by
    have := congrArg List.reverse h
    simpa [highBytes] using this
  have h3 := congrArg valL h2
  rw [lowBytes_val, lowBytes_val, Nat.mod_eq_of_lt (nb_lt a), Nat.mod_eq_of_lt (nb_lt b)] at h3
  exact h3
end Go.Proofs.Yteejcpbngnojkaa.P
end
