/- Part of the proof: the walks and the plain arithmetic, in line (wip/tools/pack.py). -/
import Derived.Test.YteejcpbngnojkaaXLawNatRules2
section
namespace Go.Proofs.Yteejcpbngnojkaa.P
open Go.RowKit Go.Shelf Go.Proofs.YteejcpbngnojkaaW.PrintWords Go.Proofs.YteejcpbngnojkaaW.PrintLast Go.Proofs.YteejcpbngnojkaaW.PrintMore
open Go.Proofs.Yteejcpbngnojkaa.Num
set_option linter.unusedVariables false
def nat_Nat_Div.f (_k : Nat) (l0_0 : List Int) (l1_0 : List Int) : Option (List Int × List Int × Int) :=
  if canonB l0_0 && canonB l1_0 && decide (l0_0.length ≤ 1048576) && decide (l1_0.length ≤ 1048576) then (if valW l1_0 = 0 then some ([], [], 5) else some (toW (valW l0_0 / valW l1_0), toW (valW l0_0 % valW l1_0), 0)) else none
theorem nat_Nat_Div.mono : ∀ a0 a1 k, LeO (nat_Nat_Div.f k a0 a1) (nat_Nat_Div.f (k + 1) a0 a1) := fun _ _ _ => LeO.refl _
theorem four_new (w : World) (o0 o1 o2 o3 : Obj) : ((((w.alloc o0).alloc o1).alloc o2).alloc o3).heap[w.heap.size]? = some o0 ∧ ((((w.alloc o0).alloc o1).alloc o2).alloc o3).heap[w.heap.size + 1]? = some o1 ∧ ((((w.alloc o0).alloc o1).alloc o2).alloc o3).heap[w.heap.size + 1 + 1]? = some o2 ∧ ((((w.alloc o0).alloc o1).alloc o2).alloc o3).heap[w.heap.size + 1 + 1 + 1]? = some o3 ∧ Below w.heap.size w ((((w.alloc o0).alloc o1).alloc o2).alloc o3) := by
  refine ⟨blk_alloc (blk_alloc (blk_alloc (blk_new w o0) _) _) _, ?_, ?_, ?_, ?_⟩
  · refine blk_alloc (blk_alloc ?_ _) _
    have := blk_new (w.alloc o0) o1
    simpa only [World.size_alloc] using this
  · refine blk_alloc ?_ _
    have := blk_new ((w.alloc o0).alloc o1) o2
    simpa only [World.size_alloc] using this
  · have := blk_new (((w.alloc o0).alloc o1).alloc o2) o3
    simpa only [World.size_alloc] using this
  · exact ((((Below.refl _ w).alloc (Nat.le_refl _) _).alloc (by simp) _).alloc (by simp; omega) _).alloc (by simp; omega) _
theorem two_end {w W : World} {va vb : Value} (m2 : W.heap[w.heap.size + 1 + 1]? = some (.cells #[.slice none 0 0] 38 (0, 0))) (m3 : W.heap[w.heap.size + 1 + 1 + 1]? = some (.cells #[.slice none 0 0] 38 (0, 0))) (hB : Below w.heap.size w W) (Wf : World)
    (hW : (W.setCell ⟨w.heap.size + 1 + 1, 0, none⟩ va).setCell ⟨w.heap.size + 1 + 1 + 1, 0, none⟩ vb = Wf) :
    Wf.heap[w.heap.size + 1 + 1]? = some (.cells #[va] 38 (0, 0)) ∧ Wf.heap[w.heap.size + 1 + 1 + 1]? = some (.cells #[vb] 38 (0, 0)) ∧ Below w.heap.size w Wf ∧ ∀ (b : Nat) (ok ok' : Nat → Prop) (v : Value) (xs : List Int), Kd.V (Kd.int .u32) 23 W b ok v xs → (∀ k, ok k → (k ≠ w.heap.size + 1 + 1 ∧ k ≠ w.heap.size + 1 + 1 + 1) ∧ ok' k) → Kd.V (Kd.int .u32) 23 Wf w.heap.size ok' v xs := by
  subst hW
  refine ⟨(Below.heap_setCell _ _ _ _ (by show w.heap.size + 1 + 1 ≠ w.heap.size + 1 + 1 + 1; omega)).trans (blk_put m2 0 _ rfl), blk_put ((Below.heap_setCell _ _ _ _ (by show w.heap.size + 1 + 1 + 1 ≠ w.heap.size + 1 + 1; omega)).trans m3) 0 _ rfl,
    (hB.setCell (p := ⟨w.heap.size + 1 + 1, 0, none⟩) (by show w.heap.size ≤ w.heap.size + 1 + 1; omega) _).setCell (p := ⟨w.heap.size + 1 + 1 + 1, 0, none⟩) (by show w.heap.size ≤ w.heap.size + 1 + 1 + 1; omega) _, fun b ok ok' v xs hv ho => ?_⟩
  exact Kd.V_mono (Kd.V_far (Kd.V_far hv (fun k hk => (ho k hk).1.1) _) (fun k hk => (ho k hk).1.2) _) (fun k hk => (ho k hk).2)
set_option maxRecDepth 100000 in
set_option maxHeartbeats 4000000 in
theorem nat_Nat_Div.calls_z (P0_0_ : Nat → Prop) (A0_0 : Option Addr) (c0_0 : Nat) (l0_0 : List Int) (A1_0 : Option Addr) (c1_0 : Nat) (l1_0 : List Int) (w : World) (hs0_0 : Kd.V (Kd.int .u32) 23 w w.heap.size (fun k_ => P0_0_ k_) (.slice A0_0 l0_0.length c0_0) l0_0) (hr1_0 : Kd.C (Kd.int .u32) w A1_0 l1_0.length l1_0) (hc1_0 : l1_0.length ≤ c1_0) (hz : l1_0.length = 0) :
    Calls Try.prog 53 #[.agg #[.slice A0_0 l0_0.length c0_0], .agg #[.slice A1_0 l1_0.length c1_0]] w fun e w' => ∃ v0_ v1_ : Value, e = .returned (.tuple #[.agg #[v0_], .agg #[v1_], (.int .i64 5)]) ∧ Kd.V (Kd.int .u32) 23 w' w.heap.size (fun k_ => (P0_0_ k_ ∨ w.heap.size ≤ k_)) v0_ [] ∧ Kd.V (Kd.int .u32) 23 w' w.heap.size (fun k_ => (P0_0_ k_ ∨ w.heap.size ≤ k_)) v1_ [] ∧ Below w.heap.size w w' := by
  have V0 := Aside0.mk (Kd.V_bound hs0_0)
  have C1 := Aside0.mk hr1_0
  have hc1 := Aside0.mk hc1_0
  clear hs0_0 hr1_0 hc1_0
  obtain ⟨k0, k1, k2, k3, B⟩ := four_new w (.cells #[.slice A0_0 l0_0.length c0_0] 38) (.cells #[.slice A1_0 l1_0.length c1_0] 38) (.cells #[.slice none 0 0] 38) (.cells #[.slice none 0 0] 38)
  have V1 := Aside0.mk (Kd.V_alloc (Kd.V_alloc (Kd.V_alloc (Kd.V_alloc V0.out (.cells #[.slice A0_0 l0_0.length c0_0] 38)) (.cells #[.slice A1_0 l1_0.length c1_0] 38)) (.cells #[.slice none 0 0] 38)) (.cells #[.slice none 0 0] 38))
  have C2 := Aside0.mk (Kd.C_below C1.out B)
  have hzb : ((l1_0.length : Int) == 0) = true := by rw [hz]; rfl
  replace hz := Aside0.mk hz
  go_enter Try.func53, Try.ntmps53
  go_wp2_with (go_at_call 44; refine (nat_Nat_Zero.calls _ _ l1_0 _ _ C2.out hc1.out rfl).mono ?_; rintro e w1 ⟨rfl, hb⟩; replace k0 := (hb.block _ (blk_lt k0)).trans k0; replace k1 := (hb.block _ (blk_lt k1)).trans k1; replace k2 := (hb.block _ (blk_lt k2)).trans k2; replace k3 := (hb.block _ (blk_lt k3)).trans k3; replace V1 := Aside0.mk (Kd.V_below V1.out hb); replace C2 := Aside0.mk (Kd.C_below C2.out hb); replace B := below_step B hb; clear hb; have q0 : World.cell? _ ⟨w.heap.size, 0, none⟩ = some (.slice A0_0 l0_0.length c0_0) := blk_cell k0 0; have q1 : World.cell? _ ⟨w.heap.size + 1, 0, none⟩ = some (.slice A1_0 l1_0.length c1_0) := blk_cell k1 0; have q2 : World.cell? _ ⟨w.heap.size + 1 + 1, 0, none⟩ = some (.slice none 0 0) := blk_cell k2 0; have q3 : World.cell? _ ⟨w.heap.size + 1 + 1 + 1, 0, none⟩ = some (.slice none 0 0) := blk_cell k3 0; have f2 := blk_frozen k2 0; have f3 := blk_frozen k3 0)
  obtain ⟨e2, e3, y1, y2⟩ := two_end k2 k3 B _ rfl
  refine bodyPost_ret (results_list (rs := [.cell 4 38, .cell 5 38, .tmp 6]) rfl (by simp) (.cell _ 38 _ (0, 0) _ rfl e2 Try.underlying38 rfl (by kernel_rfl) (.cell _ 38 _ (0, 0) _ rfl e3 Try.underlying38 rfl (by kernel_rfl) (.tmp .nil)))) rfl ?_
  exact ⟨_, _, rfl, Kd.V_nil _ _ _ _ _, Kd.V_nil _ _ _ _ _, y1⟩
set_option maxRecDepth 100000 in
set_option maxHeartbeats 4000000 in
theorem nat_Nat_Div.calls_l (k : Nat) (c : Int) (P0_0_ : Nat → Prop) (A0_0 : Option Addr) (c0_0 : Nat) (l0_0 : List Int) (A1_0 : Option Addr) (c1_0 : Nat) (l1_0 : List Int) (w : World) (hs0_0 : Kd.V (Kd.int .u32) 23 w w.heap.size (fun k_ => P0_0_ k_) (.slice A0_0 l0_0.length c0_0) l0_0) (hr1_0 : Kd.C (Kd.int .u32) w A1_0 l1_0.length l1_0) (hc1_0 : l1_0.length ≤ c1_0) (hz : ¬ l1_0.length = 0) (hc : nat_Nat_Cmp.f k l0_0 l1_0 = some c) (hneg : c < 0) :
    Calls Try.prog 53 #[.agg #[.slice A0_0 l0_0.length c0_0], .agg #[.slice A1_0 l1_0.length c1_0]] w fun e w' => ∃ v0_ v1_ : Value, e = .returned (.tuple #[.agg #[v0_], .agg #[v1_], (.int .i64 0)]) ∧ Kd.V (Kd.int .u32) 23 w' w.heap.size (fun k_ => (P0_0_ k_ ∨ w.heap.size ≤ k_)) v0_ [] ∧ Kd.V (Kd.int .u32) 23 w' w.heap.size (fun k_ => (P0_0_ k_ ∨ w.heap.size ≤ k_)) v1_ l0_0 ∧ Below w.heap.size w w' := by
  have V0 := Aside0.mk (Kd.V_bound hs0_0)
  have C1 := Aside0.mk hr1_0
  have hc1 := Aside0.mk hc1_0
  clear hs0_0 hr1_0 hc1_0
  obtain ⟨k0, k1, k2, k3, B⟩ := four_new w (.cells #[.slice A0_0 l0_0.length c0_0] 38) (.cells #[.slice A1_0 l1_0.length c1_0] 38) (.cells #[.slice none 0 0] 38) (.cells #[.slice none 0 0] 38)
  have V1 := Aside0.mk (Kd.V_alloc (Kd.V_alloc (Kd.V_alloc (Kd.V_alloc V0.out (.cells #[.slice A0_0 l0_0.length c0_0] 38)) (.cells #[.slice A1_0 l1_0.length c1_0] 38)) (.cells #[.slice none 0 0] 38)) (.cells #[.slice none 0 0] 38))
  have C2 := Aside0.mk (Kd.C_below C1.out B)
  have hzb : ((l1_0.length : Int) == 0) = false := beq_eq_false_iff_ne.2 (by omega)
  replace hc := Aside0.mk hc
  replace hz := Aside0.mk hz
  have hmx : Try.prog.follows .mixedOrders = true := by kernel_rfl
  have hnb : decide (c < 0) = true := decide_eq_true hneg
  go_enter Try.func53, Try.ntmps53
  go_wp2_with (first | (go_at_call 44; refine (nat_Nat_Zero.calls _ _ l1_0 _ _ C2.out hc1.out rfl).mono ?_; rintro e w1 ⟨rfl, hb⟩; replace k0 := (hb.block _ (blk_lt k0)).trans k0; replace k1 := (hb.block _ (blk_lt k1)).trans k1; replace k2 := (hb.block _ (blk_lt k2)).trans k2; replace k3 := (hb.block _ (blk_lt k3)).trans k3; replace V1 := Aside0.mk (Kd.V_below V1.out hb); replace C2 := Aside0.mk (Kd.C_below C2.out hb); replace B := below_step B hb; clear hb; have q0 : World.cell? _ ⟨w.heap.size, 0, none⟩ = some (.slice A0_0 l0_0.length c0_0) := blk_cell k0 0; have q1 : World.cell? _ ⟨w.heap.size + 1, 0, none⟩ = some (.slice A1_0 l1_0.length c1_0) := blk_cell k1 0; have q2 : World.cell? _ ⟨w.heap.size + 1 + 1, 0, none⟩ = some (.slice none 0 0) := blk_cell k2 0; have q3 : World.cell? _ ⟨w.heap.size + 1 + 1 + 1, 0, none⟩ = some (.slice none 0 0) := blk_cell k3 0; have f2 := blk_frozen k2 0; have f3 := blk_frozen k3 0) | (go_at_call 45; refine (nat_Nat_Cmp.calls k _ _ l0_0 _ _ l1_0 c _ (Kd.V_reads' V1.out).2.2 (Kd.V_reads' V1.out).2.1 C2.out hc1.out hc.out).mono ?_; rintro e w2 ⟨rfl, hb⟩; replace k0 := (hb.block _ (blk_lt k0)).trans k0; replace k1 := (hb.block _ (blk_lt k1)).trans k1; replace k2 := (hb.block _ (blk_lt k2)).trans k2; replace k3 := (hb.block _ (blk_lt k3)).trans k3; replace V1 := Aside0.mk (Kd.V_below V1.out hb); replace C2 := Aside0.mk (Kd.C_below C2.out hb); replace B := below_step B hb; clear hb; have q0 : World.cell? _ ⟨w.heap.size, 0, none⟩ = some (.slice A0_0 l0_0.length c0_0) := blk_cell k0 0; have q1 : World.cell? _ ⟨w.heap.size + 1, 0, none⟩ = some (.slice A1_0 l1_0.length c1_0) := blk_cell k1 0; have q2 : World.cell? _ ⟨w.heap.size + 1 + 1, 0, none⟩ = some (.slice none 0 0) := blk_cell k2 0; have q3 : World.cell? _ ⟨w.heap.size + 1 + 1 + 1, 0, none⟩ = some (.slice none 0 0) := blk_cell k3 0; have f2 := blk_frozen k2 0; have f3 := blk_frozen k3 0))
  go_region
  all_goals go_wp2
  obtain ⟨e2, e3, y1, y2⟩ := two_end (w := w) (W := w2) (va := .slice none 0 0) (vb := .slice A0_0 l0_0.length c0_0) k2 k3 B _ rfl
  refine bodyPost_ret (results_list (rs := [.cell 4 38, .cell 5 38, .tmp 6]) rfl (by simp) (.cell _ 38 _ (0, 0) _ rfl e2 Try.underlying38 rfl (by kernel_rfl) (.cell _ 38 _ (0, 0) _ rfl e3 Try.underlying38 rfl (by kernel_rfl) (.tmp .nil)))) rfl ?_
  exact ⟨_, _, rfl, Kd.V_nil _ _ _ _ _, Kd.V_drew (y2 _ _ _ _ _ V1.out (fun k_ hk => ⟨⟨by have := hk.2; omega, by have := hk.2; omega⟩, .inl hk.1⟩)), y1.drew⟩
theorem nat_Nat_Div.calls (k : Nat) (P0_0_ : Nat → Prop) (A0_0 : Option Addr) (c0_0 : Nat) (l0_0 : List Int) (A1_0 : Option Addr) (c1_0 : Nat) (l1_0 : List Int) (r1 : List Int) (r2 : List Int) (r3 : Int) (w : World) (hs0_0 : Kd.V (Kd.int .u32) 23 w w.heap.size (fun k_ => P0_0_ k_) (.slice A0_0 l0_0.length c0_0) l0_0) (hr1_0 : Kd.C (Kd.int .u32) w A1_0 l1_0.length l1_0) (hc1_0 : l1_0.length ≤ c1_0) (h : nat_Nat_Div.f k l0_0 l1_0 = some (r1, r2, r3)) :
    Calls Try.prog 53 #[.agg #[.slice A0_0 l0_0.length c0_0], .agg #[.slice A1_0 l1_0.length c1_0]] w fun e w' => ∃ v0_ v1_ : Value, e = .returned (.tuple #[.agg #[v0_], .agg #[v1_], .int .i64 r3]) ∧ Kd.V (Kd.int .u32) 23 w' w.heap.size (fun k_ => (P0_0_ k_ ∨ w.heap.size ≤ k_)) v0_ r1 ∧ Kd.V (Kd.int .u32) 23 w' w.heap.size (fun k_ => (P0_0_ k_ ∨ w.heap.size ≤ k_)) v1_ r2 ∧ Below w.heap.size w w' := by
  unfold nat_Nat_Div.f at h
  by_cases hg : (canonB l0_0 && canonB l1_0 && decide (l0_0.length ≤ 1048576) && decide (l1_0.length ≤ 1048576)) = true
  · rw [if_pos hg] at h
    simp only [Bool.and_eq_true, decide_eq_true_eq] at hg
    obtain ⟨⟨⟨g0, g1⟩, g2⟩, g3⟩ := hg
    have e0 := canonB_eq g0
    have e1 := canonB_eq g1
    by_cases hB : valW l1_0 = 0
    · rw [if_pos hB] at h
      cases h
      exact nat_Nat_Div.calls_z P0_0_ A0_0 c0_0 l0_0 A1_0 c1_0 l1_0 w hs0_0 hr1_0 hc1_0 ((canonB_nil g1).1 hB)
    · rw [if_neg hB] at h
      cases h
      have hl : ¬ l1_0.length = 0 := fun e => hB ((canonB_nil g1).2 e)
      by_cases hlt : valW l0_0 < valW l1_0
      · have hc : nat_Nat_Cmp.f 0 l0_0 l1_0 = some (cmpN (valW l0_0) (valW l1_0)) := by
          have := Cmp_toW 0 (valW l0_0) (valW l1_0)
          rwa [e0, e1] at this
        have hcal := nat_Nat_Div.calls_l 0 _ P0_0_ A0_0 c0_0 l0_0 A1_0 c1_0 l1_0 w hs0_0 hr1_0 hc1_0 hl hc (cmpN_lt.2 hlt)
        rw [Nat.div_eq_of_lt hlt, Nat.mod_eq_of_lt hlt, toW_zero, e0]
        exact hcal
      · obtain ⟨K, hK⟩ := (g_ev (valW l0_0) (valW l1_0) (by omega) (by rw [e0]; exact g2) (by rw [e1]; exact g3)).rounds
        rw [e0, e1] at hK
        have hz : nat_Nat_Zero.f l1_0 = some false := by
          have := Zero_toW (valW l1_0)
          rw [e1] at this
          rw [this]
          simp [hB]
        have hn : ∀ t, nat_Nat_Cmp.f K l0_0 l1_0 = some t → ¬ t < 0 := by
          intro t ht hneg
          have := Cmp_toW K (valW l0_0) (valW l1_0)
          rw [e0, e1, ht] at this
          cases this
          exact hlt (cmpN_lt.1 hneg)
        have hr0 := Kd.V_reads' hs0_0
        by_cases h1 : (l1_0.length : Int) = 1
        · refine (nat_Nat_Div.calls_o K A0_0 c0_0 l0_0 A1_0 c1_0 l1_0 _ _ _ w hr0.2.2 hr0.2.1 hr1_0 hc1_0 hz hn h1 hK).mono ?_
          rintro e w' ⟨v0, v1, he, hv0, hv1, hb⟩
          exact ⟨v0, v1, he, Kd.V_mono hv0 (fun _ hk => .inr hk), Kd.V_mono hv1 (fun _ hk => .inr hk), hb⟩
        · refine (nat_Nat_Div.calls_k K A0_0 c0_0 l0_0 A1_0 c1_0 l1_0 _ _ _ w hr0.2.2 hr0.2.1 hr1_0 hc1_0 hz hn h1 hK).mono ?_
          rintro e w' ⟨v0, v1, he, hv0, hv1, hb⟩
          exact ⟨v0, v1, he, Kd.V_mono hv0 (fun _ hk => .inr hk), Kd.V_mono hv1 (fun _ hk => .inr hk), hb⟩
  · rw [if_neg hg] at h
    cases h
end Go.Proofs.Yteejcpbngnojkaa.P
end
section
namespace Go.Proofs.Yteejcpbngnojkaa.P
open Go.RowKit Go.Proofs.YteejcpbngnojkaaW.PrintWords Go.Proofs.YteejcpbngnojkaaW.PrintLast Go.Proofs.YteejcpbngnojkaaW.PrintMore
attribute [local go_sem] max2_int min2_int max_two min_two max_three min_three max_four min_four
set_option linter.unusedVariables false
set_option linter.unusedSimpArgs false
def sacristyref01_Small.l0 : Nat → Int → List Bool → Option (List Bool)
 |0,_,_ => none
 |k + 1,x0,x3 => if x0 > 0 then (if x3.length < 140737488355328 then (sacristyref01_Small.l0 k (IntKind.u64.wrap (Int.tdiv x0 2)) (x3 ++ [((Int.tmod x0 2) == 1)])) else (none)) else (some x3)
def sacristyref01_Small.f (k : Nat) (a0 : Int) : Option (List Bool):=sacristyref01_Small.l0 k a0 (([] : List Bool))
theorem sacristyref01_Small.mono_l : ∀ k,(∀ y0 y1,LeO (sacristyref01_Small.l0 k y0 y1) (sacristyref01_Small.l0 (k + 1) y0 y1))
 |0 => fun _ _ r h => by simp [sacristyref01_Small.l0] at h
 |k + 1 => by
  have ih0:=sacristyref01_Small.mono_l k
  ·intro y0 y1
   unfold sacristyref01_Small.l0
   repeat' first
   |(with_reducible exact ih0 _ _)
   |(with_reducible exact LeO.refl _)
   |(with_reducible exact LeO.none _)
   |(with_reducible refine LeO.ite ?_ ?_)
   |(with_reducible refine LeO.bind ?_ (fun _ => ?_))
   |exact ih0 _ _
   |exact LeO.none _
   |refine LeO.ite ?_ ?_
   |refine LeO.bind ?_ (fun _ => ?_)
theorem sacristyref01_Small.mono : ∀ a0 k,LeO (sacristyref01_Small.f k a0) (sacristyref01_Small.f (k + 1) a0):=by
 intro a0 k
 have ih0:=sacristyref01_Small.mono_l k
 unfold sacristyref01_Small.f
 repeat' first
   |(with_reducible exact ih0 _ _)
   |(with_reducible exact LeO.refl _)
   |(with_reducible exact LeO.none _)
   |(with_reducible refine LeO.ite ?_ ?_)
   |(with_reducible refine LeO.bind ?_ (fun _ => ?_))
   |exact ih0 _ _
   |exact LeO.none _
   |refine LeO.ite ?_ ?_
   |refine LeO.bind ?_ (fun _ => ?_)
set_option maxHeartbeats 8000000 in
set_option maxRecDepth 100000 in
theorem sacristyref01_Small.calls (k : Nat) (a0 : Int) (r : List Bool) (w : World) (h : sacristyref01_Small.f k a0 = some r) :
  Calls Try.prog 56 #[.int .u64 a0] w fun e w' => ∃ v0_ : Value,e = .returned (v0_) ∧ Kd.R Kd.bool 4 w' w.heap.size (fun _ => True) v0_ r ∧ Below w.heap.size w w':=by
 have HB:=Aside0.mk (Below.refl w.heap.size w)
 have H : (sacristyref01_Small.l0 k a0 (([] : List Bool))) = some r:=h
 clear h
 obtain ⟨y414,hy414⟩ : ∃ y_ : List Bool,y_ = (([] : List Bool)):=⟨_,rfl⟩
 replace H : (sacristyref01_Small.l0 k a0 y414) = some r:=by first|(rw [hy414];with_reducible exact H)|(have H2_:=(Option.bind_some _ _).symm.trans H;rw [hy414];with_reducible exact H2_)|(have H2_:=(Option.bind_some _ _).symm.trans H;with_reducible exact H2_)|with_reducible exact H|(rw [hy414];exact H)|exact H
 have Ny414:=Aside0.mk hy414
 clear hy414
 have H':=Aside0.mk H
 clear H
 go_enter Try.func56,Try.ntmps56
 go_wp2_with (first|((with_reducible refine gate_dst (N:=4) rfl ?_);refine Kd.R_lit Kd.bool _ 4 ?hg (N:=4) ?hd (xs:=([] : List Bool)) (inner:=[]) (ok:=fun _ => True) (okp:=fun _ => True) ?hr ?hp (fun _ hk => hk) trivial (Below.refl _ _) (Nat.le_refl _) (by simp) ?_;(case hd => rfl);(case hg => rfl);(case hr => first|(go_simp;done)|(go_simp;rfl));(case hp => exact (Reps.none _ _));intro v415 w2 ho3 hb hg_ hnew_;clear hg_ hnew_;(first|rw [← Ny414.out] at ho3|(simp only [Int.reduceToNat] at ho3;rw [← Ny414.out] at ho3));have HO416:=Aside0.mk (Kd.R_lower ho3 (below_size (qS HB)));replace HB:=qs HB hb;clear hb ho3))
 go_loopg [0,3] k (fun kq v0 v3 w' => ∃ (x0_1 : Int) (x3_1 : List Bool),v0 = .int .u64 x0_1 ∧ Aside0 (sacristyref01_Small.l0 kq x0_1 x3_1 = some r) ∧ Aside0 (kq ≤ k) ∧ Aside0 (Kd.R Kd.bool 4 w' w.heap.size (fun _ => True) v3 x3_1) ∧ Aside0 (Below w.heap.size w w'))
 case atStart => exact ⟨(a0),(y414),(by first|rfl|(simp;done)|(simp [*];done)),H',⟨Nat.le_refl _⟩,⟨qRm HO416⟩,⟨qS HB⟩⟩
 case round =>
  clear H'
  try clear p2
  obtain ⟨x0_1,x3_1,rfl,HA,HK1,HO_3,HB⟩:=hrel
  cases gk with
  |zero => exact absurd HA.out (by simp [sacristyref01_Small.l0])
  |succ k1 =>
   have H:=HA.out
   clear HA
   simp only [sacristyref01_Small.l0] at H
   by_cases c4 : x0_1 > 0
   ·rw [if_pos c4] at H
    have c4b0 : decide (0 < x0_1) = true:=decide_eq_true c4
    clear c4
    by_cases c5 : x3_1.length < 140737488355328
    ·rw [if_pos c5] at H
     have LMc5:=Aside0.mk c5
     clear c5
     obtain ⟨y417,hy417⟩ : ∃ y_ : List Bool,y_ = (x3_1 ++ [((Int.tmod x0_1 2) == 1)]):=⟨_,rfl⟩
     replace H : (sacristyref01_Small.l0 k1 (IntKind.u64.wrap (Int.tdiv x0_1 2)) y417) = some r:=by first|(rw [hy417];with_reducible exact H)|(have H2_:=(Option.bind_some _ _).symm.trans H;rw [hy417];with_reducible exact H2_)|(have H2_:=(Option.bind_some _ _).symm.trans H;with_reducible exact H2_)|with_reducible exact H|(rw [hy417];exact H)|exact H
     have Ny417:=Aside0.mk hy417
     clear hy417
     have H':=Aside0.mk H
     clear H
     go_wp2_with (first|((with_reducible refine gate_builtin (b:=.append) (xs:=#[.tmp 7,.tmp 11]) rfl ?_);at_builtin;refine Kd.R_append Kd.bool (w0:=w) w.heap.size rfl (.tmp 7) (.tmp 11) 42 4 (.bool false) 1 rfl Try.underlying42 info4 rfl (by decide) (by omega) u3 x3_1 ((Int.tmod x0_1 2) == 1) [.bool ((Int.tmod x0_1 2) == 1)] (fun _ => True) (fun _ => False) rfl rfl ?aP (fun _ hk => hk.elim) ?aF ?aO ?aB ?aS ?aL ?_;(case aP => exact rfl);(case aB => exact (qS HB));(case aF => exact (fun _ _ => trivial));(case aO => exact (qRm HO_3));(case aS => exact (below_size (qS HB)));(case aL => have:=LMc5.out;omega);intro v418 w6 ho hb hg hat;rw [← Ny417.out] at ho;replace HB:=Aside0.mk (hb);have HO419:=Aside0.mk (ho);(try clear HO_3);clear ho hb hg hat))
     go_roundg k1
     case measure => have:=HK1.out;omega
     case rel => exact ⟨(IntKind.u64.wrap (Int.tdiv x0_1 2)),(y417),(by first|rfl|(simp;done)|(simp [*];done)),H',⟨by have:=HK1.out;omega⟩,⟨qRm HO419⟩,⟨qS HB⟩⟩
    ·rw [if_neg c5] at H
     exact absurd H (by simp)
   ·rw [if_neg c4] at H
    have c4b0 : decide (0 < x0_1) = false:=decide_eq_false c4
    clear c4
    obtain rfl:=Option.some.inj H
    go_wp2
    (first|go_ret|(refine ⟨_,results_tmp rfl _ _ _,?_⟩))
    exact ⟨_,by first|rfl|(simp [errW_none,errW_some] <;> rfl)|(simp [*,errW_none,errW_some] <;> rfl),qRm HO_3,qS HB⟩
end Go.Proofs.Yteejcpbngnojkaa.P
end
section
namespace Go.Proofs.Yteejcpbngnojkaa.P
open Go.RowKit Go.Proofs.YteejcpbngnojkaaW.PrintWords Go.Proofs.YteejcpbngnojkaaW.PrintLast Go.Proofs.YteejcpbngnojkaaW.PrintMore
attribute [local go_sem] max2_int min2_int max_two min_two max_three min_three max_four min_four
set_option linter.unusedVariables false
set_option linter.unusedSimpArgs false
def sacristylaw01_lives.f (k : Nat)  : Option (Bool):=(nat_New.f k 7).bind fun t420 => ((nat_New.f k 2).bind fun t423 => ((nat_Nat_Div.f k t420 t423).bind fun bt426 => (if bt426.2.2 = 0 then ((sacristyref01_Small.f k 3).bind fun t435 => ((sacristylaw01_Same.f k bt426.1 t435).bind fun t438 => (if t438 = true then ((sacristyref01_Small.f k 1).bind fun t439 => ((sacristylaw01_Same.f k bt426.2.1 t439).bind fun t442 => (some t442))) else (some false)))) else (some false))))
theorem sacristylaw01_lives.mono : ∀ k,LeO (sacristylaw01_lives.f k ) (sacristylaw01_lives.f (k + 1) ):=by
 intro  k
 unfold sacristylaw01_lives.f
 repeat' first
   |(with_reducible exact nat_Nat_Div.mono _ _ _)
   |(with_reducible exact nat_New.mono _ _)
   |(with_reducible exact sacristylaw01_Same.mono _ _ _)
   |(with_reducible exact sacristyref01_Small.mono _ _)
   |(with_reducible exact LeO.refl _)
   |(with_reducible exact LeO.none _)
   |(with_reducible refine LeO.ite ?_ ?_)
   |(with_reducible refine LeO.bind ?_ (fun _ => ?_))
   |exact nat_Nat_Div.mono _ _ _
   |exact nat_New.mono _ _
   |exact sacristylaw01_Same.mono _ _ _
   |exact sacristyref01_Small.mono _ _
   |exact LeO.none _
   |refine LeO.ite ?_ ?_
   |refine LeO.bind ?_ (fun _ => ?_)
def sacristylaw01_lives.T2 : Bool × List (List Nat × List Nat):=(true,[([],[]),([0],[0]),([1],[1]),([2],[2]),([2,2],[2]),([3,4,4,2],[2,3,4]),([2,5],[2,5]),([6,5],[6]),([7],[7]),([7,7],[7]),([8,9,9,7],[7,8,9]),([7,10],[7,10]),([11,10,0,1,2,3,4,5,6,7,8,9,10,11],[11])])
def sacristylaw01_lives.B2 : List Nat:=[0,1,3,7,7,31,63,127,255,255,1023,2047,4095]
theorem sacristylaw01_lives.tab2 : rtab .any (opsOf Try.f34 2) = sacristylaw01_lives.T2:=by kernel_rfl
theorem sacristylaw01_lives.bits2 : waitsOk sacristylaw01_lives.T2.2 sacristylaw01_lives.B2 = true:=by kernel_rfl
set_option maxHeartbeats 8000000 in
set_option maxRecDepth 100000 in
theorem sacristylaw01_lives.calls (k : Nat)  (r : Bool) (w : World) (h : sacristylaw01_lives.f k  = some r) :
  Calls Try.prog 34 #[] w fun e w' => e = .returned (.bool r) ∧ Below w.heap.size w w':=by
 have hu38:=Try.underlying38
 have HB:=Aside0.mk (Below.refl w.heap.size w)
 have H : ((nat_New.f k 7).bind fun t420 => ((nat_New.f k 2).bind fun t423 => ((nat_Nat_Div.f k t420 t423).bind fun bt426 => (if bt426.2.2 = 0 then ((sacristyref01_Small.f k 3).bind fun t435 => ((sacristylaw01_Same.f k bt426.1 t435).bind fun t438 => (if t438 = true then ((sacristyref01_Small.f k 1).bind fun t439 => ((sacristylaw01_Same.f k bt426.2.1 t439).bind fun t442 => (some t442))) else (some false)))) else (some false))))) = some r:=h
 clear h
 obtain ⟨t420,A1,H⟩:=qH H
 obtain ⟨t423,A2,H⟩:=qH H
 obtain ⟨⟨t426,t429,t432⟩,A3,H⟩:=qH H
 dsimp only at H
 by_cases c4 : t432 = 0
 ·rw [if_pos c4] at H
  have c4b0 : (t432 == 0) = true:=beq_iff_eq.mpr c4
  have c4b1 : (t432 != 0) = false:=bne_eq_false_iff_eq.mpr c4
  clear c4
  obtain ⟨t435,A5,H⟩:=qH H
  obtain ⟨t438,A6,H⟩:=qH H
  by_cases c7 : t438 = true
  ·subst c7
   rw [if_pos rfl] at H
   obtain ⟨t439,A8,H⟩:=qH H
   obtain ⟨t442,A9,H⟩:=qH H
   obtain rfl:=Option.some.inj H
   go_enter Try.func34,Try.ntmps34
   try go_wp2_with (first|((with_reducible refine gate_callee (f:=54) rfl ?_);refine gL (some 5) Try.func54 #[.int .u64 7] ?_;(with_reducible refine (nat_New.calls k 7 t420 _ A1.out).mono ?_);rintro e w10 ⟨v421,rfl,ho0,hb⟩;refine ⟨_,rfl,?_⟩;have HO422:=Aside0.mk (Kd.V_lower (Kd.V_mono (ok':=fun k_ => True) ho0 (fun k_ hk_ => trivial)) (below_size (qS HB)));replace HB:=qs HB hb;clear hb ho0)|((with_reducible refine gate_callee (f:=54) rfl ?_);refine gL (some 6) Try.func54 #[.int .u64 2] ?_;(with_reducible refine (nat_New.calls k 2 t423 _ A2.out).mono ?_);rintro e w11 ⟨v424,rfl,ho0,hb⟩;refine ⟨_,rfl,?_⟩;replace HO422:=qVb HO422 hb;have HO425:=Aside0.mk (Kd.V_lower (Kd.V_mono (ok':=fun k_ => True) ho0 (fun k_ hk_ => trivial)) (below_size (qS HB)));replace HB:=qs HB hb;clear hb ho0;obtain ⟨Ao12,co12,eo12⟩:=Kd.V_slice HO422.out;subst eo12;obtain ⟨Ao13,co13,eo13⟩:=Kd.V_slice HO425.out;subst eo13)|((with_reducible refine gate_callee (f:=53) rfl ?_);refine gL (some 7) Try.func53 #[.agg #[.slice Ao12 t420.length co12],.agg #[.slice Ao13 t423.length co13]] ?_;(with_reducible refine (nat_Nat_Div.calls k (fun k_ => True) _ _ t420 _ _ t423 t426 t429 t432 _ ?side1 ?side2 ?side3 A3.out).mono ?_);(case side1 => first|exact HO422.out|exact qVm HO422);(case side2 => exact qCV HO425);(case side3 => exact qL HO425);rintro e w14 ⟨v427,v430,rfl,ho0,ho1,hb⟩;refine ⟨_,rfl,?_⟩;replace HO422:=qVb HO422 hb;replace HO425:=qVb HO425 hb;have HO428:=Aside0.mk (Kd.V_lower (Kd.V_mono (ok':=fun k_ => True) ho0 (fun k_ hk_ => trivial)) (below_size (qS HB)));have HO431:=Aside0.mk (Kd.V_lower (Kd.V_mono (ok':=fun k_ => True) ho1 (fun k_ hk_ => trivial)) (below_size (qS HB)));replace HB:=qs HB hb;clear hb ho0 ho1)|((with_reducible refine gate_dst (N:=1) rfl ?_);refine qX #[.slice none 0 0] 38 ?_;intro gb433 hg w15 hbox hb;replace HO422:=qVe HO422 hb hg;replace HO425:=qVe HO425 hb hg;replace HO428:=qVe HO428 hb hg;replace HO431:=qVe HO431 hb hg;have BK433:=Aside0.mk hbox;have GE433:=qh hg HB;replace HB:=qs HB hb;clear hb hbox hg)|((with_reducible refine gate_dst (N:=2) rfl ?_);refine qX #[.slice none 0 0] 38 ?_;intro gb434 hg w16 hbox hb;replace HO422:=qVe HO422 hb hg;replace HO425:=qVe HO425 hb hg;replace HO428:=qVe HO428 hb hg;replace HO431:=qVe HO431 hb hg;have BK434:=Aside0.mk hbox;have GE434:=qh hg HB;replace HB:=qs HB hb;have NB433_434:=ql hg BK433;have NB434_433:=qg hg BK433;replace BK433:=qb BK433 hb;clear hb hbox hg;obtain ⟨Ao17,co17,eo17⟩:=Kd.V_slice HO428.out;subst eo17;have hnb18:=NB433_434.out;have hnc18:=NB434_433.out;have hcz19_0:=bc BK433;have hfz19_0:=bz BK433;obtain ⟨Ao20,co20,eo20⟩:=Kd.V_slice HO431.out;subst eo20;have hcz21_0:=bc BK434;have hfz21_0:=bz BK434))
   generalize hw : ((w16.setCell ⟨gb433,0,none⟩ (.slice Ao17 t426.length co17)).setCell ⟨gb434,0,none⟩ (.slice Ao20 t429.length co20)) = w22
   replace hw:=hw.symm
   replace HO422:=qVh hw HO422
   replace HO425:=qVh hw HO425
   replace HO428:=qVh hw HO428
   replace HO431:=qVh hw HO431
   replace BK433:=qBp hw BK433
   replace BK434:=qBp hw BK434
   replace HB:=qSh hw HB
   clear hw
   replace HO422:=qVw HO422
   replace HO425:=qVw HO425
   replace HO428:=qVw HO428
   replace HO431:=qVw HO431
   replace BK433:=qbd BK433
   replace BK434:=qbd BK434
   replace HB:=qsd HB
   refine start_ (n:=13) (S:=fun w' => w'.cell? ⟨gb433,0,none⟩ = some (.slice Ao17 t426.length co17) ∧ w'.cell? ⟨gb434,0,none⟩ = some (.slice Ao20 t429.length co20)) (ds:=[]) #[false,false,false,false,false,false,false,false,false,false,false,false,false] (by kernel_rfl) rfl rfl ⟨bc BK433,bc BK434⟩ (fun hHeld => ?_);refine with_tabW sacristylaw01_lives.tab2 sacristylaw01_lives.bits2 (fun HT_ HW_ => ?_)
   generalize w22.drew = w23 at HO422 HO425 HO428 HO431 BK433 BK434 HB hHeld ⊢
   refine qP 0 11 HT_ ?_
   refine qP 1 12 HT_ ?_
   refine qP 2 13 HT_ ?_
   refine qT 3 14 HT_ HW_ hHeld ?_
   refine q1 4 (some 15) HT_ rfl (fun K hK => ?_)
   refine g_ Try.func56 #[.int .u64 3] ?_
   with_reducible refine (sacristyref01_Small.calls k 3 t435 _ A5.out).mono ?_
   rintro e w24 ⟨v436,rfl,ho0,hb⟩
   refine ⟨_,rfl,?_⟩
   replace HO422:=qVd HO422 ho0 hb
   replace HO425:=qVd HO425 ho0 hb
   replace HO428:=qVd HO428 ho0 hb
   replace HO431:=qVd HO431 ho0 hb
   have HO437:=Aside0.mk (Kd.R_lower ho0 (below_size (qS HB)))
   replace BK433:=qb BK433 hb
   replace BK434:=qb BK434 hb
   replace HB:=qs HB hb
   clear hb ho0
   obtain ⟨Ao25,co25,eo25⟩:=Kd.R_slice HO437.out
   (first|subst eo25|(injection eo25 with f1_ f2_ f3_;have f4_:=f1_.symm;have f5_:=f3_.symm;clear f1_ f2_ f3_;subst f4_;subst f5_))
   refine hK.out _ _ ⟨bc BK433,bc BK434⟩ (fun hHeld => ?_)
   clear hK K
   refine qO 15 ?_
   refine q1 5 (some 16) HT_ rfl (fun K hK => ?_)
   refine g_ Try.func37 #[.agg #[.slice Ao17 t426.length co17],.slice Ao25 t435.length co25] ?_
   with_reducible refine (sacristylaw01_Same.calls k _ _ t426 _ _ t435 true _ ?side1 ?side2 ?side3 ?side4 A6.out).mono ?_
   (case side1 => exact qCV HO428)
   (case side2 => exact qL HO428)
   (case side3 => exact qCR HO437)
   (case side4 => exact qLR HO437)
   rintro e w26 ⟨rfl,hb⟩
   refine ⟨_,rfl,?_⟩
   replace HO422:=qVb HO422 hb
   replace HO425:=qVb HO425 hb
   replace HO428:=qVb HO428 hb
   replace HO431:=qVb HO431 hb
   replace HO437:=qRb HO437 hb
   replace BK433:=qb BK433 hb
   replace BK434:=qb BK434 hb
   replace HB:=qs HB hb
   clear hb
   refine hK.out _ _ ⟨bc BK433,bc BK434⟩ (fun hHeld => ?_)
   clear hK K
   refine qO 16 ?_
   refine qP 6 17 HT_ ?_
   refine qP 7 18 HT_ ?_
   refine qT 8 19 HT_ HW_ hHeld ?_
   refine q1 9 (some 20) HT_ rfl (fun K hK => ?_)
   refine g_ Try.func56 #[.int .u64 1] ?_
   with_reducible refine (sacristyref01_Small.calls k 1 t439 _ A8.out).mono ?_
   rintro e w27 ⟨v440,rfl,ho0,hb⟩
   refine ⟨_,rfl,?_⟩
   replace HO422:=qVd HO422 ho0 hb
   replace HO425:=qVd HO425 ho0 hb
   replace HO428:=qVd HO428 ho0 hb
   replace HO431:=qVd HO431 ho0 hb
   have HO441:=Aside0.mk (Kd.R_lower (Kd.R_new' ho0 (Kd.R_lt (qRm HO437))) (below_size (qS HB)))
   replace HO437:=qRd HO437 ho0 hb
   replace BK433:=qb BK433 hb
   replace BK434:=qb BK434 hb
   replace HB:=qs HB hb
   clear hb ho0
   obtain ⟨Ao28,co28,eo28⟩:=Kd.R_slice HO441.out
   (first|subst eo28|(injection eo28 with f1_ f2_ f3_;have f4_:=f1_.symm;have f5_:=f3_.symm;clear f1_ f2_ f3_;subst f4_;subst f5_))
   refine hK.out _ _ ⟨bc BK433,bc BK434⟩ (fun hHeld => ?_)
   clear hK K
   refine qO 20 ?_
   refine q1 10 (some 21) HT_ rfl (fun K hK => ?_)
   refine g_ Try.func37 #[.agg #[.slice Ao20 t429.length co20],.slice Ao28 t439.length co28] ?_
   with_reducible refine (sacristylaw01_Same.calls k _ _ t429 _ _ t439 t442 _ ?side1 ?side2 ?side3 ?side4 A9.out).mono ?_
   (case side1 => exact qCV HO431)
   (case side2 => exact qL HO431)
   (case side3 => exact qCR HO441)
   (case side4 => exact qLR HO441)
   rintro e w29 ⟨rfl,hb⟩
   refine ⟨_,rfl,?_⟩
   replace HO422:=qVb HO422 hb
   replace HO425:=qVb HO425 hb
   replace HO428:=qVb HO428 hb
   replace HO431:=qVb HO431 hb
   replace HO437:=qRb HO437 hb
   replace HO441:=qRb HO441 hb
   replace BK433:=qb BK433 hb
   replace BK434:=qb BK434 hb
   replace HB:=qs HB hb
   clear hb
   refine hK.out _ _ ⟨bc BK433,bc BK434⟩ (fun hHeld => ?_)
   clear hK K
   refine qO 21 ?_
   refine qP 11 22 HT_ ?_
   refine qP 12 0 HT_ ?_
   refine qD HT_ ?_
   try go_wp2
   (first|go_ret|(refine ⟨_,results_tmp rfl _ _ _,?_⟩))
   exact ⟨by first|rfl|(simp [errW_none,errW_some] <;> rfl)|(simp [*,errW_none,errW_some] <;> rfl),qS HB⟩
  ·replace c7:=Bool.eq_false_iff.mpr c7
   subst c7
   rw [qFT] at H
   obtain rfl:=Option.some.inj H
   go_enter Try.func34,Try.ntmps34
   try go_wp2_with (first|((with_reducible refine gate_callee (f:=54) rfl ?_);refine gL (some 5) Try.func54 #[.int .u64 7] ?_;(with_reducible refine (nat_New.calls k 7 t420 _ A1.out).mono ?_);rintro e w30 ⟨v421,rfl,ho0,hb⟩;refine ⟨_,rfl,?_⟩;have HO422:=Aside0.mk (Kd.V_lower (Kd.V_mono (ok':=fun k_ => True) ho0 (fun k_ hk_ => trivial)) (below_size (qS HB)));replace HB:=qs HB hb;clear hb ho0)|((with_reducible refine gate_callee (f:=54) rfl ?_);refine gL (some 6) Try.func54 #[.int .u64 2] ?_;(with_reducible refine (nat_New.calls k 2 t423 _ A2.out).mono ?_);rintro e w31 ⟨v424,rfl,ho0,hb⟩;refine ⟨_,rfl,?_⟩;replace HO422:=qVb HO422 hb;have HO425:=Aside0.mk (Kd.V_lower (Kd.V_mono (ok':=fun k_ => True) ho0 (fun k_ hk_ => trivial)) (below_size (qS HB)));replace HB:=qs HB hb;clear hb ho0;obtain ⟨Ao32,co32,eo32⟩:=Kd.V_slice HO422.out;subst eo32;obtain ⟨Ao33,co33,eo33⟩:=Kd.V_slice HO425.out;subst eo33)|((with_reducible refine gate_callee (f:=53) rfl ?_);refine gL (some 7) Try.func53 #[.agg #[.slice Ao32 t420.length co32],.agg #[.slice Ao33 t423.length co33]] ?_;(with_reducible refine (nat_Nat_Div.calls k (fun k_ => True) _ _ t420 _ _ t423 t426 t429 t432 _ ?side1 ?side2 ?side3 A3.out).mono ?_);(case side1 => first|exact HO422.out|exact qVm HO422);(case side2 => exact qCV HO425);(case side3 => exact qL HO425);rintro e w34 ⟨v427,v430,rfl,ho0,ho1,hb⟩;refine ⟨_,rfl,?_⟩;replace HO422:=qVb HO422 hb;replace HO425:=qVb HO425 hb;have HO428:=Aside0.mk (Kd.V_lower (Kd.V_mono (ok':=fun k_ => True) ho0 (fun k_ hk_ => trivial)) (below_size (qS HB)));have HO431:=Aside0.mk (Kd.V_lower (Kd.V_mono (ok':=fun k_ => True) ho1 (fun k_ hk_ => trivial)) (below_size (qS HB)));replace HB:=qs HB hb;clear hb ho0 ho1)|((with_reducible refine gate_dst (N:=1) rfl ?_);refine qX #[.slice none 0 0] 38 ?_;intro gb433 hg w35 hbox hb;replace HO422:=qVe HO422 hb hg;replace HO425:=qVe HO425 hb hg;replace HO428:=qVe HO428 hb hg;replace HO431:=qVe HO431 hb hg;have BK433:=Aside0.mk hbox;have GE433:=qh hg HB;replace HB:=qs HB hb;clear hb hbox hg)|((with_reducible refine gate_dst (N:=2) rfl ?_);refine qX #[.slice none 0 0] 38 ?_;intro gb434 hg w36 hbox hb;replace HO422:=qVe HO422 hb hg;replace HO425:=qVe HO425 hb hg;replace HO428:=qVe HO428 hb hg;replace HO431:=qVe HO431 hb hg;have BK434:=Aside0.mk hbox;have GE434:=qh hg HB;replace HB:=qs HB hb;have NB433_434:=ql hg BK433;have NB434_433:=qg hg BK433;replace BK433:=qb BK433 hb;clear hb hbox hg;obtain ⟨Ao37,co37,eo37⟩:=Kd.V_slice HO428.out;subst eo37;have hnb38:=NB433_434.out;have hnc38:=NB434_433.out;have hcz39_0:=bc BK433;have hfz39_0:=bz BK433;obtain ⟨Ao40,co40,eo40⟩:=Kd.V_slice HO431.out;subst eo40;have hcz41_0:=bc BK434;have hfz41_0:=bz BK434))
   generalize hw : ((w36.setCell ⟨gb433,0,none⟩ (.slice Ao37 t426.length co37)).setCell ⟨gb434,0,none⟩ (.slice Ao40 t429.length co40)) = w42
   replace hw:=hw.symm
   replace HO422:=qVh hw HO422
   replace HO425:=qVh hw HO425
   replace HO428:=qVh hw HO428
   replace HO431:=qVh hw HO431
   replace BK433:=qBp hw BK433
   replace BK434:=qBp hw BK434
   replace HB:=qSh hw HB
   clear hw
   replace HO422:=qVw HO422
   replace HO425:=qVw HO425
   replace HO428:=qVw HO428
   replace HO431:=qVw HO431
   replace BK433:=qbd BK433
   replace BK434:=qbd BK434
   replace HB:=qsd HB
   refine start_ (n:=13) (S:=fun w' => w'.cell? ⟨gb433,0,none⟩ = some (.slice Ao37 t426.length co37)) (ds:=[]) #[false,false,false,false,false,false,false,false,false,false,false,false,false] (by kernel_rfl) rfl rfl (bc BK433) (fun hHeld => ?_);refine with_tabW sacristylaw01_lives.tab2 sacristylaw01_lives.bits2 (fun HT_ HW_ => ?_)
   generalize w42.drew = w43 at HO422 HO425 HO428 HO431 BK433 BK434 HB hHeld ⊢
   refine qP 0 11 HT_ ?_
   refine qP 1 12 HT_ ?_
   refine qP 2 13 HT_ ?_
   refine qT 3 14 HT_ HW_ hHeld ?_
   refine q1 4 (some 15) HT_ rfl (fun K hK => ?_)
   refine g_ Try.func56 #[.int .u64 3] ?_
   with_reducible refine (sacristyref01_Small.calls k 3 t435 _ A5.out).mono ?_
   rintro e w44 ⟨v436,rfl,ho0,hb⟩
   refine ⟨_,rfl,?_⟩
   replace HO422:=qVd HO422 ho0 hb
   replace HO425:=qVd HO425 ho0 hb
   replace HO428:=qVd HO428 ho0 hb
   replace HO431:=qVd HO431 ho0 hb
   have HO437:=Aside0.mk (Kd.R_lower ho0 (below_size (qS HB)))
   replace BK433:=qb BK433 hb
   replace BK434:=qb BK434 hb
   replace HB:=qs HB hb
   clear hb ho0
   obtain ⟨Ao45,co45,eo45⟩:=Kd.R_slice HO437.out
   (first|subst eo45|(injection eo45 with f1_ f2_ f3_;have f4_:=f1_.symm;have f5_:=f3_.symm;clear f1_ f2_ f3_;subst f4_;subst f5_))
   refine hK.out _ _ (bc BK433) (fun hHeld => ?_)
   clear hK K
   refine qO 15 ?_
   refine q1 5 (some 16) HT_ rfl (fun K hK => ?_)
   refine g_ Try.func37 #[.agg #[.slice Ao37 t426.length co37],.slice Ao45 t435.length co45] ?_
   with_reducible refine (sacristylaw01_Same.calls k _ _ t426 _ _ t435 false _ ?side1 ?side2 ?side3 ?side4 A6.out).mono ?_
   (case side1 => exact qCV HO428)
   (case side2 => exact qL HO428)
   (case side3 => exact qCR HO437)
   (case side4 => exact qLR HO437)
   rintro e w46 ⟨rfl,hb⟩
   refine ⟨_,rfl,?_⟩
   replace HO422:=qVb HO422 hb
   replace HO425:=qVb HO425 hb
   replace HO428:=qVb HO428 hb
   replace HO431:=qVb HO431 hb
   replace HO437:=qRb HO437 hb
   replace BK433:=qb BK433 hb
   replace BK434:=qb BK434 hb
   replace HB:=qs HB hb
   clear hb
   refine hK.out _ _ (bc BK433) (fun hHeld => ?_)
   clear hK K
   refine qO 16 ?_
   refine qP 6 17 HT_ ?_
   refine qP 7 18 HT_ ?_
   refine qU 8 19 HT_ ?_
   refine qU 9 20 HT_ ?_
   refine qU 10 21 HT_ ?_
   refine qP 11 22 HT_ ?_
   refine qP 12 0 HT_ ?_
   refine qD HT_ ?_
   try go_wp2
   (first|go_ret|(refine ⟨_,results_tmp rfl _ _ _,?_⟩))
   exact ⟨by first|rfl|(simp [errW_none,errW_some] <;> rfl)|(simp [*,errW_none,errW_some] <;> rfl),qS HB⟩
 ·rw [if_neg c4] at H
  have c4b0 : (t432 == 0) = false:=beq_eq_false_iff_ne.mpr c4
  have c4b1 : (t432 != 0) = true:=bne_iff_ne.mpr c4
  obtain rfl:=Option.some.inj H
  go_enter Try.func34,Try.ntmps34
  try go_wp2_with (first|((with_reducible refine gate_callee (f:=54) rfl ?_);refine gL (some 5) Try.func54 #[.int .u64 7] ?_;(with_reducible refine (nat_New.calls k 7 t420 _ A1.out).mono ?_);rintro e w47 ⟨v421,rfl,ho0,hb⟩;refine ⟨_,rfl,?_⟩;have HO422:=Aside0.mk (Kd.V_lower (Kd.V_mono (ok':=fun k_ => True) ho0 (fun k_ hk_ => trivial)) (below_size (qS HB)));replace HB:=qs HB hb;clear hb ho0)|((with_reducible refine gate_callee (f:=54) rfl ?_);refine gL (some 6) Try.func54 #[.int .u64 2] ?_;(with_reducible refine (nat_New.calls k 2 t423 _ A2.out).mono ?_);rintro e w48 ⟨v424,rfl,ho0,hb⟩;refine ⟨_,rfl,?_⟩;replace HO422:=qVb HO422 hb;have HO425:=Aside0.mk (Kd.V_lower (Kd.V_mono (ok':=fun k_ => True) ho0 (fun k_ hk_ => trivial)) (below_size (qS HB)));replace HB:=qs HB hb;clear hb ho0;obtain ⟨Ao49,co49,eo49⟩:=Kd.V_slice HO422.out;subst eo49;obtain ⟨Ao50,co50,eo50⟩:=Kd.V_slice HO425.out;subst eo50)|((with_reducible refine gate_callee (f:=53) rfl ?_);refine gL (some 7) Try.func53 #[.agg #[.slice Ao49 t420.length co49],.agg #[.slice Ao50 t423.length co50]] ?_;(with_reducible refine (nat_Nat_Div.calls k (fun k_ => True) _ _ t420 _ _ t423 t426 t429 t432 _ ?side1 ?side2 ?side3 A3.out).mono ?_);(case side1 => first|exact HO422.out|exact qVm HO422);(case side2 => exact qCV HO425);(case side3 => exact qL HO425);rintro e w51 ⟨v427,v430,rfl,ho0,ho1,hb⟩;refine ⟨_,rfl,?_⟩;replace HO422:=qVb HO422 hb;replace HO425:=qVb HO425 hb;have HO428:=Aside0.mk (Kd.V_lower (Kd.V_mono (ok':=fun k_ => True) ho0 (fun k_ hk_ => trivial)) (below_size (qS HB)));have HO431:=Aside0.mk (Kd.V_lower (Kd.V_mono (ok':=fun k_ => True) ho1 (fun k_ hk_ => trivial)) (below_size (qS HB)));replace HB:=qs HB hb;clear hb ho0 ho1)|((with_reducible refine gate_dst (N:=1) rfl ?_);refine qX #[.slice none 0 0] 38 ?_;intro gb433 hg w52 hbox hb;replace HO422:=qVe HO422 hb hg;replace HO425:=qVe HO425 hb hg;replace HO428:=qVe HO428 hb hg;replace HO431:=qVe HO431 hb hg;have BK433:=Aside0.mk hbox;have GE433:=qh hg HB;replace HB:=qs HB hb;clear hb hbox hg)|((with_reducible refine gate_dst (N:=2) rfl ?_);refine qX #[.slice none 0 0] 38 ?_;intro gb434 hg w53 hbox hb;replace HO422:=qVe HO422 hb hg;replace HO425:=qVe HO425 hb hg;replace HO428:=qVe HO428 hb hg;replace HO431:=qVe HO431 hb hg;have BK434:=Aside0.mk hbox;have GE434:=qh hg HB;replace HB:=qs HB hb;have NB433_434:=ql hg BK433;have NB434_433:=qg hg BK433;replace BK433:=qb BK433 hb;clear hb hbox hg;obtain ⟨Ao54,co54,eo54⟩:=Kd.V_slice HO428.out;subst eo54;have hnb55:=NB433_434.out;have hnc55:=NB434_433.out;have hcz56_0:=bc BK433;have hfz56_0:=bz BK433;obtain ⟨Ao57,co57,eo57⟩:=Kd.V_slice HO431.out;subst eo57;have hcz58_0:=bc BK434;have hfz58_0:=bz BK434))
  generalize hw : ((w53.setCell ⟨gb433,0,none⟩ (.slice Ao54 t426.length co54)).setCell ⟨gb434,0,none⟩ (.slice Ao57 t429.length co57)) = w59
  replace hw:=hw.symm
  replace HO422:=qVh hw HO422
  replace HO425:=qVh hw HO425
  replace HO428:=qVh hw HO428
  replace HO431:=qVh hw HO431
  replace BK433:=qBp hw BK433
  replace BK434:=qBp hw BK434
  replace HB:=qSh hw HB
  clear hw
  replace HO422:=qVw HO422
  replace HO425:=qVw HO425
  replace HO428:=qVw HO428
  replace HO431:=qVw HO431
  replace BK433:=qbd BK433
  replace BK434:=qbd BK434
  replace HB:=qsd HB
  refine start_ (n:=13) (S:=fun w' => True) (ds:=[]) #[false,false,false,false,false,false,false,false,false,false,false,false,false] (by kernel_rfl) rfl rfl trivial (fun hHeld => ?_);refine with_tabW sacristylaw01_lives.tab2 sacristylaw01_lives.bits2 (fun HT_ HW_ => ?_)
  generalize w59.drew = w60 at HO422 HO425 HO428 HO431 BK433 BK434 HB hHeld ⊢
  refine qP 0 11 HT_ ?_
  refine qP 1 12 HT_ ?_
  refine qP 2 13 HT_ ?_
  refine qU 3 14 HT_ ?_
  refine qU 4 15 HT_ ?_
  refine qU 5 16 HT_ ?_
  refine qP 6 17 HT_ ?_
  refine qP 7 18 HT_ ?_
  refine qU 8 19 HT_ ?_
  refine qU 9 20 HT_ ?_
  refine qU 10 21 HT_ ?_
  refine qP 11 22 HT_ ?_
  refine qP 12 0 HT_ ?_
  refine qD HT_ ?_
  try go_wp2
  (first|go_ret|(refine ⟨_,results_tmp rfl _ _ _,?_⟩))
  exact ⟨by first|rfl|(simp [errW_none,errW_some] <;> rfl)|(simp [*,errW_none,errW_some] <;> rfl),qS HB⟩
end Go.Proofs.Yteejcpbngnojkaa.P
end
section
namespace Go.Proofs.Yteejcpbngnojkaa.P
open Go.RowKit Go.Proofs.YteejcpbngnojkaaW.PrintWords Go.Proofs.YteejcpbngnojkaaW.PrintLast Go.Proofs.YteejcpbngnojkaaW.PrintMore
attribute [local go_sem] max2_int min2_int max_two min_two max_three min_three max_four min_four
set_option linter.unusedVariables false
set_option linter.unusedSimpArgs false
def nat_FromBytes.l0 : Nat → List Int → List Int → Int → Int → Option (List Int × Int)
 |0,_,_,_,_ => none
 |k + 1,x0,x4,x17,x18 => if x18 < x17 then (if 0 ≤ (wrap64 ((wrap64 ((x0.length : Int) - 1)) - x18)) then (if (wrap64 ((wrap64 ((x0.length : Int) - 1)) - x18)) < (x0.length : Int) then (if 0 ≤ (wrap64 (Int.tdiv x18 4)) then (if (wrap64 (Int.tdiv x18 4)) < (x4.length : Int) then (if 0 ≤ (wrap64 (8 * (Int.tmod x18 4))) then (nat_FromBytes.l0 k x0 (x4.set ((wrap64 (Int.tdiv x18 4)) : Int).toNat (Go.bits .or .u32 (rd x4 (wrap64 (Int.tdiv x18 4))) (shl .u32 ((rd x0 (wrap64 ((wrap64 ((x0.length : Int) - 1)) - x18))) % 4294967296) (wrap64 (8 * (Int.tmod x18 4)))))) x17 (wrap64 (x18 + 1))) else (none)) else (none)) else (none)) else (none)) else (none)) else ((nat_trim.f k x4).bind fun t450 => (some (t450,0)))
def nat_FromBytes.f (k : Nat) (l0 : List Int) : Option (List Int × Int):=if (l0.length : Int) > 128 then (some (([] : List Int),4)) else (if 0 ≤ (wrap64 (Int.tdiv (wrap64 ((l0.length : Int) + 3)) 4)) then (if (wrap64 (Int.tdiv (wrap64 ((l0.length : Int) + 3)) 4) : Int).toNat ≤ 70368744177664 then (nat_FromBytes.l0 k l0 (List.replicate (wrap64 (Int.tdiv (wrap64 ((l0.length : Int) + 3)) 4) : Int).toNat 0) (l0.length : Int) 0) else (none)) else (none))
theorem nat_FromBytes.mono_l : ∀ k,(∀ y0 y1 y2 y3,LeO (nat_FromBytes.l0 k y0 y1 y2 y3) (nat_FromBytes.l0 (k + 1) y0 y1 y2 y3))
 |0 => fun _ _ _ _ r h => by simp [nat_FromBytes.l0] at h
 |k + 1 => by
  have ih0:=nat_FromBytes.mono_l k
  ·intro y0 y1 y2 y3
   unfold nat_FromBytes.l0
   repeat' first
   |(with_reducible exact ih0 _ _ _ _)
   |(with_reducible exact nat_trim.mono _ _)
   |(with_reducible exact LeO.refl _)
   |(with_reducible exact LeO.none _)
   |(with_reducible refine LeO.ite ?_ ?_)
   |(with_reducible refine LeO.bind ?_ (fun _ => ?_))
   |exact ih0 _ _ _ _
   |exact nat_trim.mono _ _
   |exact LeO.none _
   |refine LeO.ite ?_ ?_
   |refine LeO.bind ?_ (fun _ => ?_)
theorem nat_FromBytes.mono : ∀ a0 k,LeO (nat_FromBytes.f k a0) (nat_FromBytes.f (k + 1) a0):=by
 intro a0 k
 have ih0:=nat_FromBytes.mono_l k
 unfold nat_FromBytes.f
 repeat' first
   |(with_reducible exact ih0 _ _ _ _)
   |(with_reducible exact nat_trim.mono _ _)
   |(with_reducible exact LeO.refl _)
   |(with_reducible exact LeO.none _)
   |(with_reducible refine LeO.ite ?_ ?_)
   |(with_reducible refine LeO.bind ?_ (fun _ => ?_))
   |exact ih0 _ _ _ _
   |exact nat_trim.mono _ _
   |exact LeO.none _
   |refine LeO.ite ?_ ?_
   |refine LeO.bind ?_ (fun _ => ?_)
def nat_FromBytes.T8 : Bool × List (List Nat × List Nat):=(true,[([],[]),([],[]),([1],[1]),([0,2],[0,2]),([3],[3]),([],[]),([5],[5]),([],[]),([7],[7]),([8],[8]),([6,9],[6,9]),([4,10],[4,10]),([0,2,0,1,2,3,4,5,6,7,8,9,10,11],[0,2]),([12,11,0,1,2,3,4,5,6,7,8,9,10,11],[11,12])])
def nat_FromBytes.B8 : List Nat:=[0,0,2,7,15,0,32,0,128,384,992,2047,4095,8191]
theorem nat_FromBytes.tab8 : rtab .any (opsOf Try.f35 8) = nat_FromBytes.T8:=by kernel_rfl
theorem nat_FromBytes.bits8 : waitsOk nat_FromBytes.T8.2 nat_FromBytes.B8 = true:=by kernel_rfl
set_option maxHeartbeats 8000000 in
set_option maxRecDepth 100000 in
theorem nat_FromBytes.calls (k : Nat) (A0 : Option Addr) (c0 : Nat) (l0 : List Int) (r1 : List Int) (r2 : Int) (w : World) (hr0 : Kd.C (Kd.int .u8) w A0 l0.length l0) (hc0 : l0.length ≤ c0) (h : nat_FromBytes.f k l0 = some (r1,r2)) :
  Calls Try.prog 35 #[.slice A0 l0.length c0] w fun e w' => ∃ v0_ : Value,e = .returned (.tuple #[.agg #[v0_],.int .i64 r2]) ∧ Kd.V (Kd.int .u32) 23 w' w.heap.size (fun k_ => (w.heap.size ≤ k_)) v0_ r1 ∧ Below w.heap.size w w':=by
 have hu38:=Try.underlying38
 have HR0:=Aside0.mk hr0
 have HC0:=Aside0.mk hc0
 clear hr0 hc0
 have HB:=Aside0.mk (Below.refl w.heap.size w)
 have H : (if (l0.length : Int) > 128 then (some (([] : List Int),4)) else (if 0 ≤ (wrap64 (Int.tdiv (wrap64 ((l0.length : Int) + 3)) 4)) then (if (wrap64 (Int.tdiv (wrap64 ((l0.length : Int) + 3)) 4) : Int).toNat ≤ 70368744177664 then (nat_FromBytes.l0 k l0 (List.replicate (wrap64 (Int.tdiv (wrap64 ((l0.length : Int) + 3)) 4) : Int).toNat 0) (l0.length : Int) 0) else (none)) else (none))) = some (r1,r2):=h
 clear h
 by_cases c2 : (l0.length : Int) > 128
 ·rw [if_pos c2] at H
  have c2b0 : decide (128 < (l0.length : Int)) = true:=decide_eq_true c2
  have c2b1 : decide (128 < l0.length) = true:=decide_eq_true (by omega)
  clear c2
  simp only [Option.some.injEq,Prod.mk.injEq] at H
  obtain ⟨rfl,rfl⟩:=H
  go_enter Try.func35,Try.ntmps35
  go_wp2_with (first|((with_reducible refine gate_dst (N:=2) rfl ?_);refine qX #[.slice none 0 0] 38 ?_;intro gb443 hg w3 hbox hb;have BK443:=Aside0.mk hbox;have GE443:=qh hg HB;replace HB:=qs HB hb;clear hb hbox hg;have hcz4_0:=bc BK443;have hfz4_0:=bz BK443))
  refine bodyPost_ret (results_ct rfl _ _ gb443 38 #[.slice none 0 0] (0,0) _ rfl (by (with_reducible repeat (first|refine blk_drewN ?_ _|refine blk_drew ?_|refine blk_alloc ?_ _));refine blk_put (cs:=#[.slice none 0 0]) ?_ 0 _ rfl;(with_reducible repeat (first|refine blk_drewN ?_ _|refine blk_drew ?_|refine blk_alloc ?_ _));exact BK443.out) Try.underlying38 rfl (by kernel_rfl)) rfl ?_
  exact ⟨_,by first|rfl|(simp [errW_none,errW_some] <;> rfl)|(simp [*,errW_none,errW_some] <;> rfl),Kd.V_nil _ _ _ _ _,qS HB⟩
 ·rw [if_neg c2] at H
  have c2b0 : decide (128 < (l0.length : Int)) = false:=decide_eq_false c2
  have c2b1 : decide (128 < l0.length) = false:=decide_eq_false (by omega)
  clear c2
  obtain ⟨ji5,hji5⟩ : ∃ j_ : Int,(wrap64 (Int.tdiv (wrap64 ((l0.length : Int) + 3)) 4)) = j_:=⟨_,rfl⟩
  (first|rw [hji5] at H|simp only [hji5] at H)
  have hji5w : (IntKind.i64.wrap (Int.tdiv (wrap64 ((l0.length : Int) + 3)) 4)) = ji5:=(i64_w _).trans hji5
  by_cases c6 : 0 ≤ (ji5)
  ·rw [if_pos c6] at H
   have c6b0:=eq_true c6
   have c6b1 : decide (0 ≤ (ji5)) = true:=decide_eq_true c6
   clear c6
   by_cases c7 : (ji5 : Int).toNat ≤ 70368744177664
   ·rw [if_pos c7] at H
    have c7b0:=eq_true c7
    have c7b1 : decide ((ji5 : Int).toNat ≤ 70368744177664) = true:=decide_eq_true c7
    clear c7
    obtain ⟨y444,hy444⟩ : ∃ y_ : List Int,y_ = (List.replicate (ji5 : Int).toNat 0):=⟨_,rfl⟩
    replace H : (nat_FromBytes.l0 k l0 y444 (l0.length : Int) 0) = some (r1,r2):=by first|(rw [hy444];with_reducible exact H)|(have H2_:=(Option.bind_some _ _).symm.trans H;rw [hy444];with_reducible exact H2_)|(have H2_:=(Option.bind_some _ _).symm.trans H;with_reducible exact H2_)|with_reducible exact H|(rw [hy444];exact H)|exact H
    have Ny444:=Aside0.mk hy444
    clear hy444
    have H':=Aside0.mk H
    clear H
    go_enter Try.func35,Try.ntmps35
    go_wp2_with (first|((with_reducible refine gate_dst (N:=2) rfl ?_);refine qX #[.slice none 0 0] 38 ?_;intro gb443 hg w8 hbox hb;have BK443:=Aside0.mk hbox;have GE443:=qh hg HB;replace HB:=qs HB hb;clear hb hbox hg)|((with_reducible refine gate_dst (N:=15) rfl ?_);refine Kd.R_make (Kd.int .u32) _ 23 rfl (N:=15) rfl 36 _ _ rfl ji5 rfl rfl Try.underlying36 (.int .u32 0) 4 info23 rfl (by decide) (by omega) 0 (ok:=fun _ => True) (okp:=fun _ => True) rfl (fun _ hk => hk) trivial (od) (Nat.le_trans (Nat.mul_le_mul_right _ (od : ji5.toNat ≤ 70368744177664)) (by omega)) (Below.refl _ _) (Nat.le_refl _) ?_;intro v445 w9 ho10 hb hg_ hnew_;clear hg_ hnew_;(first|rw [← Ny444.out] at ho10|(simp only [Int.reduceToNat] at ho10;rw [← Ny444.out] at ho10));have HO446:=Aside0.mk (Kd.R_lower (Kd.R_newM (M:=fun k_ => (w.heap.size ≤ k_)) ho10 (below_size (qS HB)) (fun k_ h_ => h_)) (below_size (qS HB)));replace BK443:=qb BK443 hb;replace HB:=qs HB hb;clear hb ho10))
    go_loopg [18] k (fun kq v18 w' => ∃ (x4_1 : List Int) (x18_1 : Int),v18 = .int .i64 x18_1 ∧ Aside0 (nat_FromBytes.l0 kq l0 x4_1 (l0.length : Int) x18_1 = some (r1,r2)) ∧ Aside0 (kq ≤ k) ∧ Aside0 (Kd.R (Kd.int .u32) 23 w' w.heap.size (fun k_ => (w.heap.size ≤ k_)) v445 x4_1) ∧ Aside0 (w'.heap[gb443]? = some (.cells #[(.slice none 0 0)] 38 (0,0))) ∧ Aside0 (Below w.heap.size w w'))
    case atStart => exact ⟨(y444),(0),(by first|rfl|(simp;done)|(simp [*];done)),H',⟨Nat.le_refl _⟩,⟨qRm HO446⟩,⟨qB BK443.out⟩,⟨qS HB⟩⟩
    case round =>
     clear H'
     try clear c2
     try clear c2b0
     try clear c2b1
     try clear p2
     try clear c3
     try clear c6
     try clear c6b0
     try clear c6b1
     try clear p6
     try clear c7
     try clear c7b0
     try clear c7b1
     try clear hcz4_0
     try clear hfz4_0
     obtain ⟨x4_1,x18_1,rfl,HA,HK1,HO_4,BK443,HB⟩:=hrel
     cases gk with
     |zero => exact absurd HA.out (by simp [nat_FromBytes.l0])
     |succ k1 =>
      have H:=HA.out
      clear HA
      simp only [nat_FromBytes.l0] at H
      by_cases c11 : x18_1 < (l0.length : Int)
      ·rw [if_pos c11] at H
       have c11b0 : decide (x18_1 < (l0.length : Int)) = true:=decide_eq_true c11
       clear c11
       obtain ⟨ji12,hji12⟩ : ∃ j_ : Int,(wrap64 ((wrap64 ((l0.length : Int) - 1)) - x18_1)) = j_:=⟨_,rfl⟩
       (first|rw [hji12] at H|simp only [hji12] at H)
       have hji12w : (IntKind.i64.wrap ((wrap64 ((l0.length : Int) - 1)) - x18_1)) = ji12:=(i64_w _).trans hji12
       by_cases c13 : 0 ≤ (ji12)
       ·rw [if_pos c13] at H
        have c13b0 : decide (0 ≤ (ji12)) = true:=decide_eq_true c13
        clear c13
        by_cases c14 : (ji12) < (l0.length : Int)
        ·rw [if_pos c14] at H
         have c14b0 : decide ((ji12) < (l0.length : Int)) = true:=decide_eq_true c14
         clear c14
         obtain ⟨ji15,hji15⟩ : ∃ j_ : Int,(wrap64 (Int.tdiv x18_1 4)) = j_:=⟨_,rfl⟩
         (first|rw [hji15] at H|simp only [hji15] at H)
         have hji15w : (IntKind.i64.wrap (Int.tdiv x18_1 4)) = ji15:=(i64_w _).trans hji15
         by_cases c16 : 0 ≤ (ji15)
         ·rw [if_pos c16] at H
          have c16b0 : decide (0 ≤ (ji15)) = true:=decide_eq_true c16
          clear c16
          by_cases c17 : (ji15) < (x4_1.length : Int)
          ·rw [if_pos c17] at H
           have c17b0 : decide ((ji15) < (x4_1.length : Int)) = true:=decide_eq_true c17
           clear c17
           obtain ⟨ji18,hji18⟩ : ∃ j_ : Int,(wrap64 (8 * (Int.tmod x18_1 4))) = j_:=⟨_,rfl⟩
           (first|rw [hji18] at H|simp only [hji18] at H)
           have hji18w : (IntKind.i64.wrap (8 * (Int.tmod x18_1 4))) = ji18:=(i64_w _).trans hji18
           by_cases c19 : 0 ≤ (ji18)
           ·rw [if_pos c19] at H
            have c19b0:=eq_true c19
            have c19b1 : decide (0 ≤ (ji18)) = true:=decide_eq_true c19
            clear c19
            obtain ⟨ji20,hji20⟩ : ∃ j_ : Int,(shl .u32 ((rd l0 (ji12)) % 4294967296) (ji18)) = j_:=⟨_,rfl⟩
            (first|rw [hji20] at H|simp only [hji20] at H)
            have hji20_ : (IntKind.u32.wrap (((rd l0 (ji12)) % 4294967296) * 2 ^ min (ji18).toNat 32)) = ji20:=hji20
            have hji20m : ((rd l0 (ji12)) % 4294967296) * 2 ^ min (ji18).toNat 32 % 4294967296 = ji20:=hji20_
            have hji20z : (ji18) ≤ 32 → (IntKind.u32.wrap (((rd l0 (ji12)) % 4294967296) * 2 ^ (ji18).toNat)) = ji20:=shl_small hji20
            obtain ⟨y449,hy449⟩ : ∃ y_ : List Int,y_ = (x4_1.set ((ji15) : Int).toNat (Go.bits .or .u32 (rd x4_1 (ji15)) (ji20))):=⟨_,rfl⟩
            replace H : (nat_FromBytes.l0 k1 l0 y449 (l0.length : Int) (wrap64 (x18_1 + 1))) = some (r1,r2):=by first|(rw [hy449];with_reducible exact H)|(have H2_:=(Option.bind_some _ _).symm.trans H;rw [hy449];with_reducible exact H2_)|(have H2_:=(Option.bind_some _ _).symm.trans H;with_reducible exact H2_)|with_reducible exact H|(rw [hy449];exact H)|exact H
            have Ny449:=Aside0.mk hy449
            clear hy449
            have H':=Aside0.mk H
            clear H
            have p447 : 0 ≤ ((ji12) : Int):=od
            have q447 : (ji12) < (l0.length : Int):=od
            obtain ⟨ad447,e447,hx447_0⟩:=Kd.at_int HR0.out (ji12) p447 q447
            cases e447
            replace hx447_0:=(HB.out.cell (World.block_lt_of_cell? w _ hx447_0)).trans hx447_0
            replace p447:=eq_true p447
            replace q447:=eq_true q447
            try go_wp2
            replace HO_4:=qRw HO_4
            replace BK443:=qbd BK443
            replace HB:=qsd HB
            obtain ⟨Ao23,co23,eo23⟩:=Kd.R_slice HO_4.out
            (first|subst eo23|(injection eo23 with f1_ f2_ f3_;have f4_:=f1_.symm;have f5_:=f3_.symm;clear f1_ f2_ f3_;subst f4_;subst f5_))
            have p448 : 0 ≤ ((ji15) : Int):=od
            have q448 : (ji15) < (x4_1.length : Int):=od
            obtain ⟨ad448,e448,hx448_0⟩:=Kd.at_int (Kd.R_reads' HO_4.out).2.2 (ji15) p448 q448
            cases e448
            replace p448:=eq_true p448
            replace q448:=eq_true q448
            have p21 : 0 ≤ ((ji15) : Int):=od
            have q21 : ((ji15) : Int) < ((x4_1.length : Int) : Int):=od
            obtain ⟨go21,co21,eo21,gb21,gl21,cl21,HG21⟩:=Kd.R_form HO_4.out (by omega)
            (first|cases eo21|(injection eo21 with ea_ en_ ec_;(first|subst ea_|(injection ea_ with ea_;subst ea_));subst ec_;clear en_))
            have GB21:=Aside0.mk gb21
            have GG21:=Aside0.mk HG21
            clear gb21 gl21 HG21
            (first|simp only [add_plain] at hx448_0|skip)
            obtain ⟨hx21_0,hf21_0⟩:=Kd.R_celln 0 HO_4.out ((ji15) : Int) p21 q21
            replace p21:=eq_true p21
            replace q21:=eq_true q21
            have HP24:=Kd.R_putn HO_4.out ((ji15) : Int) (Go.bits .or .u32 (rd x4_1 (ji15)) (ji20))
            rw [← Ny449.out] at HP24
            have HQ24:=Aside0.mk HP24
            clear HP24
            refine start_ (n:=14) (S:=fun w' => w'.cell? ⟨go21,((ji15)).toNat,none⟩ = some (.int .u32 (rd x4_1 (ji15)))) (ds:=[13]) #[false,false,false,false,false,false,false,false,false,false,false,false,false,false] (by kernel_rfl) rfl rfl (hx448_0) (fun hHeld => ?_);refine with_tabW nat_FromBytes.tab8 nat_FromBytes.bits8 (fun HT_ HW_ => ?_)
            generalize wr.drew = w22 at HO_4 BK443 HB GG21 HQ24 hf21_0 hx21_0 hx448_0 hHeld ⊢
            refine qP 0 29 HT_ ?_
            refine qP 1 30 HT_ ?_
            refine qP 2 31 HT_ ?_
            refine qP 3 32 HT_ ?_
            refine qP 5 34 HT_ ?_
            refine qP 6 35 HT_ ?_
            refine qP 7 36 HT_ ?_
            refine qP 8 37 HT_ ?_
            refine qP 9 38 HT_ ?_
            refine qP 10 39 HT_ ?_
            refine qT 4 33 HT_ HW_ hHeld ?_
            refine qP 11 40 HT_ ?_
            refine qP 12 41 HT_ ?_
            refine last_ (i:=13) (N:=none) #[true,true,true,true,true,true,true,true,true,true,true,true,true,true] rfl rfl (one_of HT_.out (by kernel_rfl)) (by decide) (fun K hK => ?_)
            refine skip_ (w1:=?_) (by rfl) rfl ?_ ?_
            rotate_left
            ·go_simp
             rfl
            refine hK.out _ _ ?_
            clear hK K
            refine qD HT_ ?_
            try go_wp2
            go_roundg k1
            case measure => have:=HK1.out;omega
            case rel => exact ⟨(y449),(wrap64 (x18_1 + 1)),(by first|rfl|(simp;done)|(simp [*];done)),H',⟨by have:=HK1.out;omega⟩,⟨by (with_reducible repeat (first|apply Kd.R_alloc|apply Kd.R_drewN|apply Kd.R_drew));(first|exact HQ24.out|(rw [hji20m];exact HQ24.out))⟩,⟨by (with_reducible repeat (first|refine blk_drewN ?_ _|refine blk_drew ?_|refine blk_alloc ?_ _));refine blk_far ?_ (by have h_:=Kd.R_ne HO_4.out BK443.out (by decide);intro e_;exact h_ (by rw [e_];rfl)) _;(with_reducible repeat (first|refine blk_drewN ?_ _|refine blk_drew ?_|refine blk_alloc ?_ _));exact BK443.out⟩,⟨qS HB⟩⟩
           ·rw [if_neg c19] at H
            exact absurd H (by simp)
          ·rw [if_neg c17] at H
           exact absurd H (by simp)
         ·rw [if_neg c16] at H
          exact absurd H (by simp)
        ·rw [if_neg c14] at H
         exact absurd H (by simp)
       ·rw [if_neg c13] at H
        exact absurd H (by simp)
      ·rw [if_neg c11] at H
       have c11b0 : decide (x18_1 < (l0.length : Int)) = false:=decide_eq_false c11
       clear c11
       obtain ⟨t450,A25,H⟩:=qH H
       simp only [Option.some.injEq,Prod.mk.injEq] at H
       obtain ⟨rfl,rfl⟩:=H
       obtain ⟨Ao26,co26,eo26⟩:=Kd.R_slice HO_4.out
       subst eo26
       go_wp2_with (first|((with_reducible refine gate_callee (f:=100) rfl ?_);refine gL (some 44) Try.func100 #[.slice Ao26 x4_1.length co26] ?_;(with_reducible refine (nat_trim.calls k1 (fun k_ => some k_ = (.slice Ao26 x4_1.length co26 : Value).ownBlock) _ _ x4_1 t450 _ ?side1 A25.out).mono ?_);(case side1 => exact Kd.R_V (Kd.R_tight rfl (Kd.R_types (HO_4.out) BK443.out (by decide))));rintro e w27 ⟨v451,rfl,ho0,hb⟩;refine ⟨_,rfl,?_⟩;have HO452:=Aside0.mk (Kd.V_lower (Kd.V_mono (ok':=fun k_ => (w.heap.size ≤ k_) ∧ k_ ≠ gb443) ho0 (fun k_ hk_ => ⟨Or.elim hk_ (fun hs_ => ((Kd.R_types (HO_4.out) BK443.out (by decide)).1 k_ hs_.symm).1) (fun hn_ => (Nat.le_trans (below_size (qS HB)) hn_)),Or.elim hk_ (fun hs_ => ((Kd.R_types (HO_4.out) BK443.out (by decide)).1 k_ hs_.symm).2) (fun hn_ => (Kd.freshB (qB BK443.out) k_ hn_))⟩)) (below_size (qS HB)));replace HO_4:=qRb HO_4 hb;replace BK443:=qb BK443 hb;replace HB:=qs HB hb;clear hb ho0;obtain ⟨Ao28,co28,eo28⟩:=Kd.V_slice HO452.out;subst eo28;have hcz29_0:=bc BK443;have hfz29_0:=bz BK443))
       refine bodyPost_ret (results_ct rfl _ _ gb443 38 #[.slice Ao28 t450.length co28] (0,0) _ rfl (by (with_reducible repeat (first|refine blk_drewN ?_ _|refine blk_drew ?_|refine blk_alloc ?_ _));refine blk_put (cs:=#[.slice none 0 0]) ?_ 0 _ rfl;(with_reducible repeat (first|refine blk_drewN ?_ _|refine blk_drew ?_|refine blk_alloc ?_ _));exact BK443.out) Try.underlying38 rfl (by kernel_rfl)) rfl ?_
       exact ⟨_,by first|rfl|(simp [errW_none,errW_some] <;> rfl)|(simp only [← hji5];first|rfl|(simp [errW_none,errW_some] <;> rfl))|(simp [*,errW_none,errW_some] <;> rfl),qVm HO452,qS HB⟩
   ·rw [if_neg c7] at H
    exact absurd H (by simp)
  ·rw [if_neg c6] at H
   exact absurd H (by simp)
end Go.Proofs.Yteejcpbngnojkaa.P
end
section
namespace Go.Proofs.Yteejcpbngnojkaa.P
open Go.RowKit Go.Proofs.YteejcpbngnojkaaW.PrintWords Go.Proofs.YteejcpbngnojkaaW.PrintLast Go.Proofs.YteejcpbngnojkaaW.PrintMore
attribute [local go_sem] max2_int min2_int max_two min_two max_three min_three max_four min_four
set_option linter.unusedVariables false
set_option linter.unusedSimpArgs false
def sacristylaw01_Num.f (k : Nat) (l0 : List Int) : Option (List Int):=if 0 ≤ (mn (l0.length : Int) 48) then (if (mn (l0.length : Int) 48) ≤ (l0.length : Int) then ((nat_FromBytes.f k (l0.take ((mn (l0.length : Int) 48) : Int).toNat)).bind fun bt506 => (some bt506.1)) else (none)) else (none)
theorem sacristylaw01_Num.mono : ∀ a0 k,LeO (sacristylaw01_Num.f k a0) (sacristylaw01_Num.f (k + 1) a0):=by
 intro a0 k
 unfold sacristylaw01_Num.f
 repeat' first
   |(with_reducible exact nat_FromBytes.mono _ _)
   |(with_reducible exact LeO.refl _)
   |(with_reducible exact LeO.none _)
   |(with_reducible refine LeO.ite ?_ ?_)
   |(with_reducible refine LeO.bind ?_ (fun _ => ?_))
   |exact nat_FromBytes.mono _ _
   |exact LeO.none _
   |refine LeO.ite ?_ ?_
   |refine LeO.bind ?_ (fun _ => ?_)
set_option maxHeartbeats 8000000 in
set_option maxRecDepth 100000 in
theorem sacristylaw01_Num.calls (k : Nat) (A0 : Option Addr) (c0 : Nat) (l0 : List Int) (r : List Int) (w : World) (hr0 : Kd.C (Kd.int .u8) w A0 l0.length l0) (hc0 : l0.length ≤ c0) (h : sacristylaw01_Num.f k l0 = some r) :
  Calls Try.prog 40 #[.slice A0 l0.length c0] w fun e w' => ∃ v0_ : Value,e = .returned (.agg #[v0_]) ∧ Kd.V (Kd.int .u32) 23 w' w.heap.size (fun k_ => (w.heap.size ≤ k_)) v0_ r ∧ Below w.heap.size w w':=by
 have hu38:=Try.underlying38
 have HR0:=Aside0.mk hr0
 have HC0:=Aside0.mk hc0
 clear hr0 hc0
 have HB:=Aside0.mk (Below.refl w.heap.size w)
 have H : (if 0 ≤ (mn (l0.length : Int) 48) then (if (mn (l0.length : Int) 48) ≤ (l0.length : Int) then ((nat_FromBytes.f k (l0.take ((mn (l0.length : Int) 48) : Int).toNat)).bind fun bt506 => (some bt506.1)) else (none)) else (none)) = some r:=h
 clear h
 obtain ⟨ji2,hji2⟩ : ∃ j_ : Int,(mn (l0.length : Int) 48) = j_:=⟨_,rfl⟩
 (first|rw [hji2] at H|simp only [hji2] at H)
 (try (have hji2h : ji2 ≤ 48:=by (rw [← hji2];unfold mn;(repeat' split) <;> omega)))
 (try (have hji2g : ji2 ≤ 64:=by omega))
 (try (have hji2l : 0 ≤ ji2:=by (rw [← hji2];unfold mn;(repeat' split) <;> omega)))
 (try (have hji2m : 0 ≤ ji2:=by omega))
 have hji2_ : (if 48 < (l0.length : Int) then 48 else (l0.length : Int)) = ji2:=hji2
 by_cases c3 : 0 ≤ (ji2)
 ·rw [if_pos c3] at H
  have c3b0:=eq_true c3
  have c3b1 : decide (0 ≤ (ji2)) = true:=decide_eq_true c3
  clear c3
  by_cases c4 : (ji2) ≤ (l0.length : Int)
  ·rw [if_pos c4] at H
   have c4b0:=eq_true c4
   have c4b1 : decide ((ji2) ≤ (l0.length : Int)) = true:=decide_eq_true c4
   clear c4
   obtain ⟨⟨t506,t509⟩,A5,H⟩:=qH H
   dsimp only at H
   obtain rfl:=Option.some.inj H
   go_enter Try.func40,Try.ntmps40
   go_wp2_with (first|((with_reducible refine gate_dst (N:=2) rfl ?_);refine qX #[.slice none 0 0] 38 ?_;intro gb504 hg w6 hbox hb;have BK504:=Aside0.mk hbox;have GE504:=qh hg HB;replace HB:=qs HB hb;clear hb hbox hg;obtain ⟨i07,hi07,_,hsz7,_⟩:=info_parts info5;obtain ⟨hcut7,hA7,hC7⟩:=print_take_of (P:=Try.prog) (Value.int .u8) 0 22 5 .i64 Try.underlying22 hi07 hsz7 A0 c0 l0 (ji2) (od) (od) HC0.out;have HR505:=Aside0.mk (Kd.C_of_reads (h1:=fun _ => rfl) (hA7 _ (Kd.reads_of_C HR0.out)));have HC505:=Aside0.mk hC7;clear hA7 hC7 hi07 hsz7)|((with_reducible refine gate_callee (f:=35) rfl ?_);refine goesL_ (some 11) rfl rfl Try.func35 (by kernel_rfl) rfl #[.slice A0 (l0.take ((ji2) : Int).toNat).length c0] rfl (by (try simp only [List.map_toArray,List.map_cons,List.map_nil]);first|done|(rw [show (l0.take ((ji2) : Int).toNat).length = (ji2).toNat from (by rw [List.length_take];have h_ : ((ji2) : Int) ≤ (l0.length : Int):=od;omega)] <;> rfl)|(simp only [hji2];rfl)|rfl|(simp only [List.length_drop,List.length_take];rfl)) ?_;(with_reducible refine (nat_FromBytes.calls k _ _ (l0.take ((ji2) : Int).toNat) t506 t509 _ ?side1 ?side2 A5.out).mono ?_);(case side1 => exact qCB HR505 HB);(case side2 => exact HC505.out);rintro e w8 ⟨v507,rfl,ho0,hb⟩;refine ⟨_,rfl,?_⟩;have HO508:=Aside0.mk (Kd.V_lower (Kd.V_mono (ok':=fun k_ => (w.heap.size ≤ k_) ∧ k_ ≠ gb504) ho0 (fun k_ hk_ => ⟨(Nat.le_trans (below_size (qS HB)) hk_),(Kd.freshB (qB BK504.out) k_ hk_)⟩)) (below_size (qS HB)));replace BK504:=qb BK504 hb;replace HB:=qs HB hb;clear hb ho0)|((with_reducible refine gate_dst (N:=3) rfl ?_);refine qX #[.slice none 0 0] 38 ?_;intro gb510 hg w9 hbox hb;replace HO508:=qVe HO508 hb hg;have BK510:=Aside0.mk hbox;have GE510:=qh hg HB;replace HB:=qs HB hb;have NB504_510:=ql hg BK504;have NB510_504:=qg hg BK504;replace BK504:=qb BK504 hb;clear hb hbox hg;obtain ⟨Ao10,co10,eo10⟩:=Kd.V_slice HO508.out;subst eo10;have hnb11:=NB510_504.out;have hnc11:=NB504_510.out;have hcz12_0:=bc BK510;have hfz12_0:=bz BK510;have hcz13_0:=bc BK504;have hfz13_0:=bz BK504))
   refine bodyPost_ret (results_cell_row rfl _ _ gb504 38 #[.slice Ao10 t506.length co10] (0,0) _ rfl (by (with_reducible repeat (first|refine blk_drewN ?_ _|refine blk_drew ?_|refine blk_alloc ?_ _));refine blk_put (cs:=#[.slice none 0 0]) ?_ 0 _ rfl;(with_reducible repeat (first|refine blk_drewN ?_ _|refine blk_drew ?_|refine blk_alloc ?_ _));refine blk_far ?_ NB504_510.out _;(with_reducible repeat (first|refine blk_drewN ?_ _|refine blk_drew ?_|refine blk_alloc ?_ _));exact BK504.out) Try.underlying38 rfl (by kernel_rfl)) rfl ?_
   exact ⟨_,by first|rfl|(simp [errW_none,errW_some] <;> rfl)|(simp only [← hji2];first|rfl|(simp [errW_none,errW_some] <;> rfl))|(simp [*,errW_none,errW_some] <;> rfl),qVm HO508,qS HB⟩
  ·rw [if_neg c4] at H
   exact absurd H (by simp)
 ·rw [if_neg c3] at H
  exact absurd H (by simp)
end Go.Proofs.Yteejcpbngnojkaa.P
end
section
namespace Go.Proofs.Yteejcpbngnojkaa.P
open Go.RowKit Go.Proofs.YteejcpbngnojkaaW.PrintWords Go.Proofs.YteejcpbngnojkaaW.PrintLast Go.Proofs.YteejcpbngnojkaaW.PrintMore
attribute [local go_sem] max2_int min2_int max_two min_two max_three min_three max_four min_four
set_option linter.unusedVariables false
set_option linter.unusedSimpArgs false
section
variable {ops : Array Oper} {rest : List Oper} {o : Oper} {a : Act} {Q : Exit → Act → World → Prop}
theorem make_op {P : Program} {W w1 : World} {v : Value} {x y : Operand} {t : TypeId} {m c : Value} (ho : o.op = .makeSlice t x y) (hx : a.eval x = m) (hy : a.eval y = c) (hr : (Instr.makeSlice t m c).run P W = .ok v w1) : (execOp a.eval o).run P W = .ok (.value v) w1 := by
  simp [execOp, ho, hx, hy, hr]
theorem make0 {W : World} (base : Nat) (hgd : o.guard = none) (x y : Operand) (ho : o.op = .makeSlice 36 x y) (c : Nat) (hx : a.eval x = .int .i64 0) (hy : a.eval y = .int .i64 (c : Int)) (hc : c ≤ 70368744177664) (hbase : base ≤ W.heap.size) {ok : Nat → Prop} (hok : ok W.heap.size)
    (h : ∀ g w1, Kd.R (Kd.int .u32) 23 w1 base ok (.slice (some ⟨g, 0, none⟩) 0 c) [] → Below W.heap.size W w1 → wpList Try.prog ops Q rest (a.put o.dst (.slice (some ⟨g, 0, none⟩) 0 c)) w1) : wpList Try.prog ops Q (o :: rest) a W := by
  have hr := make32 W 0 c (Nat.zero_le _) hc
  refine Kd.event_run hgd ?_ (h W.heap.size (W.alloc (.cells (nums .u32 (List.replicate c 0)).toArray 23)) ?_ (below_alloc (Below.refl _ _) _))
  · exact make_op ho hx hy hr
  · exact Kd.R_of_own ⟨by simp [encs], .inr ⟨W.heap.size, c, (nums .u32 (List.replicate c 0)).toArray, rfl, hbase, blk_new W _, Nat.zero_le _, by simp only [maxLen]; omega, by simp [nums], by simp [encs]⟩⟩ (fun k hk => by cases hk; exact hok)
end
def nat_Nat_Add.l0 : Nat → List Int → Int → List Int → Int → Int → List Int → Option (List Int)
  | 0, _, _, _, _, _, _ => none
  | k + 1, x5, x6, x24, x25, x26, x296000 => if x26 < x25 then (if 0 ≤ x26 then (if x26 < (x24.length : Int) then (if x26 < (x296000.length : Int) then (if x5.length < 35184372088832 then (nat_Nat_Add.l0 k (x5 ++ [(IntKind.u64.wrap ((IntKind.u64.wrap (x6 + (IntKind.u64.wrap (rd x24 x26)))) + (IntKind.u64.wrap (rd x296000 x26)))) % 4294967296]) ((IntKind.u64.wrap ((IntKind.u64.wrap (x6 + (IntKind.u64.wrap (rd x24 x26)))) + (IntKind.u64.wrap (rd x296000 x26)))) / 4294967296) x24 x25 (wrap64 (x26 + 1)) x296000) else (none)) else (if x5.length < 35184372088832 then (nat_Nat_Add.l0 k (x5 ++ [(IntKind.u64.wrap (x6 + (IntKind.u64.wrap (rd x24 x26)))) % 4294967296]) ((IntKind.u64.wrap (x6 + (IntKind.u64.wrap (rd x24 x26)))) / 4294967296) x24 x25 (wrap64 (x26 + 1)) x296000) else (none))) else (none)) else (none)) else (if x5.length < 35184372088832 then ((nat_trim.f k (x5 ++ [(x6) % 4294967296])).bind fun t311 => (some t311)) else (none))
set_option maxHeartbeats 8000000 in
set_option maxRecDepth 100000 in
theorem nat_Nat_Add.calls_s (sw : Bool) (k : Nat) (A0_0 : Option Addr) (c0_0 : Nat) (l0_0 : List Int) (A1_0 : Option Addr) (c1_0 : Nat) (l1_0 : List Int) (r : List Int) (w : World) (hr0_0 : Kd.C (Kd.int .u32) w A0_0 l0_0.length l0_0) (hc0_0 : l0_0.length ≤ c0_0) (hr1_0 : Kd.C (Kd.int .u32) w A1_0 l1_0.length l1_0) (hc1_0 : l1_0.length ≤ c1_0)
    (hb_ : l0_0.length < 1000) (hle_ : l1_0.length ≤ l0_0.length) (hs_ : sw = true → l1_0.length < l0_0.length) (h : nat_Nat_Add.l0 k [] 0 l0_0 (l0_0.length : Int) 0 l1_0 = some r) :
    Calls Try.prog 60 (bif sw then #[.agg #[.slice A1_0 l1_0.length c1_0], .agg #[.slice A0_0 l0_0.length c0_0]] else #[.agg #[.slice A0_0 l0_0.length c0_0], .agg #[.slice A1_0 l1_0.length c1_0]]) w fun e w' => ∃ v0_ : Value, e = .returned (.agg #[v0_]) ∧ Kd.V (Kd.int .u32) 23 w' w.heap.size (fun k_ => (w.heap.size ≤ k_)) v0_ r ∧ Below w.heap.size w w' := by
  have hu38 := Try.underlying38
  have HR0_0 := Aside0.mk hr0_0
  have HC0_0 := Aside0.mk hc0_0
  clear hr0_0 hc0_0
  have HR1_0 := Aside0.mk hr1_0
  have HC1_0 := Aside0.mk hc1_0
  clear hr1_0 hc1_0
  have HB := Aside0.mk (Below.refl w.heap.size w)
  have H' := Aside0.mk h
  clear h
  cases sw
  case' false =>
    clear hs_
    have t1_ : decide (l0_0.length < l1_0.length) = false := decide_eq_false (by omega)
    have t2_ : decide ((l0_0.length : Int) < (l1_0.length : Int)) = false := decide_eq_false (by omega)
    show Calls Try.prog 60 #[.agg #[.slice A0_0 l0_0.length c0_0], .agg #[.slice A1_0 l1_0.length c1_0]] w _
    go_enter Try.func60, Try.ntmps60
    go_wp2_with (first | ((with_reducible refine gate_dst (N := 2) rfl ?_); refine qX #[.slice A0_0 l0_0.length c0_0] 38 ?_; intro gb294 hg w4 hbox hb; have BK294 := Aside0.mk hbox; have GE294 := qh hg HB; replace HB := qs HB hb; clear hb hbox hg) | ((with_reducible refine gate_dst (N := 3) rfl ?_); refine qX #[.slice A1_0 l1_0.length c1_0] 38 ?_; intro gb295 hg w5 hbox hb; have BK295 := Aside0.mk hbox; have GE295 := qh hg HB; replace HB := qs HB hb; have NB294_295 := ql hg BK294; have NB295_294 := qg hg BK294; replace BK294 := qb BK294 hb; clear hb hbox hg) | ((with_reducible refine gate_dst (N := 4) rfl ?_); refine qX #[.slice none 0 0] 38 ?_; intro gb296 hg w6 hbox hb; have BK296 := Aside0.mk hbox; have GE296 := qh hg HB; replace HB := qs HB hb; have NB294_296 := ql hg BK294; have NB296_294 := qg hg BK294; replace BK294 := qb BK294 hb; have NB295_296 := ql hg BK295; have NB296_295 := qg hg BK295; replace BK295 := qb BK295 hb; clear hb hbox hg; have hnb7 := NB294_295.out; have hnc7 := NB295_294.out; have hnb8 := NB294_296.out; have hnc8 := NB296_294.out; have hcz9_0 := bc BK294; have hfz9_0 := bz BK294; have hnb10 := NB295_296.out; have hnc10 := NB296_295.out; have hcz11_0 := bc BK295; have hfz11_0 := bz BK295) | ((with_reducible refine gate_dst (N := 22) rfl ?_); refine make0 w.heap.size rfl _ _ rfl (l0_0.length + 1) rfl (by first | rfl | (simp; done)) (by omega) (below_size (qS HB)) (ok := fun k_ => w.heap.size ≤ k_) (below_size (qS HB)) ?_; intro g298 w12 ho13 hb; have HO299 := Aside0.mk ho13; replace BK294 := qb BK294 hb; replace BK295 := qb BK295 hb; replace BK296 := qb BK296 hb; replace HB := qs HB hb; clear hb ho13; have hcz14_0 := bc BK294; have hfz14_0 := bz BK294))
  case' true =>
    have t0_ : l1_0.length < l0_0.length := hs_ rfl
    clear hs_
    have t1_ : decide (l1_0.length < l0_0.length) = true := decide_eq_true t0_
    have t2_ : decide ((l1_0.length : Int) < (l0_0.length : Int)) = true := decide_eq_true (by omega)
    clear t0_
    show Calls Try.prog 60 #[.agg #[.slice A1_0 l1_0.length c1_0], .agg #[.slice A0_0 l0_0.length c0_0]] w _
    go_enter Try.func60, Try.ntmps60
    go_wp2_with (first | ((with_reducible refine gate_dst (N := 2) rfl ?_); refine qX #[.slice A1_0 l1_0.length c1_0] 38 ?_; intro gb294 hg w4 hbox hb; have BK294 := Aside0.mk hbox; have GE294 := qh hg HB; replace HB := qs HB hb; clear hb hbox hg) | ((with_reducible refine gate_dst (N := 3) rfl ?_); refine qX #[.slice A0_0 l0_0.length c0_0] 38 ?_; intro gb295 hg w5 hbox hb; have BK295 := Aside0.mk hbox; have GE295 := qh hg HB; replace HB := qs HB hb; have NB294_295 := ql hg BK294; have NB295_294 := qg hg BK294; replace BK294 := qb BK294 hb; clear hb hbox hg) | ((with_reducible refine gate_dst (N := 4) rfl ?_); refine qX #[.slice none 0 0] 38 ?_; intro gb296 hg w6 hbox hb; have BK296 := Aside0.mk hbox; have GE296 := qh hg HB; replace HB := qs HB hb; have NB294_296 := ql hg BK294; have NB296_294 := qg hg BK294; replace BK294 := qb BK294 hb; have NB295_296 := ql hg BK295; have NB296_295 := qg hg BK295; replace BK295 := qb BK295 hb; clear hb hbox hg; have hnb7 := NB294_295.out; have hnc7 := NB295_294.out; have hnb8 := NB294_296.out; have hnc8 := NB296_294.out; have hcz9_0 := bc BK294; have hfz9_0 := bz BK294; have hnb10 := NB295_296.out; have hnc10 := NB296_295.out; have hcz11_0 := bc BK295; have hfz11_0 := bz BK295) | ((with_reducible refine gate_store (t := 38) (p := 2) rfl ?_); refine qSt (w6.setCell ⟨gb294, 0, none⟩ (.slice A0_0 l0_0.length c0_0)) ?_; intro w7 hw; replace BK294 := qBp hw BK294; replace BK295 := qBh hw BK295; replace BK296 := qBh hw BK296; replace HB := qSh hw HB; clear hw; have hcz12_0 := bc BK295; have hfz12_0 := bz BK295; have hcz13_0 := bc BK294; have hfz13_0 := bz BK294) | ((with_reducible refine gate_store (t := 38) (p := 3) rfl ?_); refine qSt (w7.setCell ⟨gb295, 0, none⟩ (.slice A1_0 l1_0.length c1_0)) ?_; intro w8 hw; replace BK294 := qBh hw BK294; replace BK295 := qBp hw BK295; replace BK296 := qBh hw BK296; replace HB := qSh hw HB; clear hw; have hcz16_0 := bc BK294; have hfz16_0 := bz BK294) | ((with_reducible refine gate_dst (N := 22) rfl ?_); refine make0 w.heap.size rfl _ _ rfl (l0_0.length + 1) rfl (by first | rfl | (simp; done)) (by omega) (below_size (qS HB)) (ok := fun k_ => w.heap.size ≤ k_) (below_size (qS HB)) ?_; intro g298 w12 ho13 hb; have HO299 := Aside0.mk ho13; replace BK294 := qb BK294 hb; replace BK295 := qb BK295 hb; replace BK296 := qb BK296 hb; replace HB := qs HB hb; clear hb ho13; have hcz14_0 := bc BK294; have hfz14_0 := bz BK294))
  all_goals
    go_loopg [5, 6, 26] k (fun kq v5 v6 v26 w' => ∃ (x5_1 : List Int) (x6_1 : Int) (x26_1 : Int), v6 = .int .u64 x6_1 ∧ v26 = .int .i64 x26_1 ∧ Aside0 (nat_Nat_Add.l0 kq x5_1 x6_1 l0_0 (l0_0.length : Int) x26_1 l1_0 = some r) ∧ Aside0 (kq ≤ k) ∧ Aside0 (Kd.R (Kd.int .u32) 23 w' w.heap.size (fun k_ => (w.heap.size ≤ k_)) v5 x5_1) ∧ Aside0 (w'.heap[gb294]? = some (.cells #[(.slice A0_0 l0_0.length c0_0)] 38 (0, 0))) ∧ Aside0 (w'.heap[gb295]? = some (.cells #[(.slice A1_0 l1_0.length c1_0)] 38 (0, 0))) ∧ Aside0 (w'.heap[gb296]? = some (.cells #[(.slice none 0 0)] 38 (0, 0))) ∧ Aside0 (Below w.heap.size w w'))
    case atStart => exact ⟨([] : List Int), (0), (0), (by first | rfl | (simp; done) | (simp [*]; done)), (by first | rfl | (simp; done) | (simp [*]; done)), H', ⟨Nat.le_refl _⟩, ⟨qRm HO299⟩, ⟨qB BK294.out⟩, ⟨qB BK295.out⟩, ⟨qB BK296.out⟩, ⟨qS HB⟩⟩
    case round =>
      clear H'
      try clear c1
      try clear p2
      try clear c3
      try clear c3b0
      try clear c3b1
      try clear c6
      try clear c7
      try clear c8
      try clear c10
      try clear hcz11_0
      try clear hcz14_0
      try clear hcz9_0
      try clear hfz11_0
      try clear hfz14_0
      try clear hfz9_0
      obtain ⟨x5_1, x6_1, x26_1, rfl, rfl, HA, HK1, HO_5, BK294, BK295, BK296, HB⟩ := hrel
      cases gk with
      | zero => exact absurd HA.out (by simp [nat_Nat_Add.l0])
      | succ k1 =>
        have H := HA.out
        clear HA
        simp only [nat_Nat_Add.l0] at H
        by_cases c15 : x26_1 < (l0_0.length : Int)
        · rw [if_pos c15] at H
          have c15b0 : decide (x26_1 < (l0_0.length : Int)) = true := decide_eq_true c15
          clear c15
          by_cases c16 : 0 ≤ x26_1
          · rw [if_pos c16] at H
            have c16b0 : decide (0 ≤ x26_1) = true := decide_eq_true c16
            clear c16
            by_cases c17 : x26_1 < (l0_0.length : Int)
            · rw [if_pos c17] at H
              have c17b0 : decide (x26_1 < (l0_0.length : Int)) = true := decide_eq_true c17
              clear c17
              by_cases c18 : x26_1 < (l1_0.length : Int)
              · rw [if_pos c18] at H
                have c18b0 : decide (x26_1 < (l1_0.length : Int)) = true := decide_eq_true c18
                clear c18
                by_cases c19 : x5_1.length < 35184372088832
                · rw [if_pos c19] at H
                  have LMc19 := Aside0.mk c19
                  clear c19
                  obtain ⟨y302, hy302⟩ : ∃ y_ : List Int, y_ = (x5_1 ++ [(IntKind.u64.wrap ((IntKind.u64.wrap (x6_1 + (IntKind.u64.wrap (rd l0_0 x26_1)))) + (IntKind.u64.wrap (rd l1_0 x26_1)))) % 4294967296]) := ⟨_, rfl⟩
                  replace H : (nat_Nat_Add.l0 k1 y302 ((IntKind.u64.wrap ((IntKind.u64.wrap (x6_1 + (IntKind.u64.wrap (rd l0_0 x26_1)))) + (IntKind.u64.wrap (rd l1_0 x26_1)))) / 4294967296) l0_0 (l0_0.length : Int) (wrap64 (x26_1 + 1)) l1_0) = some r := by first | (rw [hy302]; with_reducible exact H) | (have H2_ := (Option.bind_some _ _).symm.trans H; rw [hy302]; with_reducible exact H2_) | (have H2_ := (Option.bind_some _ _).symm.trans H; with_reducible exact H2_) | with_reducible exact H | (rw [hy302]; exact H) | exact H
                  have Ny302 := Aside0.mk hy302
                  clear hy302
                  have H' := Aside0.mk H
                  clear H
                  have p300 : 0 ≤ (x26_1 : Int) := od
                  have q300 : x26_1 < (l0_0.length : Int) := od
                  obtain ⟨ad300, e300, hx300_0⟩ := Kd.at_int HR0_0.out x26_1 p300 q300
                  cases e300
                  replace hx300_0 := (HB.out.cell (World.block_lt_of_cell? w _ hx300_0)).trans hx300_0
                  replace p300 := eq_true p300
                  replace q300 := eq_true q300
                  have hnb20 := NB295_294.out
                  have hnc20 := NB294_295.out
                  have hnb21 := NB295_296.out
                  have hnc21 := NB296_295.out
                  have hcz22_0 : wr.cell? ⟨gb295, 0, none⟩ = some (.slice A1_0 l1_0.length c1_0) := bc BK295
                  have hfz22_0 := bz BK295
                  have p301 : 0 ≤ (x26_1 : Int) := od
                  have q301 : x26_1 < (l1_0.length : Int) := od
                  obtain ⟨ad301, e301, hx301_0⟩ := Kd.at_int HR1_0.out x26_1 p301 q301
                  cases e301
                  replace hx301_0 := (HB.out.cell (World.block_lt_of_cell? w _ hx301_0)).trans hx301_0
                  replace p301 := eq_true p301
                  replace q301 := eq_true q301
                  go_wp2_with (first | ((with_reducible refine gate_builtin (b := .append) (xs := #[.tmp 48, .tmp 51]) rfl ?_); at_builtin; refine Kd.R_append (Kd.int .u32) (w0 := w) w.heap.size rfl (.tmp 48) (.tmp 51) 36 23 (.int .u32 0) 4 rfl Try.underlying36 info23 rfl (by decide) (by omega) u5 x5_1 ((IntKind.u64.wrap ((IntKind.u64.wrap (x6_1 + (IntKind.u64.wrap (rd l0_0 x26_1)))) + (IntKind.u64.wrap (rd l1_0 x26_1)))) % 4294967296) [.int .u32 ((IntKind.u64.wrap ((IntKind.u64.wrap (x6_1 + (IntKind.u64.wrap (rd l0_0 x26_1)))) + (IntKind.u64.wrap (rd l1_0 x26_1)))) % 4294967296)] (fun k_ => (w.heap.size ≤ k_)) (fun _ => False) rfl rfl ?aP (fun _ hk => hk.elim) ?aF ?aO ?aB ?aS ?aL ?_; (case aP => exact rfl); (case aB => exact (qS HB)); (case aF => exact (fun k_ hk => (Nat.le_trans (below_size (qS HB)) hk))); (case aO => exact (qRm HO_5)); (case aS => exact (below_size (qS HB))); (case aL => have := LMc19.out; omega); intro v303 w23 ho hb hg hat; rw [← Ny302.out] at ho; replace BK294 := Aside0.mk (blk_grown (g := gb294) (o := .cells #[.slice (some ad300) l0_0.length c0_0] 38 (0, 0)) (qB BK294.out) hg (Kd.R_ne HO_5.out BK294.out (by decide))); replace BK295 := Aside0.mk (blk_grown (g := gb295) (o := .cells #[.slice (some ad301) l1_0.length c1_0] 38 (0, 0)) (qB BK295.out) hg (Kd.R_ne HO_5.out BK295.out (by decide))); replace BK296 := Aside0.mk (blk_grown (g := gb296) (o := .cells #[.slice none 0 0] 38 (0, 0)) (qB BK296.out) hg (Kd.R_ne HO_5.out BK296.out (by decide))); replace HB := Aside0.mk (hb); have HO304 := Aside0.mk (ho); (try clear HO_5); clear ho hb hg hat))
                  go_roundg k1
                  case measure => have := HK1.out; omega
                  case rel => exact ⟨(y302), ((IntKind.u64.wrap ((IntKind.u64.wrap (x6_1 + (IntKind.u64.wrap (rd l0_0 x26_1)))) + (IntKind.u64.wrap (rd l1_0 x26_1)))) / 4294967296), (wrap64 (x26_1 + 1)), (by first | rfl | (simp; done) | (simp [*]; done)), (by first | rfl | (simp; done) | (simp [*]; done)), H', ⟨by have := HK1.out; omega⟩, ⟨qRm HO304⟩, ⟨qB BK294.out⟩, ⟨qB BK295.out⟩, ⟨qB BK296.out⟩, ⟨qS HB⟩⟩
                · rw [if_neg c19] at H
                  exact absurd H (by simp)
              · rw [if_neg c18] at H
                have c18b0 : decide (x26_1 < (l1_0.length : Int)) = false := decide_eq_false c18
                clear c18
                by_cases c24 : x5_1.length < 35184372088832
                · rw [if_pos c24] at H
                  have LMc24 := Aside0.mk c24
                  clear c24
                  obtain ⟨y305, hy305⟩ : ∃ y_ : List Int, y_ = (x5_1 ++ [(IntKind.u64.wrap (x6_1 + (IntKind.u64.wrap (rd l0_0 x26_1)))) % 4294967296]) := ⟨_, rfl⟩
                  replace H : (nat_Nat_Add.l0 k1 y305 ((IntKind.u64.wrap (x6_1 + (IntKind.u64.wrap (rd l0_0 x26_1)))) / 4294967296) l0_0 (l0_0.length : Int) (wrap64 (x26_1 + 1)) l1_0) = some r := by first | (rw [hy305]; with_reducible exact H) | (have H2_ := (Option.bind_some _ _).symm.trans H; rw [hy305]; with_reducible exact H2_) | (have H2_ := (Option.bind_some _ _).symm.trans H; with_reducible exact H2_) | with_reducible exact H | (rw [hy305]; exact H) | exact H
                  have Ny305 := Aside0.mk hy305
                  clear hy305
                  have H' := Aside0.mk H
                  clear H
                  have p300 : 0 ≤ (x26_1 : Int) := od
                  have q300 : x26_1 < (l0_0.length : Int) := od
                  obtain ⟨ad300, e300, hx300_0⟩ := Kd.at_int HR0_0.out x26_1 p300 q300
                  cases e300
                  replace hx300_0 := (HB.out.cell (World.block_lt_of_cell? w _ hx300_0)).trans hx300_0
                  replace p300 := eq_true p300
                  replace q300 := eq_true q300
                  have hnb25 := NB295_294.out
                  have hnc25 := NB294_295.out
                  have hnb26 := NB295_296.out
                  have hnc26 := NB296_295.out
                  have hcz27_0 : wr.cell? ⟨gb295, 0, none⟩ = some (.slice A1_0 l1_0.length c1_0) := bc BK295
                  have hfz27_0 := bz BK295
                  go_wp2_with (first | ((with_reducible refine gate_builtin (b := .append) (xs := #[.tmp 48, .tmp 51]) rfl ?_); at_builtin; refine Kd.R_append (Kd.int .u32) (w0 := w) w.heap.size rfl (.tmp 48) (.tmp 51) 36 23 (.int .u32 0) 4 rfl Try.underlying36 info23 rfl (by decide) (by omega) u5 x5_1 ((IntKind.u64.wrap (x6_1 + (IntKind.u64.wrap (rd l0_0 x26_1)))) % 4294967296) [.int .u32 ((IntKind.u64.wrap (x6_1 + (IntKind.u64.wrap (rd l0_0 x26_1)))) % 4294967296)] (fun k_ => (w.heap.size ≤ k_)) (fun _ => False) rfl rfl ?aP (fun _ hk => hk.elim) ?aF ?aO ?aB ?aS ?aL ?_; (case aP => exact rfl); (case aB => exact (qS HB)); (case aF => exact (fun k_ hk => (Nat.le_trans (below_size (qS HB)) hk))); (case aO => exact (qRm HO_5)); (case aS => exact (below_size (qS HB))); (case aL => have := LMc24.out; omega); intro v306 w28 ho hb hg hat; rw [← Ny305.out] at ho; replace BK294 := Aside0.mk (blk_grown (g := gb294) (o := .cells #[.slice (some ad300) l0_0.length c0_0] 38 (0, 0)) (qB BK294.out) hg (Kd.R_ne HO_5.out BK294.out (by decide))); replace BK295 := Aside0.mk (blk_grown (g := gb295) (o := .cells #[.slice A1_0 l1_0.length c1_0] 38 (0, 0)) (qB BK295.out) hg (Kd.R_ne HO_5.out BK295.out (by decide))); replace BK296 := Aside0.mk (blk_grown (g := gb296) (o := .cells #[.slice none 0 0] 38 (0, 0)) (qB BK296.out) hg (Kd.R_ne HO_5.out BK296.out (by decide))); replace HB := Aside0.mk (hb); have HO307 := Aside0.mk (ho); (try clear HO_5); clear ho hb hg hat))
                  go_roundg k1
                  case measure => have := HK1.out; omega
                  case rel => exact ⟨(y305), ((IntKind.u64.wrap (x6_1 + (IntKind.u64.wrap (rd l0_0 x26_1)))) / 4294967296), (wrap64 (x26_1 + 1)), (by first | rfl | (simp; done) | (simp [*]; done)), (by first | rfl | (simp; done) | (simp [*]; done)), H', ⟨by have := HK1.out; omega⟩, ⟨qRm HO307⟩, ⟨qB BK294.out⟩, ⟨qB BK295.out⟩, ⟨qB BK296.out⟩, ⟨qS HB⟩⟩
                · rw [if_neg c24] at H
                  exact absurd H (by simp)
            · rw [if_neg c17] at H
              exact absurd H (by simp)
          · rw [if_neg c16] at H
            exact absurd H (by simp)
        · rw [if_neg c15] at H
          have c15b0 : decide (x26_1 < (l0_0.length : Int)) = false := decide_eq_false c15
          clear c15
          by_cases c29 : x5_1.length < 35184372088832
          · rw [if_pos c29] at H
            have LMc29 := Aside0.mk c29
            clear c29
            obtain ⟨y308, hy308⟩ : ∃ y_ : List Int, y_ = (x5_1 ++ [(x6_1) % 4294967296]) := ⟨_, rfl⟩
            replace H : ((nat_trim.f k1 y308).bind fun t311 => (some t311)) = some r := by first | (rw [hy308]; with_reducible exact H) | (have H2_ := (Option.bind_some _ _).symm.trans H; rw [hy308]; with_reducible exact H2_) | (have H2_ := (Option.bind_some _ _).symm.trans H; with_reducible exact H2_) | with_reducible exact H | (rw [hy308]; exact H) | exact H
            have Ny308 := Aside0.mk hy308
            clear hy308
            obtain ⟨t311, A30, H⟩ := qH H
            obtain rfl := Option.some.inj H
            go_wp2_with (first | ((with_reducible refine gate_builtin (b := .append) (xs := #[.tmp 56, .tmp 59]) rfl ?_); at_builtin; refine Kd.R_append (Kd.int .u32) (w0 := w) w.heap.size rfl (.tmp 56) (.tmp 59) 36 23 (.int .u32 0) 4 rfl Try.underlying36 info23 rfl (by decide) (by omega) u5 x5_1 ((x6_1) % 4294967296) [.int .u32 ((x6_1) % 4294967296)] (fun k_ => (w.heap.size ≤ k_)) (fun _ => False) rfl rfl ?aP (fun _ hk => hk.elim) ?aF ?aO ?aB ?aS ?aL ?_; (case aP => exact rfl); (case aB => exact (qS HB)); (case aF => exact (fun k_ hk => (Nat.le_trans (below_size (qS HB)) hk))); (case aO => exact (qRm HO_5)); (case aS => exact (below_size (qS HB))); (case aL => have := LMc29.out; omega); intro v309 w31 ho hb hg hat; rw [← Ny308.out] at ho; replace BK294 := Aside0.mk (blk_grown (g := gb294) (o := .cells #[.slice A0_0 l0_0.length c0_0] 38 (0, 0)) (qB BK294.out) hg (Kd.R_ne HO_5.out BK294.out (by decide))); replace BK295 := Aside0.mk (blk_grown (g := gb295) (o := .cells #[.slice A1_0 l1_0.length c1_0] 38 (0, 0)) (qB BK295.out) hg (Kd.R_ne HO_5.out BK295.out (by decide))); replace BK296 := Aside0.mk (blk_grown (g := gb296) (o := .cells #[.slice none 0 0] 38 (0, 0)) (qB BK296.out) hg (Kd.R_ne HO_5.out BK296.out (by decide))); replace HB := Aside0.mk (hb); have HO310 := Aside0.mk (ho); (try clear HO_5); clear ho hb hg hat; obtain ⟨Ao32, co32, eo32⟩ := Kd.R_slice HO310.out; subst eo32) | ((with_reducible refine gate_callee (f := 100) rfl ?_); refine gL (some 61) Try.func100 #[.slice Ao32 y308.length co32] ?_; (with_reducible refine (nat_trim.calls k1 (fun k_ => some k_ = (.slice Ao32 y308.length co32 : Value).ownBlock) _ _ y308 t311 _ ?side1 A30.out).mono ?_); (case side1 => exact Kd.R_V (Kd.R_tight rfl (Kd.R_types (Kd.R_types (Kd.R_types (HO310.out) BK294.out (by decide)) BK295.out (by decide)) BK296.out (by decide)))); rintro e w33 ⟨v312, rfl, ho0, hb⟩; refine ⟨_, rfl, ?_⟩; have HO313 := Aside0.mk (Kd.V_lower (Kd.V_mono (ok' := fun k_ => (w.heap.size ≤ k_) ∧ k_ ≠ gb294 ∧ k_ ≠ gb295 ∧ k_ ≠ gb296) ho0 (fun k_ hk_ => ⟨Or.elim hk_ (fun hs_ => ((Kd.R_types (Kd.R_types (Kd.R_types (HO310.out) BK294.out (by decide)) BK295.out (by decide)) BK296.out (by decide)).1 k_ hs_.symm).1.1.1) (fun hn_ => (Nat.le_trans (below_size (qS HB)) hn_)), Or.elim hk_ (fun hs_ => ((Kd.R_types (Kd.R_types (Kd.R_types (HO310.out) BK294.out (by decide)) BK295.out (by decide)) BK296.out (by decide)).1 k_ hs_.symm).1.1.2) (fun hn_ => (Kd.freshB (qB BK294.out) k_ hn_)), Or.elim hk_ (fun hs_ => ((Kd.R_types (Kd.R_types (Kd.R_types (HO310.out) BK294.out (by decide)) BK295.out (by decide)) BK296.out (by decide)).1 k_ hs_.symm).1.2) (fun hn_ => (Kd.freshB (qB BK295.out) k_ hn_)), Or.elim hk_ (fun hs_ => ((Kd.R_types (Kd.R_types (Kd.R_types (HO310.out) BK294.out (by decide)) BK295.out (by decide)) BK296.out (by decide)).1 k_ hs_.symm).2) (fun hn_ => (Kd.freshB (qB BK296.out) k_ hn_))⟩)) (below_size (qS HB))); replace HO310 := qRb HO310 hb; replace BK294 := qb BK294 hb; replace BK295 := qb BK295 hb; replace BK296 := qb BK296 hb; replace HB := qs HB hb; clear hb ho0; obtain ⟨Ao34, co34, eo34⟩ := Kd.V_slice HO313.out; subst eo34; have hnb35 := NB296_294.out; have hnc35 := NB294_296.out; have hnb36 := NB296_295.out; have hnc36 := NB295_296.out; have hcz37_0 := bc BK296; have hfz37_0 := bz BK296))
            refine bodyPost_ret (results_cell_row rfl _ _ gb296 38 #[.slice Ao34 t311.length co34] (0, 0) _ rfl (by (with_reducible repeat (first | refine blk_drewN ?_ _ | refine blk_drew ?_ | refine blk_alloc ?_ _)); refine blk_put (cs := #[.slice none 0 0]) ?_ 0 _ rfl; (with_reducible repeat (first | refine blk_drewN ?_ _ | refine blk_drew ?_ | refine blk_alloc ?_ _)); exact BK296.out) Try.underlying38 rfl (by kernel_rfl)) rfl ?_
            exact ⟨_, by first | rfl | (simp [errW_none, errW_some] <;> rfl) | (simp [*, errW_none, errW_some] <;> rfl), qVm HO313, qS HB⟩
          · rw [if_neg c29] at H
            exact absurd H (by simp)
end Go.Proofs.Yteejcpbngnojkaa.P
end
section
namespace Go.Proofs.Yteejcpbngnojkaa.P
open Go.RowKit Go.Proofs.YteejcpbngnojkaaW.PrintWords Go.Proofs.YteejcpbngnojkaaW.PrintLast Go.Proofs.YteejcpbngnojkaaW.PrintMore
open Go.Proofs.Yteejcpbngnojkaa.Num
set_option linter.unusedVariables false
theorem valW_snocA (l : List Int) (j : Nat) : valW (l.take (j + 1)) = valW (l.take j) + pw j * (gw l j).toNat := by
  by_cases h : j < l.length
  · exact valW_snoc h
  · rw [List.take_of_length_le (by omega), List.take_of_length_le (by omega), gw_out (by omega)]; simp
theorem add_eq {A B O P x y c s : Nat} (h : O + P * c = A + B) (he : s = c + x + y) : O + P * (s % 4294967296) + P * 4294967296 * (s / 4294967296) = A + P * x + (B + P * y) := by
  have h1 := Nat.mod_add_div s 4294967296
  have h2 : P * (s % 4294967296) + P * 4294967296 * (s / 4294967296) = P * s := by rw [Nat.mul_assoc, ← Nat.mul_add, h1]
  have h3 : P * s = P * c + P * x + P * y := by rw [he, Nat.mul_add, Nat.mul_add]
  omega
theorem add_w (x y c : Nat) (hx : x < 4294967296) (hy : y < 4294967296) (hc : c ≤ 1) : IntKind.u64.wrap (x : Int) = (x : Int) ∧ IntKind.u64.wrap (y : Int) = (y : Int) ∧ IntKind.u64.wrap ((c : Int) + (x : Int)) = ((c + x : Nat) : Int) ∧ IntKind.u64.wrap (((c + x : Nat) : Int) + (y : Int)) = ((c + x + y : Nat) : Int) := by
  refine ⟨wu64 (by omega) (by omega), wu64 (by omega) (by omega), ?_, ?_⟩
  · rw [← Int.natCast_add]; exact wu64 (by omega) (by omega)
  · rw [← Int.natCast_add]; exact wu64 (by omega) (by omega)
theorem add_round (l m out : List Int) (i c x y : Nat) (hx : gw l i = (x : Int)) (hy : gw m i = (y : Int)) (hx4 : x < 4294967296) (hy4 : y < 4294967296) (hc : c ≤ 1) (hi : i < l.length) (hll : l.length < 1000) (hol : out.length = i) (k : Nat) :
    nat_Nat_Add.l0 (k + 1) out (c : Int) l (l.length : Int) (i : Int) m = nat_Nat_Add.l0 k (out ++ [(((c + x + y) % 4294967296 : Nat) : Int)]) (((c + x + y) / 4294967296 : Nat) : Int) l (l.length : Int) ((i + 1 : Nat) : Int) m := by
  have c1 : (i : Int) < (l.length : Int) := by omega
  have c2 : (0 : Int) ≤ (i : Int) := by omega
  have c3 : out.length < 35184372088832 := by omega
  have hyo : ¬ (i : Int) < (m.length : Int) → y = 0 := fun h => by
    rw [gw_out (by omega)] at hy; omega
  have hw : wrap64 ((i : Int) + 1) = ((i + 1 : Nat) : Int) := by rw [w64 (by omega) (by omega)]; omega
  obtain ⟨e1, e2, e3, e4⟩ := add_w x y c hx4 hy4 hc
  have m1 : ((c + x + y : Nat) : Int) % 4294967296 = (((c + x + y) % 4294967296 : Nat) : Int) := rfl
  have m2 : ((c + x + y : Nat) : Int) / 4294967296 = (((c + x + y) / 4294967296 : Nat) : Int) := rfl
  simp only [nat_Nat_Add.l0]
  rw [if_pos c1, if_pos c2, if_pos c1, rd_gw, rd_gw, hx, hy, e1, e2, e3, e4, hw]
  by_cases hm : (i : Int) < (m.length : Int)
  · rw [if_pos hm, if_pos c3, m1, m2]
  · rw [if_neg hm]
    have h0 := hyo hm
    subst h0
    have ez : c + x + 0 = c + x := Nat.add_zero _
    rw [ez] at m1 m2 ⊢
    rw [if_pos c3, m1, m2]
theorem add_loop (l m : List Int) (hl : Sized l) (hm : Sized m) (hll : l.length < 1000) (hmm : m.length ≤ l.length) (d : Nat) : ∀ (i c : Nat) (out : List Int), i + d = l.length → out.length = i → Sized out → c ≤ 1 →
    valW out + pw i * c = valW (l.take i) + valW (m.take i) → Ev (fun k => nat_Nat_Add.l0 k out (c : Int) l (l.length : Int) (i : Int) m) (toW (valW l + valW m)) := by
  induction d with
  | zero =>
    intro i c out hi hol hos hc he
    obtain rfl : i = l.length := by omega
    have hs : Sized (out ++ [(c : Int)]) := fun z hz => by
      rcases List.mem_append.1 hz with h | h
      · exact hos z h
      · rw [List.mem_singleton.1 h]; omega
    have ht := trim_ev (out ++ [(c : Int)]) hs (by rw [List.length_append, List.length_singleton]; omega)
    rw [List.take_length, List.take_of_length_le (l := m) hmm] at he
    have hv : valW (out ++ [(c : Int)]) = valW l + valW m := by rw [valW_append, valW_one, hol, Int.toNat_natCast]; exact he
    rw [hv] at ht
    have c1 : ¬ ((l.length : Nat) : Int) < (l.length : Int) := by omega
    have c3 : out.length < 35184372088832 := by omega
    have ec : (c : Int) % 4294967296 = (c : Int) := by omega
    refine Ev.step (fun k => ?_) (Ev.bind (f := fun _ t => some t) ht (Ev.now _))
    simp only [nat_Nat_Add.l0]
    rw [if_neg c1, if_pos c3, ec]
  | succ d ih =>
    intro i c out hi hol hos hc he
    have gx := hl.gw i
    have gy := hm.gw i
    obtain ⟨x, hx⟩ := Int.eq_ofNat_of_zero_le gx.1
    obtain ⟨y, hy⟩ := Int.eq_ofNat_of_zero_le gy.1
    rw [hx] at gx
    rw [hy] at gy
    have hx4 : x < 4294967296 := by omega
    have hy4 : y < 4294967296 := by omega
    have hil : i < l.length := by omega
    have hcc : (c + x + y) / 4294967296 ≤ 1 := by omega
    have ex := valW_snocA l i
    have ey := valW_snocA m i
    rw [hx, Int.toNat_natCast] at ex
    rw [hy, Int.toNat_natCast] at ey
    have hs : Sized (out ++ [(((c + x + y) % 4294967296 : Nat) : Int)]) := fun z hz => by
      rcases List.mem_append.1 hz with h | h
      · exact hos z h
      · rw [List.mem_singleton.1 h]; omega
    refine Ev.step (fun k => add_round l m out i c x y hx hy hx4 hy4 hc hil hll hol k) (ih (i + 1) ((c + x + y) / 4294967296) _ (by omega) (by rw [List.length_append, List.length_singleton, hol]) hs hcc ?_)
    rw [ex, ey, valW_append, valW_one, hol, Int.toNat_natCast, pw_succ]
    exact add_eq he rfl
theorem add_ev (l m : List Int) (hl : Sized l) (hm : Sized m) (hll : l.length < 1000) (hmm : m.length ≤ l.length) : Ev (fun k => nat_Nat_Add.l0 k [] 0 l (l.length : Int) 0 m) (toW (valW l + valW m)) :=
  add_loop l m hl hm hll hmm l.length 0 0 [] (by omega) rfl (fun z hz => by cases hz) (by omega) (by simp [valW_nil])
end Go.Proofs.Yteejcpbngnojkaa.P
end
section
namespace Go.Proofs.Yteejcpbngnojkaa.P
open Go.RowKit Go.Shelf Go.Proofs.YteejcpbngnojkaaW.PrintWords Go.Proofs.YteejcpbngnojkaaW.PrintLast Go.Proofs.YteejcpbngnojkaaW.PrintMore
open Go.Proofs.Yteejcpbngnojkaa.Num
set_option linter.unusedVariables false
def nat_Nat_Add.f (_k : Nat) (l0_0 : List Int) (l1_0 : List Int) : Option (List Int) :=
  if canonB l0_0 && canonB l1_0 && decide (l0_0.length < 1000) && decide (l1_0.length < 1000) then some (toW (valW l0_0 + valW l1_0)) else none
theorem nat_Nat_Add.mono : ∀ a0 a1 k, LeO (nat_Nat_Add.f k a0 a1) (nat_Nat_Add.f (k + 1) a0 a1) := fun _ _ _ => LeO.refl _
theorem Add_toW (k a b : Nat) (ha : (toW a).length < 1000) (hb : (toW b).length < 1000) : nat_Nat_Add.f k (toW a) (toW b) = some (toW (a + b)) := by
  unfold nat_Nat_Add.f
  rw [if_pos (by rw [canonB_toW, canonB_toW]; simp [ha, hb]), valW_toW, valW_toW]
theorem nat_Nat_Add.calls (k : Nat) (A0_0 : Option Addr) (c0_0 : Nat) (l0_0 : List Int) (A1_0 : Option Addr) (c1_0 : Nat) (l1_0 : List Int) (r : List Int) (w : World) (hr0_0 : Kd.C (Kd.int .u32) w A0_0 l0_0.length l0_0) (hc0_0 : l0_0.length ≤ c0_0) (hr1_0 : Kd.C (Kd.int .u32) w A1_0 l1_0.length l1_0) (hc1_0 : l1_0.length ≤ c1_0) (h : nat_Nat_Add.f k l0_0 l1_0 = some r) :
    Calls Try.prog 60 #[.agg #[.slice A0_0 l0_0.length c0_0], .agg #[.slice A1_0 l1_0.length c1_0]] w fun e w' => ∃ v0_ : Value, e = .returned (.agg #[v0_]) ∧ Kd.V (Kd.int .u32) 23 w' w.heap.size (fun k_ => (w.heap.size ≤ k_)) v0_ r ∧ Below w.heap.size w w' := by
  unfold nat_Nat_Add.f at h
  split at h
  case isFalse => cases h
  case isTrue hc =>
    simp only [Bool.and_eq_true, decide_eq_true_eq] at hc
    obtain ⟨⟨⟨q0, q1⟩, n0⟩, n1⟩ := hc
    obtain rfl := Option.some.inj h
    have s0 : Sized l0_0 := canonB_sized q0
    have s1 : Sized l1_0 := canonB_sized q1
    by_cases hlt : l0_0.length < l1_0.length
    · obtain ⟨k2, hk⟩ := Ev.rounds (add_ev l1_0 l0_0 s1 s0 n1 (Nat.le_of_lt hlt))
      rw [Nat.add_comm] at hk
      exact nat_Nat_Add.calls_s true k2 A1_0 c1_0 l1_0 A0_0 c0_0 l0_0 _ w hr1_0 hc1_0 hr0_0 hc0_0 n1 (Nat.le_of_lt hlt) (fun _ => hlt) hk
    · obtain ⟨k2, hk⟩ := Ev.rounds (add_ev l0_0 l1_0 s0 s1 n0 (Nat.not_lt.1 hlt))
      exact nat_Nat_Add.calls_s false k2 A0_0 c0_0 l0_0 A1_0 c1_0 l1_0 _ w hr0_0 hc0_0 hr1_0 hc1_0 n0 (Nat.not_lt.1 hlt) (fun e => by cases e) hk
end Go.Proofs.Yteejcpbngnojkaa.P
end
section
namespace Go.Proofs.Yteejcpbngnojkaa.P
open Go.RowKit Go.Proofs.YteejcpbngnojkaaW.PrintWords Go.Proofs.YteejcpbngnojkaaW.PrintLast Go.Proofs.YteejcpbngnojkaaW.PrintMore
attribute [local go_sem] max2_int min2_int max_two min_two max_three min_three max_four min_four
set_option linter.unusedVariables false
set_option linter.unusedSimpArgs false
mutual
def nat_Nat_Mul.l0 : Nat → List Int → List Int → Int → Int → List Int → Option (List Int)
 |0,_,_,_,_,_ => none
 |k + 1,x5,x20,x21,x22,x565000 => if x22 < x21 then (if 0 ≤ x22 then (if x22 < (x20.length : Int) then (nat_Nat_Mul.l1 k x5 x22 (rd x20 x22) 0 x20 x21 x22 x565000 (x565000.length : Int) 0 x565000) else (none)) else (none)) else ((nat_trim.f k x5).bind fun t569 => (some t569))
def nat_Nat_Mul.l1 : Nat → List Int → Int → Int → Int → List Int → Int → Int → List Int → Int → Int → List Int → Option (List Int)
 |0,_,_,_,_,_,_,_,_,_,_,_ => none
 |k + 1,x5,x6,x7,x8,x20,x21,x22,x28,x29,x30,x565000 => if x30 < x29 then (if 0 ≤ x30 then (if x30 < (x28.length : Int) then (if 0 ≤ (wrap64 (x6 + x30)) then (if (wrap64 (x6 + x30)) < (x5.length : Int) then (nat_Nat_Mul.l1 k (x5.set ((wrap64 (x6 + x30)) : Int).toNat ((IntKind.u64.wrap (x8 + (IntKind.u64.wrap ((IntKind.u64.wrap ((IntKind.u64.wrap (x7)) * (IntKind.u64.wrap (rd x28 x30)))) + (IntKind.u64.wrap (rd x5 (wrap64 (x6 + x30)))))))) % 4294967296)) x6 x7 ((IntKind.u64.wrap (x8 + (IntKind.u64.wrap ((IntKind.u64.wrap ((IntKind.u64.wrap (x7)) * (IntKind.u64.wrap (rd x28 x30)))) + (IntKind.u64.wrap (rd x5 (wrap64 (x6 + x30)))))))) / 4294967296) x20 x21 x22 x28 x29 (wrap64 (x30 + 1)) x565000) else (none)) else (none)) else (none)) else (none)) else (if 0 ≤ (wrap64 (x6 + (x565000.length : Int))) then (if (wrap64 (x6 + (x565000.length : Int))) < (x5.length : Int) then (nat_Nat_Mul.l0 k (x5.set ((wrap64 (x6 + (x565000.length : Int))) : Int).toNat ((x8) % 4294967296)) x20 x21 (wrap64 (x22 + 1)) x565000) else (none)) else (none))
end
def nat_Nat_Mul.f (k : Nat) (l0_0 : List Int) (l1_0 : List Int) : Option (List Int):=if 0 ≤ (wrap64 ((l0_0.length : Int) + (l1_0.length : Int))) then (if (wrap64 ((l0_0.length : Int) + (l1_0.length : Int)) : Int).toNat ≤ 70368744177664 then (nat_Nat_Mul.l0 k (List.replicate (wrap64 ((l0_0.length : Int) + (l1_0.length : Int)) : Int).toNat 0) l0_0 (l0_0.length : Int) 0 l1_0) else (none)) else (none)
theorem nat_Nat_Mul.mono_l : ∀ k,(∀ y0 y1 y2 y3 y4,LeO (nat_Nat_Mul.l0 k y0 y1 y2 y3 y4) (nat_Nat_Mul.l0 (k + 1) y0 y1 y2 y3 y4)) ∧ (∀ y0 y1 y2 y3 y4 y5 y6 y7 y8 y9 y10,LeO (nat_Nat_Mul.l1 k y0 y1 y2 y3 y4 y5 y6 y7 y8 y9 y10) (nat_Nat_Mul.l1 (k + 1) y0 y1 y2 y3 y4 y5 y6 y7 y8 y9 y10))
 |0 => ⟨fun _ _ _ _ _ r h => by simp [nat_Nat_Mul.l0] at h,fun _ _ _ _ _ _ _ _ _ _ _ r h => by simp [nat_Nat_Mul.l1] at h⟩
 |k + 1 => by
  obtain ⟨ih0,ih1⟩:=nat_Nat_Mul.mono_l k
  refine ⟨?_,?_⟩
  ·intro y0 y1 y2 y3 y4
   unfold nat_Nat_Mul.l0
   repeat' first
   |(with_reducible exact ih0 _ _ _ _ _)
   |(with_reducible exact ih1 _ _ _ _ _ _ _ _ _ _ _)
   |(with_reducible exact nat_trim.mono _ _)
   |(with_reducible exact LeO.refl _)
   |(with_reducible exact LeO.none _)
   |(with_reducible refine LeO.ite ?_ ?_)
   |(with_reducible refine LeO.bind ?_ (fun _ => ?_))
   |exact ih0 _ _ _ _ _
   |exact ih1 _ _ _ _ _ _ _ _ _ _ _
   |exact nat_trim.mono _ _
   |exact LeO.none _
   |refine LeO.ite ?_ ?_
   |refine LeO.bind ?_ (fun _ => ?_)
  ·intro y0 y1 y2 y3 y4 y5 y6 y7 y8 y9 y10
   unfold nat_Nat_Mul.l1
   repeat' first
   |(with_reducible exact ih0 _ _ _ _ _)
   |(with_reducible exact ih1 _ _ _ _ _ _ _ _ _ _ _)
   |(with_reducible exact nat_trim.mono _ _)
   |(with_reducible exact LeO.refl _)
   |(with_reducible exact LeO.none _)
   |(with_reducible refine LeO.ite ?_ ?_)
   |(with_reducible refine LeO.bind ?_ (fun _ => ?_))
   |exact ih0 _ _ _ _ _
   |exact ih1 _ _ _ _ _ _ _ _ _ _ _
   |exact nat_trim.mono _ _
   |exact LeO.none _
   |refine LeO.ite ?_ ?_
   |refine LeO.bind ?_ (fun _ => ?_)
theorem nat_Nat_Mul.mono : ∀ a0 a1 k,LeO (nat_Nat_Mul.f k a0 a1) (nat_Nat_Mul.f (k + 1) a0 a1):=by
 intro a0 a1 k
 obtain ⟨ih0,ih1⟩:=nat_Nat_Mul.mono_l k
 unfold nat_Nat_Mul.f
 repeat' first
   |(with_reducible exact ih0 _ _ _ _ _)
   |(with_reducible exact ih1 _ _ _ _ _ _ _ _ _ _ _)
   |(with_reducible exact nat_trim.mono _ _)
   |(with_reducible exact LeO.refl _)
   |(with_reducible exact LeO.none _)
   |(with_reducible refine LeO.ite ?_ ?_)
   |(with_reducible refine LeO.bind ?_ (fun _ => ?_))
   |exact ih0 _ _ _ _ _
   |exact ih1 _ _ _ _ _ _ _ _ _ _ _
   |exact nat_trim.mono _ _
   |exact LeO.none _
   |refine LeO.ite ?_ ?_
   |refine LeO.bind ?_ (fun _ => ?_)
set_option maxHeartbeats 8000000 in
set_option maxRecDepth 100000 in
theorem nat_Nat_Mul.calls (k : Nat) (A0_0 : Option Addr) (c0_0 : Nat) (l0_0 : List Int) (A1_0 : Option Addr) (c1_0 : Nat) (l1_0 : List Int) (r : List Int) (w : World) (hr0_0 : Kd.C (Kd.int .u32) w A0_0 l0_0.length l0_0) (hc0_0 : l0_0.length ≤ c0_0) (hr1_0 : Kd.C (Kd.int .u32) w A1_0 l1_0.length l1_0) (hc1_0 : l1_0.length ≤ c1_0) (h : nat_Nat_Mul.f k l0_0 l1_0 = some r) :
  Calls Try.prog 57 #[.agg #[.slice A0_0 l0_0.length c0_0],.agg #[.slice A1_0 l1_0.length c1_0]] w fun e w' => ∃ v0_ : Value,e = .returned (.agg #[v0_]) ∧ Kd.V (Kd.int .u32) 23 w' w.heap.size (fun k_ => (w.heap.size ≤ k_)) v0_ r ∧ Below w.heap.size w w':=by
 have hu38:=Try.underlying38
 have HR0_0:=Aside0.mk hr0_0
 have HC0_0:=Aside0.mk hc0_0
 clear hr0_0 hc0_0
 have HR1_0:=Aside0.mk hr1_0
 have HC1_0:=Aside0.mk hc1_0
 clear hr1_0 hc1_0
 have HB:=Aside0.mk (Below.refl w.heap.size w)
 have H : (if 0 ≤ (wrap64 ((l0_0.length : Int) + (l1_0.length : Int))) then (if (wrap64 ((l0_0.length : Int) + (l1_0.length : Int)) : Int).toNat ≤ 70368744177664 then (nat_Nat_Mul.l0 k (List.replicate (wrap64 ((l0_0.length : Int) + (l1_0.length : Int)) : Int).toNat 0) l0_0 (l0_0.length : Int) 0 l1_0) else (none)) else (none)) = some r:=h
 clear h
 obtain ⟨ji3,hji3⟩ : ∃ j_ : Int,(wrap64 ((l0_0.length : Int) + (l1_0.length : Int))) = j_:=⟨_,rfl⟩
 (first|rw [hji3] at H|simp only [hji3] at H)
 have hji3w : (IntKind.i64.wrap ((l0_0.length : Int) + (l1_0.length : Int))) = ji3:=(i64_w _).trans hji3
 by_cases c4 : 0 ≤ (ji3)
 ·rw [if_pos c4] at H
  have c4b0:=eq_true c4
  have c4b1 : decide (0 ≤ (ji3)) = true:=decide_eq_true c4
  clear c4
  by_cases c5 : (ji3 : Int).toNat ≤ 70368744177664
  ·rw [if_pos c5] at H
   have c5b0:=eq_true c5
   have c5b1 : decide ((ji3 : Int).toNat ≤ 70368744177664) = true:=decide_eq_true c5
   clear c5
   obtain ⟨y566,hy566⟩ : ∃ y_ : List Int,y_ = (List.replicate (ji3 : Int).toNat 0):=⟨_,rfl⟩
   replace H : (nat_Nat_Mul.l0 k y566 l0_0 (l0_0.length : Int) 0 l1_0) = some r:=by first|(rw [hy566];with_reducible exact H)|(have H2_:=(Option.bind_some _ _).symm.trans H;rw [hy566];with_reducible exact H2_)|(have H2_:=(Option.bind_some _ _).symm.trans H;with_reducible exact H2_)|with_reducible exact H|(rw [hy566];exact H)|exact H
   have Ny566:=Aside0.mk hy566
   clear hy566
   have H':=Aside0.mk H
   clear H
   go_enter Try.func57,Try.ntmps57
   go_wp2_with (first|((with_reducible refine gate_dst (N:=2) rfl ?_);refine qX #[.slice A0_0 l0_0.length c0_0] 38 ?_;intro gb563 hg w6 hbox hb;have BK563:=Aside0.mk hbox;have GE563:=qh hg HB;replace HB:=qs HB hb;clear hb hbox hg)|((with_reducible refine gate_dst (N:=3) rfl ?_);refine qX #[.slice A1_0 l1_0.length c1_0] 38 ?_;intro gb564 hg w7 hbox hb;have BK564:=Aside0.mk hbox;have GE564:=qh hg HB;replace HB:=qs HB hb;have NB563_564:=ql hg BK563;have NB564_563:=qg hg BK563;replace BK563:=qb BK563 hb;clear hb hbox hg)|((with_reducible refine gate_dst (N:=4) rfl ?_);refine qX #[.slice none 0 0] 38 ?_;intro gb565 hg w8 hbox hb;have BK565:=Aside0.mk hbox;have GE565:=qh hg HB;replace HB:=qs HB hb;have NB563_565:=ql hg BK563;have NB565_563:=qg hg BK563;replace BK563:=qb BK563 hb;have NB564_565:=ql hg BK564;have NB565_564:=qg hg BK564;replace BK564:=qb BK564 hb;clear hb hbox hg;have hnb9:=NB563_564.out;have hnc9:=NB564_563.out;have hnb10:=NB563_565.out;have hnc10:=NB565_563.out;have hcz11_0:=bc BK563;have hfz11_0:=bz BK563;have hnb12:=NB564_565.out;have hnc12:=NB565_564.out;have hcz13_0:=bc BK564;have hfz13_0:=bz BK564)|((with_reducible refine gate_dst (N:=18) rfl ?_);refine Kd.R_make (Kd.int .u32) _ 23 rfl (N:=18) rfl 36 _ _ rfl ji3 rfl rfl Try.underlying36 (.int .u32 0) 4 info23 rfl (by decide) (by omega) 0 (ok:=fun _ => True) (okp:=fun _ => True) rfl (fun _ hk => hk) trivial (od) (Nat.le_trans (Nat.mul_le_mul_right _ (od : ji3.toNat ≤ 70368744177664)) (by omega)) (Below.refl _ _) (Nat.le_refl _) ?_;intro v567 w14 ho15 hb hg_ hnew_;clear hg_ hnew_;(first|rw [← Ny566.out] at ho15|(simp only [Int.reduceToNat] at ho15;rw [← Ny566.out] at ho15));have HO568:=Aside0.mk (Kd.R_lower (Kd.R_newM (M:=fun k_ => (w.heap.size ≤ k_)) ho15 (below_size (qS HB)) (fun k_ h_ => h_)) (below_size (qS HB)));replace BK563:=qb BK563 hb;replace BK564:=qb BK564 hb;replace BK565:=qb BK565 hb;replace HB:=qs HB hb;clear hb ho15;have hcz16_0:=bc BK563;have hfz16_0:=bz BK563))
   go_loopg [22] k (fun kq v22 w' => ∃ (x5_1 : List Int) (x22_1 : Int),v22 = .int .i64 x22_1 ∧ Aside0 (nat_Nat_Mul.l0 kq x5_1 l0_0 (l0_0.length : Int) x22_1 l1_0 = some r) ∧ Aside0 (kq ≤ k) ∧ Aside0 (Kd.R (Kd.int .u32) 23 w' w.heap.size (fun k_ => (w.heap.size ≤ k_)) v567 x5_1) ∧ Aside0 (w'.heap[gb563]? = some (.cells #[(.slice A0_0 l0_0.length c0_0)] 38 (0,0))) ∧ Aside0 (w'.heap[gb564]? = some (.cells #[(.slice A1_0 l1_0.length c1_0)] 38 (0,0))) ∧ Aside0 (w'.heap[gb565]? = some (.cells #[(.slice none 0 0)] 38 (0,0))) ∧ Aside0 (Below w.heap.size w w'))
   case atStart => exact ⟨(y566),(0),(by first|rfl|(simp;done)|(simp [*];done)),H',⟨Nat.le_refl _⟩,⟨qRm HO568⟩,⟨qB BK563.out⟩,⟨qB BK564.out⟩,⟨qB BK565.out⟩,⟨qS HB⟩⟩
   case round =>
    clear H'
    try clear c1
    try clear p2
    try clear c4
    try clear c4b0
    try clear c4b1
    try clear c5
    try clear c5b0
    try clear c5b1
    try clear p6
    try clear c9
    try clear c10
    try clear c12
    try clear hcz11_0
    try clear hcz13_0
    try clear hcz16_0
    try clear hfz11_0
    try clear hfz13_0
    try clear hfz16_0
    obtain ⟨x5_1,x22_1,rfl,HA,HK1,HO_5,BK563,BK564,BK565,HB⟩:=hrel
    cases gk with
    |zero => exact absurd HA.out (by simp [nat_Nat_Mul.l0])
    |succ k1 =>
     have H:=HA.out
     clear HA
     simp only [nat_Nat_Mul.l0] at H
     by_cases c17 : x22_1 < (l0_0.length : Int)
     ·rw [if_pos c17] at H
      have c17b0 : decide (x22_1 < (l0_0.length : Int)) = true:=decide_eq_true c17
      clear c17
      by_cases c18 : 0 ≤ x22_1
      ·rw [if_pos c18] at H
       have c18b0 : decide (0 ≤ x22_1) = true:=decide_eq_true c18
       clear c18
       by_cases c19 : x22_1 < (l0_0.length : Int)
       ·rw [if_pos c19] at H
        have c19b0 : decide (x22_1 < (l0_0.length : Int)) = true:=decide_eq_true c19
        clear c19
        have H':=Aside0.mk H
        clear H
        have p572 : 0 ≤ (x22_1 : Int):=od
        have q572 : x22_1 < (l0_0.length : Int):=od
        obtain ⟨ad572,e572,hx572_0⟩:=Kd.at_int HR0_0.out x22_1 p572 q572
        cases e572
        replace hx572_0:=(HB.out.cell (World.block_lt_of_cell? w _ hx572_0)).trans hx572_0
        replace p572:=eq_true p572
        replace q572:=eq_true q572
        have hnb20:=NB564_563.out
        have hnc20:=NB563_564.out
        have hnb21:=NB564_565.out
        have hnc21:=NB565_564.out
        have hcz22_0 : wr.cell? ⟨gb564,0,none⟩ = some (.slice A1_0 l1_0.length c1_0):=bc BK564
        have hfz22_0:=bz BK564
        go_wp2
        go_loopg [8,30] k1 (fun kq v8 v30 w' => ∃ (x5_2 : List Int) (x8_2 : Int) (x30_2 : Int),v8 = .int .u64 x8_2 ∧ v30 = .int .i64 x30_2 ∧ Aside0 (nat_Nat_Mul.l1 kq x5_2 x22_1 (rd l0_0 x22_1) x8_2 l0_0 (l0_0.length : Int) x22_1 l1_0 (l1_0.length : Int) x30_2 l1_0 = some r) ∧ Aside0 (kq ≤ k1) ∧ Aside0 (Kd.R (Kd.int .u32) 23 w' w.heap.size (fun k_ => (w.heap.size ≤ k_)) v567 x5_2) ∧ Aside0 (w'.heap[gb563]? = some (.cells #[(.slice (some ad572) l0_0.length c0_0)] 38 (0,0))) ∧ Aside0 (w'.heap[gb564]? = some (.cells #[(.slice A1_0 l1_0.length c1_0)] 38 (0,0))) ∧ Aside0 (w'.heap[gb565]? = some (.cells #[(.slice none 0 0)] 38 (0,0))) ∧ Aside0 (Below w.heap.size w w'))
        case atStart => exact ⟨(x5_1),(0),(0),(by first|rfl|(simp;done)|(simp [*];done)),(by first|rfl|(simp;done)|(simp [*];done)),H',⟨Nat.le_refl _⟩,⟨qRm HO_5⟩,⟨qB BK563.out⟩,⟨qB BK564.out⟩,⟨qB BK565.out⟩,⟨qS HB⟩⟩
        case round =>
         clear H'
         try clear c1
         try clear c2
         try clear p2
         try clear c4
         try clear c4b0
         try clear c4b1
         try clear c5
         try clear c5b0
         try clear c5b1
         try clear p5
         try clear q5
         try clear hx5
         try clear p6
         try clear c9
         try clear c10
         try clear c12
         try clear c17
         try clear c17b0
         try clear c18
         try clear c18b0
         try clear c19
         try clear c19b0
         try clear c20
         try clear c21
         try clear hcz11_0
         try clear hcz13_0
         try clear hcz16_0
         try clear hcz22_0
         try clear hfz11_0
         try clear hfz13_0
         try clear hfz16_0
         try clear hfz22_0
         try clear hx572_0
         try clear p2
         try clear p572
         try clear p6
         try clear q572
         obtain ⟨x5_2,x8_2,x30_2,rfl,rfl,HA,HK2,HO_5,BK563,BK564,BK565,HB⟩:=hrel
         cases gk with
         |zero => exact absurd HA.out (by simp [nat_Nat_Mul.l1])
         |succ k2 =>
          have H:=HA.out
          clear HA
          simp only [nat_Nat_Mul.l1] at H
          by_cases c23 : x30_2 < (l1_0.length : Int)
          ·rw [if_pos c23] at H
           have c23b0 : decide (x30_2 < (l1_0.length : Int)) = true:=decide_eq_true c23
           clear c23
           by_cases c24 : 0 ≤ x30_2
           ·rw [if_pos c24] at H
            have c24b0 : decide (0 ≤ x30_2) = true:=decide_eq_true c24
            clear c24
            by_cases c25 : x30_2 < (l1_0.length : Int)
            ·rw [if_pos c25] at H
             have c25b0 : decide (x30_2 < (l1_0.length : Int)) = true:=decide_eq_true c25
             clear c25
             obtain ⟨ji26,hji26⟩ : ∃ j_ : Int,(wrap64 (x22_1 + x30_2)) = j_:=⟨_,rfl⟩
             (first|rw [hji26] at H|simp only [hji26] at H)
             have hji26w : (IntKind.i64.wrap (x22_1 + x30_2)) = ji26:=(i64_w _).trans hji26
             by_cases c27 : 0 ≤ (ji26)
             ·rw [if_pos c27] at H
              have c27b0 : decide (0 ≤ (ji26)) = true:=decide_eq_true c27
              clear c27
              by_cases c28 : (ji26) < (x5_2.length : Int)
              ·rw [if_pos c28] at H
               have c28b0 : decide ((ji26) < (x5_2.length : Int)) = true:=decide_eq_true c28
               clear c28
               obtain ⟨y575,hy575⟩ : ∃ y_ : List Int,y_ = (x5_2.set ((ji26) : Int).toNat ((IntKind.u64.wrap (x8_2 + (IntKind.u64.wrap ((IntKind.u64.wrap ((IntKind.u64.wrap ((rd l0_0 x22_1))) * (IntKind.u64.wrap (rd l1_0 x30_2)))) + (IntKind.u64.wrap (rd x5_2 (ji26))))))) % 4294967296)):=⟨_,rfl⟩
               replace H : (nat_Nat_Mul.l1 k2 y575 x22_1 (rd l0_0 x22_1) ((IntKind.u64.wrap (x8_2 + (IntKind.u64.wrap ((IntKind.u64.wrap ((IntKind.u64.wrap ((rd l0_0 x22_1))) * (IntKind.u64.wrap (rd l1_0 x30_2)))) + (IntKind.u64.wrap (rd x5_2 (ji26))))))) / 4294967296) l0_0 (l0_0.length : Int) x22_1 l1_0 (l1_0.length : Int) (wrap64 (x30_2 + 1)) l1_0) = some r:=by first|(rw [hy575];with_reducible exact H)|(have H2_:=(Option.bind_some _ _).symm.trans H;rw [hy575];with_reducible exact H2_)|(have H2_:=(Option.bind_some _ _).symm.trans H;with_reducible exact H2_)|with_reducible exact H|(rw [hy575];exact H)|exact H
               have Ny575:=Aside0.mk hy575
               clear hy575
               have H':=Aside0.mk H
               clear H
               have p573 : 0 ≤ (x30_2 : Int):=od
               have q573 : x30_2 < (l1_0.length : Int):=od
               obtain ⟨ad573,e573,hx573_0⟩:=Kd.at_int HR1_0.out x30_2 p573 q573
               cases e573
               replace hx573_0:=(HB.out.cell (World.block_lt_of_cell? w _ hx573_0)).trans hx573_0
               replace p573:=eq_true p573
               replace q573:=eq_true q573
               obtain ⟨Ao30,co30,eo30⟩:=Kd.R_slice HO_5.out
               subst eo30
               have p574 : 0 ≤ ((ji26) : Int):=od
               have q574 : (ji26) < (x5_2.length : Int):=od
               obtain ⟨ad574,e574,hx574_0⟩:=Kd.at_int (Kd.R_reads' HO_5.out).2.2 (ji26) p574 q574
               cases e574
               replace p574:=eq_true p574
               replace q574:=eq_true q574
               have p29 : 0 ≤ ((ji26) : Int):=od
               have q29 : ((ji26) : Int) < ((x5_2.length : Int) : Int):=od
               obtain ⟨go29,co29,eo29,gb29,gl29,cl29,HG29⟩:=Kd.R_form HO_5.out (by omega)
               (first|cases eo29|(injection eo29 with ea_ en_ ec_;(first|subst ea_|(injection ea_ with ea_;subst ea_));subst ec_;clear en_))
               have GB29:=Aside0.mk gb29
               have GG29:=Aside0.mk HG29
               clear gb29 gl29 HG29
               (first|simp only [add_plain] at hx574_0|skip)
               obtain ⟨hx29_0,hf29_0⟩:=Kd.R_celln 0 HO_5.out ((ji26) : Int) p29 q29
               replace p29:=eq_true p29
               replace q29:=eq_true q29
               have HP31:=Kd.R_putg HO_5.out ((ji26) : Int) ((IntKind.u64.wrap (x8_2 + (IntKind.u64.wrap ((IntKind.u64.wrap ((IntKind.u64.wrap ((rd l0_0 x22_1))) * (IntKind.u64.wrap (rd l1_0 x30_2)))) + (IntKind.u64.wrap (rd x5_2 (ji26))))))) % 4294967296)
               go_wp2_with (first|((with_reducible refine gate_store (t:=23) (p:=56) rfl ?_);refine qSt (wr.setCell ⟨go29,((ji26) : Int).toNat,none⟩ (.int .u32 ((IntKind.u64.wrap (x8_2 + (IntKind.u64.wrap ((IntKind.u64.wrap ((IntKind.u64.wrap ((rd l0_0 x22_1))) * (IntKind.u64.wrap (rd l1_0 x30_2)))) + (IntKind.u64.wrap (rd x5_2 (ji26))))))) % 4294967296))) ?_;intro w32 hw;have hg : wr.grownBy w32 (some go29):=(by rw [hw];exact HP31.2);have hp_ : Kd.R (Kd.int .u32) 23 w32 w.heap.size (fun k_ => (w.heap.size ≤ k_)) (.slice (some ⟨go29,0,none⟩) x5_2.length co30) y575:=(by rw [hw,Ny575.out];exact HP31.1);clear HP31;replace BK563:=Aside0.mk (blk_grown (g:=gb563) (o:=.cells #[.slice (some ad572) l0_0.length c0_0] 38 (0,0)) (qB BK563.out) hg (Kd.R_ne HO_5.out BK563.out (by decide)));replace BK564:=Aside0.mk (blk_grown (g:=gb564) (o:=.cells #[.slice (some ad573) l1_0.length c1_0] 38 (0,0)) (qB BK564.out) hg (Kd.R_ne HO_5.out BK564.out (by decide)));replace BK565:=Aside0.mk (blk_grown (g:=gb565) (o:=.cells #[.slice none 0 0] 38 (0,0)) (qB BK565.out) hg (Kd.R_ne HO_5.out BK565.out (by decide)));replace HO_5:=Aside0.mk (hp_);replace HB:=Aside0.mk ((by rw [hw];exact below_set (HB.out) GB29.out : Below w.heap.size w w32));clear hg hw hp_))
               go_roundg k2
               case measure => have:=HK1.out;have:=HK2.out;omega
               case rel => exact ⟨(y575),((IntKind.u64.wrap (x8_2 + (IntKind.u64.wrap ((IntKind.u64.wrap ((IntKind.u64.wrap ((rd l0_0 x22_1))) * (IntKind.u64.wrap (rd l1_0 x30_2)))) + (IntKind.u64.wrap (rd x5_2 (ji26))))))) / 4294967296),(wrap64 (x30_2 + 1)),(by first|rfl|(simp;done)|(simp only [← hji26] <;> (first|rfl|simp))|(simp [*];done)),(by first|rfl|(simp;done)|(simp [*];done)),H',⟨by have:=HK1.out;have:=HK2.out;omega⟩,⟨qRm HO_5⟩,⟨qB BK563.out⟩,⟨qB BK564.out⟩,⟨qB BK565.out⟩,⟨qS HB⟩⟩
              ·rw [if_neg c28] at H
               exact absurd H (by simp)
             ·rw [if_neg c27] at H
              exact absurd H (by simp)
            ·rw [if_neg c25] at H
             exact absurd H (by simp)
           ·rw [if_neg c24] at H
            exact absurd H (by simp)
          ·rw [if_neg c23] at H
           have c23b0 : decide (x30_2 < (l1_0.length : Int)) = false:=decide_eq_false c23
           clear c23
           obtain ⟨ji33,hji33⟩ : ∃ j_ : Int,(wrap64 (x22_1 + (l1_0.length : Int))) = j_:=⟨_,rfl⟩
           (first|rw [hji33] at H|simp only [hji33] at H)
           have hji33w : (IntKind.i64.wrap (x22_1 + (l1_0.length : Int))) = ji33:=(i64_w _).trans hji33
           by_cases c34 : 0 ≤ (ji33)
           ·rw [if_pos c34] at H
            have c34b0 : decide (0 ≤ (ji33)) = true:=decide_eq_true c34
            clear c34
            by_cases c35 : (ji33) < (x5_2.length : Int)
            ·rw [if_pos c35] at H
             have c35b0 : decide ((ji33) < (x5_2.length : Int)) = true:=decide_eq_true c35
             clear c35
             obtain ⟨y576,hy576⟩ : ∃ y_ : List Int,y_ = (x5_2.set ((ji33) : Int).toNat ((x8_2) % 4294967296)):=⟨_,rfl⟩
             replace H : (nat_Nat_Mul.l0 k2 y576 l0_0 (l0_0.length : Int) (wrap64 (x22_1 + 1)) l1_0) = some r:=by first|(rw [hy576];with_reducible exact H)|(have H2_:=(Option.bind_some _ _).symm.trans H;rw [hy576];with_reducible exact H2_)|(have H2_:=(Option.bind_some _ _).symm.trans H;with_reducible exact H2_)|with_reducible exact H|(rw [hy576];exact H)|exact H
             have Ny576:=Aside0.mk hy576
             clear hy576
             have H':=Aside0.mk H
             clear H
             have hnb37:=NB564_563.out
             have hnc37:=NB563_564.out
             have hnb38:=NB564_565.out
             have hnc38:=NB565_564.out
             have hcz39_0 : wr.cell? ⟨gb564,0,none⟩ = some (.slice A1_0 l1_0.length c1_0):=bc BK564
             have hfz39_0:=bz BK564
             have p36 : 0 ≤ ((ji33) : Int):=od
             have q36 : ((ji33) : Int) < ((x5_2.length : Int) : Int):=od
             obtain ⟨go36,co36,eo36,gb36,gl36,cl36,HG36⟩:=Kd.R_form HO_5.out (by omega)
             (first|cases eo36|(injection eo36 with ea_ en_ ec_;(first|subst ea_|(injection ea_ with ea_;subst ea_));subst ec_;clear en_))
             have GB36:=Aside0.mk gb36
             have GG36:=Aside0.mk HG36
             clear gb36 gl36 HG36
             obtain ⟨hx36_0,hf36_0⟩:=Kd.R_celln 0 HO_5.out ((ji33) : Int) p36 q36
             replace p36:=eq_true p36
             replace q36:=eq_true q36
             have HP40:=Kd.R_putg HO_5.out ((ji33) : Int) ((x8_2) % 4294967296)
             go_wp2_with (first|((with_reducible refine gate_store (t:=23) (p:=68) rfl ?_);refine qSt (wr.setCell ⟨go36,((ji33) : Int).toNat,none⟩ (.int .u32 ((x8_2) % 4294967296))) ?_;intro w41 hw;have hg : wr.grownBy w41 (some go36):=(by rw [hw];exact HP40.2);have hp_ : Kd.R (Kd.int .u32) 23 w41 w.heap.size (fun k_ => (w.heap.size ≤ k_)) (.slice (some ⟨go36,0,none⟩) x5_2.length co36) y576:=(by rw [hw,Ny576.out];exact HP40.1);clear HP40;replace BK563:=Aside0.mk (blk_grown (g:=gb563) (o:=.cells #[.slice (some ad572) l0_0.length c0_0] 38 (0,0)) (qB BK563.out) hg (Kd.R_ne HO_5.out BK563.out (by decide)));replace BK564:=Aside0.mk (blk_grown (g:=gb564) (o:=.cells #[.slice A1_0 l1_0.length c1_0] 38 (0,0)) (qB BK564.out) hg (Kd.R_ne HO_5.out BK564.out (by decide)));replace BK565:=Aside0.mk (blk_grown (g:=gb565) (o:=.cells #[.slice none 0 0] 38 (0,0)) (qB BK565.out) hg (Kd.R_ne HO_5.out BK565.out (by decide)));replace HO_5:=Aside0.mk (hp_);replace HB:=Aside0.mk ((by rw [hw];exact below_set (HB.out) GB36.out : Below w.heap.size w w41));clear hg hw hp_))
             go_roundg k2
             case measure => have:=HK1.out;have:=HK2.out;omega
             case rel => exact ⟨(y576),(wrap64 (x22_1 + 1)),(by first|rfl|(simp;done)|(simp [*];done)),H',⟨by have:=HK1.out;have:=HK2.out;omega⟩,⟨qRm HO_5⟩,⟨qB BK563.out⟩,⟨qB BK564.out⟩,⟨qB BK565.out⟩,⟨qS HB⟩⟩
            ·rw [if_neg c35] at H
             exact absurd H (by simp)
           ·rw [if_neg c34] at H
            exact absurd H (by simp)
       ·rw [if_neg c19] at H
        exact absurd H (by simp)
      ·rw [if_neg c18] at H
       exact absurd H (by simp)
     ·rw [if_neg c17] at H
      have c17b0 : decide (x22_1 < (l0_0.length : Int)) = false:=decide_eq_false c17
      clear c17
      obtain ⟨t569,A42,H⟩:=qH H
      obtain rfl:=Option.some.inj H
      obtain ⟨Ao43,co43,eo43⟩:=Kd.R_slice HO_5.out
      subst eo43
      go_wp2_with (first|((with_reducible refine gate_callee (f:=100) rfl ?_);refine gL (some 71) Try.func100 #[.slice Ao43 x5_1.length co43] ?_;(with_reducible refine (nat_trim.calls k1 (fun k_ => some k_ = (.slice Ao43 x5_1.length co43 : Value).ownBlock) _ _ x5_1 t569 _ ?side1 A42.out).mono ?_);(case side1 => exact Kd.R_V (Kd.R_tight rfl (Kd.R_types (Kd.R_types (Kd.R_types (HO_5.out) BK563.out (by decide)) BK564.out (by decide)) BK565.out (by decide))));rintro e w44 ⟨v570,rfl,ho0,hb⟩;refine ⟨_,rfl,?_⟩;have HO571:=Aside0.mk (Kd.V_lower (Kd.V_mono (ok':=fun k_ => (w.heap.size ≤ k_) ∧ k_ ≠ gb563 ∧ k_ ≠ gb564 ∧ k_ ≠ gb565) ho0 (fun k_ hk_ => ⟨Or.elim hk_ (fun hs_ => ((Kd.R_types (Kd.R_types (Kd.R_types (HO_5.out) BK563.out (by decide)) BK564.out (by decide)) BK565.out (by decide)).1 k_ hs_.symm).1.1.1) (fun hn_ => (Nat.le_trans (below_size (qS HB)) hn_)),Or.elim hk_ (fun hs_ => ((Kd.R_types (Kd.R_types (Kd.R_types (HO_5.out) BK563.out (by decide)) BK564.out (by decide)) BK565.out (by decide)).1 k_ hs_.symm).1.1.2) (fun hn_ => (Kd.freshB (qB BK563.out) k_ hn_)),Or.elim hk_ (fun hs_ => ((Kd.R_types (Kd.R_types (Kd.R_types (HO_5.out) BK563.out (by decide)) BK564.out (by decide)) BK565.out (by decide)).1 k_ hs_.symm).1.2) (fun hn_ => (Kd.freshB (qB BK564.out) k_ hn_)),Or.elim hk_ (fun hs_ => ((Kd.R_types (Kd.R_types (Kd.R_types (HO_5.out) BK563.out (by decide)) BK564.out (by decide)) BK565.out (by decide)).1 k_ hs_.symm).2) (fun hn_ => (Kd.freshB (qB BK565.out) k_ hn_))⟩)) (below_size (qS HB)));replace HO_5:=qRb HO_5 hb;replace BK563:=qb BK563 hb;replace BK564:=qb BK564 hb;replace BK565:=qb BK565 hb;replace HB:=qs HB hb;clear hb ho0;obtain ⟨Ao45,co45,eo45⟩:=Kd.V_slice HO571.out;subst eo45;have hnb46:=NB565_563.out;have hnc46:=NB563_565.out;have hnb47:=NB565_564.out;have hnc47:=NB564_565.out;have hcz48_0:=bc BK565;have hfz48_0:=bz BK565))
      refine bodyPost_ret (results_cell_row rfl _ _ gb565 38 #[.slice Ao45 t569.length co45] (0,0) _ rfl (by (with_reducible repeat (first|refine blk_drewN ?_ _|refine blk_drew ?_|refine blk_alloc ?_ _));refine blk_put (cs:=#[.slice none 0 0]) ?_ 0 _ rfl;(with_reducible repeat (first|refine blk_drewN ?_ _|refine blk_drew ?_|refine blk_alloc ?_ _));exact BK565.out) Try.underlying38 rfl (by kernel_rfl)) rfl ?_
      exact ⟨_,by first|rfl|(simp [errW_none,errW_some] <;> rfl)|(simp only [← hji3];first|rfl|(simp [errW_none,errW_some] <;> rfl))|(simp [*,errW_none,errW_some] <;> rfl),qVm HO571,qS HB⟩
  ·rw [if_neg c5] at H
   exact absurd H (by simp)
 ·rw [if_neg c4] at H
  exact absurd H (by simp)
end Go.Proofs.Yteejcpbngnojkaa.P
end
section
namespace Go.Proofs.Yteejcpbngnojkaa.P
open Go.RowKit Go.Proofs.YteejcpbngnojkaaW.PrintWords Go.Proofs.YteejcpbngnojkaaW.PrintLast Go.Proofs.YteejcpbngnojkaaW.PrintMore
attribute [local go_sem] max2_int min2_int max_two min_two max_three min_three max_four min_four
set_option linter.unusedVariables false
set_option linter.unusedSimpArgs false
def nat_Nat_Sub.l0 : Nat → List Int → Int → List Int → Int → Int → List Int → Option (List Int × Bool)
 |0,_,_,_,_,_,_ => none
 |k + 1,x6,x7,x21,x22,x23,x584000 => if x23 < x22 then (if 0 ≤ x23 then (if x23 < (x21.length : Int) then (if x23 < (x584000.length : Int) then (if (wrap64 ((wrap64 ((wrap64 (rd x21 x23)) - x7)) - (wrap64 (rd x584000 x23)))) < 0 then (if x23 < (x6.length : Int) then (nat_Nat_Sub.l0 k (x6.set (x23 : Int).toNat ((wrap64 ((wrap64 ((wrap64 ((wrap64 (rd x21 x23)) - x7)) - (wrap64 (rd x584000 x23)))) + 4294967296)) % 4294967296)) 1 x21 x22 (wrap64 (x23 + 1)) x584000) else (none)) else (if x23 < (x6.length : Int) then (nat_Nat_Sub.l0 k (x6.set (x23 : Int).toNat ((wrap64 ((wrap64 ((wrap64 (rd x21 x23)) - x7)) - (wrap64 (rd x584000 x23)))) % 4294967296)) 0 x21 x22 (wrap64 (x23 + 1)) x584000) else (none))) else (if (wrap64 ((wrap64 (rd x21 x23)) - x7)) < 0 then (if x23 < (x6.length : Int) then (nat_Nat_Sub.l0 k (x6.set (x23 : Int).toNat ((wrap64 ((wrap64 ((wrap64 (rd x21 x23)) - x7)) + 4294967296)) % 4294967296)) 1 x21 x22 (wrap64 (x23 + 1)) x584000) else (none)) else (if x23 < (x6.length : Int) then (nat_Nat_Sub.l0 k (x6.set (x23 : Int).toNat ((wrap64 ((wrap64 (rd x21 x23)) - x7)) % 4294967296)) 0 x21 x22 (wrap64 (x23 + 1)) x584000) else (none)))) else (none)) else (none)) else ((nat_trim.f k x6).bind fun t589 => (some (t589,true)))
def nat_Nat_Sub.f (k : Nat) (l0_0 : List Int) (l1_0 : List Int) : Option (List Int × Bool):=(nat_Nat_Cmp.f k l0_0 l1_0).bind fun t585 => (if t585 < 0 then (some (([] : List Int),false)) else (if 0 ≤ (l0_0.length : Int) then (if ((l0_0.length : Int) : Int).toNat ≤ 70368744177664 then (nat_Nat_Sub.l0 k (List.replicate ((l0_0.length : Int) : Int).toNat 0) 0 l0_0 (l0_0.length : Int) 0 l1_0) else (none)) else (none)))
theorem nat_Nat_Sub.mono_l : ∀ k,(∀ y0 y1 y2 y3 y4 y5,LeO (nat_Nat_Sub.l0 k y0 y1 y2 y3 y4 y5) (nat_Nat_Sub.l0 (k + 1) y0 y1 y2 y3 y4 y5))
 |0 => fun _ _ _ _ _ _ r h => by simp [nat_Nat_Sub.l0] at h
 |k + 1 => by
  have ih0:=nat_Nat_Sub.mono_l k
  ·intro y0 y1 y2 y3 y4 y5
   unfold nat_Nat_Sub.l0
   repeat' first
   |(with_reducible exact ih0 _ _ _ _ _ _)
   |(with_reducible exact nat_Nat_Cmp.mono _ _ _)
   |(with_reducible exact nat_trim.mono _ _)
   |(with_reducible exact LeO.refl _)
   |(with_reducible exact LeO.none _)
   |(with_reducible refine LeO.ite ?_ ?_)
   |(with_reducible refine LeO.bind ?_ (fun _ => ?_))
   |exact ih0 _ _ _ _ _ _
   |exact nat_Nat_Cmp.mono _ _ _
   |exact nat_trim.mono _ _
   |exact LeO.none _
   |refine LeO.ite ?_ ?_
   |refine LeO.bind ?_ (fun _ => ?_)
theorem nat_Nat_Sub.mono : ∀ a0 a1 k,LeO (nat_Nat_Sub.f k a0 a1) (nat_Nat_Sub.f (k + 1) a0 a1):=by
 intro a0 a1 k
 have ih0:=nat_Nat_Sub.mono_l k
 unfold nat_Nat_Sub.f
 repeat' first
   |(with_reducible exact ih0 _ _ _ _ _ _)
   |(with_reducible exact nat_Nat_Cmp.mono _ _ _)
   |(with_reducible exact nat_trim.mono _ _)
   |(with_reducible exact LeO.refl _)
   |(with_reducible exact LeO.none _)
   |(with_reducible refine LeO.ite ?_ ?_)
   |(with_reducible refine LeO.bind ?_ (fun _ => ?_))
   |exact ih0 _ _ _ _ _ _
   |exact nat_Nat_Cmp.mono _ _ _
   |exact nat_trim.mono _ _
   |exact LeO.none _
   |refine LeO.ite ?_ ?_
   |refine LeO.bind ?_ (fun _ => ?_)
set_option maxHeartbeats 8000000 in
set_option maxRecDepth 100000 in
theorem nat_Nat_Sub.calls (k : Nat) (A0_0 : Option Addr) (c0_0 : Nat) (l0_0 : List Int) (A1_0 : Option Addr) (c1_0 : Nat) (l1_0 : List Int) (r1 : List Int) (r2 : Bool) (w : World) (hr0_0 : Kd.C (Kd.int .u32) w A0_0 l0_0.length l0_0) (hc0_0 : l0_0.length ≤ c0_0) (hr1_0 : Kd.C (Kd.int .u32) w A1_0 l1_0.length l1_0) (hc1_0 : l1_0.length ≤ c1_0) (h : nat_Nat_Sub.f k l0_0 l1_0 = some (r1,r2)) :
  Calls Try.prog 62 #[.agg #[.slice A0_0 l0_0.length c0_0],.agg #[.slice A1_0 l1_0.length c1_0]] w fun e w' => ∃ v0_ : Value,e = .returned (.tuple #[.agg #[v0_],.bool r2]) ∧ Kd.V (Kd.int .u32) 23 w' w.heap.size (fun k_ => (w.heap.size ≤ k_)) v0_ r1 ∧ Below w.heap.size w w':=by
 have hu38:=Try.underlying38
 have HR0_0:=Aside0.mk hr0_0
 have HC0_0:=Aside0.mk hc0_0
 clear hr0_0 hc0_0
 have HR1_0:=Aside0.mk hr1_0
 have HC1_0:=Aside0.mk hc1_0
 clear hr1_0 hc1_0
 have HB:=Aside0.mk (Below.refl w.heap.size w)
 have H : ((nat_Nat_Cmp.f k l0_0 l1_0).bind fun t585 => (if t585 < 0 then (some (([] : List Int),false)) else (if 0 ≤ (l0_0.length : Int) then (if ((l0_0.length : Int) : Int).toNat ≤ 70368744177664 then (nat_Nat_Sub.l0 k (List.replicate ((l0_0.length : Int) : Int).toNat 0) 0 l0_0 (l0_0.length : Int) 0 l1_0) else (none)) else (none)))) = some (r1,r2):=h
 clear h
 obtain ⟨t585,A3,H⟩:=qH H
 by_cases c4 : t585 < 0
 ·rw [if_pos c4] at H
  have c4b0 : decide (t585 < 0) = true:=decide_eq_true c4
  clear c4
  simp only [Option.some.injEq,Prod.mk.injEq] at H
  obtain ⟨rfl,rfl⟩:=H
  go_enter Try.func62,Try.ntmps62
  go_wp2_with (first|((with_reducible refine gate_dst (N:=2) rfl ?_);refine qX #[.slice A0_0 l0_0.length c0_0] 38 ?_;intro gb582 hg w5 hbox hb;have BK582:=Aside0.mk hbox;have GE582:=qh hg HB;replace HB:=qs HB hb;clear hb hbox hg)|((with_reducible refine gate_dst (N:=3) rfl ?_);refine qX #[.slice A1_0 l1_0.length c1_0] 38 ?_;intro gb583 hg w6 hbox hb;have BK583:=Aside0.mk hbox;have GE583:=qh hg HB;replace HB:=qs HB hb;have NB582_583:=ql hg BK582;have NB583_582:=qg hg BK582;replace BK582:=qb BK582 hb;clear hb hbox hg)|((with_reducible refine gate_dst (N:=4) rfl ?_);refine qX #[.slice none 0 0] 38 ?_;intro gb584 hg w7 hbox hb;have BK584:=Aside0.mk hbox;have GE584:=qh hg HB;replace HB:=qs HB hb;have NB582_584:=ql hg BK582;have NB584_582:=qg hg BK582;replace BK582:=qb BK582 hb;have NB583_584:=ql hg BK583;have NB584_583:=qg hg BK583;replace BK583:=qb BK583 hb;clear hb hbox hg;have hnb8:=NB582_583.out;have hnc8:=NB583_582.out;have hnb9:=NB582_584.out;have hnc9:=NB584_582.out;have hcz10_0:=bc BK582;have hfz10_0:=bz BK582;have hnb11:=NB583_584.out;have hnc11:=NB584_583.out;have hcz12_0:=bc BK583;have hfz12_0:=bz BK583)|((with_reducible refine gate_callee (f:=45) rfl ?_);refine gL (some 13) Try.func45 #[.agg #[.slice A0_0 l0_0.length c0_0],.agg #[.slice A1_0 l1_0.length c1_0]] ?_;(with_reducible refine (nat_Nat_Cmp.calls k _ _ l0_0 _ _ l1_0 t585 _ ?side1 ?side2 ?side3 ?side4 A3.out).mono ?_);(case side1 => exact qCB HR0_0 HB);(case side2 => exact HC0_0.out);(case side3 => exact qCB HR1_0 HB);(case side4 => exact HC1_0.out);rintro e w13 ⟨rfl,hb⟩;refine ⟨_,rfl,?_⟩;replace BK582:=qb BK582 hb;replace BK583:=qb BK583 hb;replace BK584:=qb BK584 hb;replace HB:=qs HB hb;clear hb;have hcz14_0:=bc BK584;have hfz14_0:=bz BK584))
  refine bodyPost_ret (results_ct rfl _ _ gb584 38 #[.slice none 0 0] (0,0) _ rfl (by (with_reducible repeat (first|refine blk_drewN ?_ _|refine blk_drew ?_|refine blk_alloc ?_ _));refine blk_put (cs:=#[.slice none 0 0]) ?_ 0 _ rfl;(with_reducible repeat (first|refine blk_drewN ?_ _|refine blk_drew ?_|refine blk_alloc ?_ _));exact BK584.out) Try.underlying38 rfl (by kernel_rfl)) rfl ?_
  exact ⟨_,by first|rfl|(simp [errW_none,errW_some] <;> rfl)|(simp [*,errW_none,errW_some] <;> rfl),Kd.V_nil _ _ _ _ _,qS HB⟩
 ·rw [if_neg c4] at H
  have c4b0 : decide (t585 < 0) = false:=decide_eq_false c4
  clear c4
  by_cases c15 : 0 ≤ (l0_0.length : Int)
  ·rw [if_pos c15] at H
   have c15b0:=eq_true c15
   have c15b1 : decide (0 ≤ (l0_0.length : Int)) = true:=decide_eq_true c15
   clear c15
   by_cases c16 : ((l0_0.length : Int) : Int).toNat ≤ 70368744177664
   ·rw [if_pos c16] at H
    have c16b0:=eq_true c16
    have c16b1 : decide (((l0_0.length : Int) : Int).toNat ≤ 70368744177664) = true:=decide_eq_true c16
    clear c16
    obtain ⟨y586,hy586⟩ : ∃ y_ : List Int,y_ = (List.replicate ((l0_0.length : Int) : Int).toNat 0):=⟨_,rfl⟩
    replace H : (nat_Nat_Sub.l0 k y586 0 l0_0 (l0_0.length : Int) 0 l1_0) = some (r1,r2):=by first|(rw [hy586];with_reducible exact H)|(have H2_:=(Option.bind_some _ _).symm.trans H;rw [hy586];with_reducible exact H2_)|(have H2_:=(Option.bind_some _ _).symm.trans H;with_reducible exact H2_)|with_reducible exact H|(rw [hy586];exact H)|exact H
    have Ny586:=Aside0.mk hy586
    clear hy586
    have H':=Aside0.mk H
    clear H
    go_enter Try.func62,Try.ntmps62
    go_wp2_with (first|((with_reducible refine gate_dst (N:=2) rfl ?_);refine qX #[.slice A0_0 l0_0.length c0_0] 38 ?_;intro gb582 hg w17 hbox hb;have BK582:=Aside0.mk hbox;have GE582:=qh hg HB;replace HB:=qs HB hb;clear hb hbox hg)|((with_reducible refine gate_dst (N:=3) rfl ?_);refine qX #[.slice A1_0 l1_0.length c1_0] 38 ?_;intro gb583 hg w18 hbox hb;have BK583:=Aside0.mk hbox;have GE583:=qh hg HB;replace HB:=qs HB hb;have NB582_583:=ql hg BK582;have NB583_582:=qg hg BK582;replace BK582:=qb BK582 hb;clear hb hbox hg)|((with_reducible refine gate_dst (N:=4) rfl ?_);refine qX #[.slice none 0 0] 38 ?_;intro gb584 hg w19 hbox hb;have BK584:=Aside0.mk hbox;have GE584:=qh hg HB;replace HB:=qs HB hb;have NB582_584:=ql hg BK582;have NB584_582:=qg hg BK582;replace BK582:=qb BK582 hb;have NB583_584:=ql hg BK583;have NB584_583:=qg hg BK583;replace BK583:=qb BK583 hb;clear hb hbox hg;have hnb20:=NB582_583.out;have hnc20:=NB583_582.out;have hnb21:=NB582_584.out;have hnc21:=NB584_582.out;have hcz22_0:=bc BK582;have hfz22_0:=bz BK582;have hnb23:=NB583_584.out;have hnc23:=NB584_583.out;have hcz24_0:=bc BK583;have hfz24_0:=bz BK583)|((with_reducible refine gate_callee (f:=45) rfl ?_);refine gL (some 13) Try.func45 #[.agg #[.slice A0_0 l0_0.length c0_0],.agg #[.slice A1_0 l1_0.length c1_0]] ?_;(with_reducible refine (nat_Nat_Cmp.calls k _ _ l0_0 _ _ l1_0 t585 _ ?side1 ?side2 ?side3 ?side4 A3.out).mono ?_);(case side1 => exact qCB HR0_0 HB);(case side2 => exact HC0_0.out);(case side3 => exact qCB HR1_0 HB);(case side4 => exact HC1_0.out);rintro e w25 ⟨rfl,hb⟩;refine ⟨_,rfl,?_⟩;replace BK582:=qb BK582 hb;replace BK583:=qb BK583 hb;replace BK584:=qb BK584 hb;replace HB:=qs HB hb;clear hb;have hcz26_0:=bc BK582;have hfz26_0:=bz BK582)|((with_reducible refine gate_dst (N:=19) rfl ?_);refine Kd.R_make (Kd.int .u32) _ 23 rfl (N:=19) rfl 36 _ _ rfl (l0_0.length : Int) rfl rfl Try.underlying36 (.int .u32 0) 4 info23 rfl (by decide) (by omega) 0 (ok:=fun _ => True) (okp:=fun _ => True) rfl (fun _ hk => hk) trivial (od) (Nat.le_trans (Nat.mul_le_mul_right _ (od : (l0_0.length : Int).toNat ≤ 70368744177664)) (by omega)) (Below.refl _ _) (Nat.le_refl _) ?_;intro v587 w27 ho28 hb hg_ hnew_;clear hg_ hnew_;(first|rw [← Ny586.out] at ho28|(simp only [Int.reduceToNat] at ho28;rw [← Ny586.out] at ho28));have HO588:=Aside0.mk (Kd.R_lower (Kd.R_newM (M:=fun k_ => (w.heap.size ≤ k_)) ho28 (below_size (qS HB)) (fun k_ h_ => h_)) (below_size (qS HB)));replace BK582:=qb BK582 hb;replace BK583:=qb BK583 hb;replace BK584:=qb BK584 hb;replace HB:=qs HB hb;clear hb ho28;have hcz29_0:=bc BK582;have hfz29_0:=bz BK582))
    go_loopg [7,23] k (fun kq v7 v23 w' => ∃ (x6_1 : List Int) (x7_1 : Int) (x23_1 : Int),v7 = .int .i64 x7_1 ∧ v23 = .int .i64 x23_1 ∧ Aside0 (nat_Nat_Sub.l0 kq x6_1 x7_1 l0_0 (l0_0.length : Int) x23_1 l1_0 = some (r1,r2)) ∧ Aside0 (kq ≤ k) ∧ Aside0 (Kd.R (Kd.int .u32) 23 w' w.heap.size (fun k_ => (w.heap.size ≤ k_)) v587 x6_1) ∧ Aside0 (w'.heap[gb582]? = some (.cells #[(.slice A0_0 l0_0.length c0_0)] 38 (0,0))) ∧ Aside0 (w'.heap[gb583]? = some (.cells #[(.slice A1_0 l1_0.length c1_0)] 38 (0,0))) ∧ Aside0 (w'.heap[gb584]? = some (.cells #[(.slice none 0 0)] 38 (0,0))) ∧ Aside0 (Below w.heap.size w w'))
    case atStart => exact ⟨(y586),(0),(0),(by first|rfl|(simp;done)|(simp [*];done)),(by first|rfl|(simp;done)|(simp [*];done)),H',⟨Nat.le_refl _⟩,⟨qRm HO588⟩,⟨qB BK582.out⟩,⟨qB BK583.out⟩,⟨qB BK584.out⟩,⟨qS HB⟩⟩
    case round =>
     clear H'
     try clear c1
     try clear c2
     try clear p2
     try clear c4
     try clear c4b0
     try clear c6
     try clear c8
     try clear c9
     try clear c11
     try clear c15
     try clear c15b0
     try clear c15b1
     try clear c16
     try clear c16b0
     try clear c16b1
     try clear c20
     try clear c21
     try clear c23
     try clear hcz10_0
     try clear hcz12_0
     try clear hcz14_0
     try clear hcz22_0
     try clear hcz24_0
     try clear hcz26_0
     try clear hcz29_0
     try clear hfz10_0
     try clear hfz12_0
     try clear hfz14_0
     try clear hfz22_0
     try clear hfz24_0
     try clear hfz26_0
     try clear hfz29_0
     obtain ⟨x6_1,x7_1,x23_1,rfl,rfl,HA,HK1,HO_6,BK582,BK583,BK584,HB⟩:=hrel
     cases gk with
     |zero => exact absurd HA.out (by simp [nat_Nat_Sub.l0])
     |succ k1 =>
      have H:=HA.out
      clear HA
      simp only [nat_Nat_Sub.l0] at H
      by_cases c30 : x23_1 < (l0_0.length : Int)
      ·rw [if_pos c30] at H
       have c30b0 : decide (x23_1 < (l0_0.length : Int)) = true:=decide_eq_true c30
       clear c30
       by_cases c31 : 0 ≤ x23_1
       ·rw [if_pos c31] at H
        have c31b0 : decide (0 ≤ x23_1) = true:=decide_eq_true c31
        clear c31
        by_cases c32 : x23_1 < (l0_0.length : Int)
        ·rw [if_pos c32] at H
         have c32b0 : decide (x23_1 < (l0_0.length : Int)) = true:=decide_eq_true c32
         clear c32
         by_cases c33 : x23_1 < (l1_0.length : Int)
         ·rw [if_pos c33] at H
          have c33b0 : decide (x23_1 < (l1_0.length : Int)) = true:=decide_eq_true c33
          clear c33
          by_cases c34 : (wrap64 ((wrap64 ((wrap64 (rd l0_0 x23_1)) - x7_1)) - (wrap64 (rd l1_0 x23_1)))) < 0
          ·rw [if_pos c34] at H
           have c34b0 : decide ((wrap64 ((wrap64 ((wrap64 (rd l0_0 x23_1)) - x7_1)) - (wrap64 (rd l1_0 x23_1)))) < 0) = true:=decide_eq_true c34
           clear c34
           by_cases c35 : x23_1 < (x6_1.length : Int)
           ·rw [if_pos c35] at H
            have c35b0 : decide (x23_1 < (x6_1.length : Int)) = true:=decide_eq_true c35
            clear c35
            obtain ⟨y594,hy594⟩ : ∃ y_ : List Int,y_ = (x6_1.set (x23_1 : Int).toNat ((wrap64 ((wrap64 ((wrap64 ((wrap64 (rd l0_0 x23_1)) - x7_1)) - (wrap64 (rd l1_0 x23_1)))) + 4294967296)) % 4294967296)):=⟨_,rfl⟩
            replace H : (nat_Nat_Sub.l0 k1 y594 1 l0_0 (l0_0.length : Int) (wrap64 (x23_1 + 1)) l1_0) = some (r1,r2):=by first|(rw [hy594];with_reducible exact H)|(have H2_:=(Option.bind_some _ _).symm.trans H;rw [hy594];with_reducible exact H2_)|(have H2_:=(Option.bind_some _ _).symm.trans H;with_reducible exact H2_)|with_reducible exact H|(rw [hy594];exact H)|exact H
            have Ny594:=Aside0.mk hy594
            clear hy594
            have H':=Aside0.mk H
            clear H
            have p592 : 0 ≤ (x23_1 : Int):=od
            have q592 : x23_1 < (l0_0.length : Int):=od
            obtain ⟨ad592,e592,hx592_0⟩:=Kd.at_int HR0_0.out x23_1 p592 q592
            cases e592
            replace hx592_0:=(HB.out.cell (World.block_lt_of_cell? w _ hx592_0)).trans hx592_0
            replace p592:=eq_true p592
            replace q592:=eq_true q592
            have hnb37:=NB583_582.out
            have hnc37:=NB582_583.out
            have hnb38:=NB583_584.out
            have hnc38:=NB584_583.out
            have hcz39_0 : wr.cell? ⟨gb583,0,none⟩ = some (.slice A1_0 l1_0.length c1_0):=bc BK583
            have hfz39_0:=bz BK583
            have p593 : 0 ≤ (x23_1 : Int):=od
            have q593 : x23_1 < (l1_0.length : Int):=od
            obtain ⟨ad593,e593,hx593_0⟩:=Kd.at_int HR1_0.out x23_1 p593 q593
            cases e593
            replace hx593_0:=(HB.out.cell (World.block_lt_of_cell? w _ hx593_0)).trans hx593_0
            replace p593:=eq_true p593
            replace q593:=eq_true q593
            have p36 : 0 ≤ (x23_1 : Int):=od
            have q36 : (x23_1 : Int) < ((x6_1.length : Int) : Int):=od
            obtain ⟨go36,co36,eo36,gb36,gl36,cl36,HG36⟩:=Kd.R_form HO_6.out (by omega)
            (first|cases eo36|(injection eo36 with ea_ en_ ec_;(first|subst ea_|(injection ea_ with ea_;subst ea_));subst ec_;clear en_))
            have GB36:=Aside0.mk gb36
            have GG36:=Aside0.mk HG36
            clear gb36 gl36 HG36
            obtain ⟨hx36_0,hf36_0⟩:=Kd.R_celln 0 HO_6.out (x23_1 : Int) p36 q36
            replace p36:=eq_true p36
            replace q36:=eq_true q36
            have HP40:=Kd.R_putg HO_6.out (x23_1 : Int) ((wrap64 ((wrap64 ((wrap64 ((wrap64 (rd l0_0 x23_1)) - x7_1)) - (wrap64 (rd l1_0 x23_1)))) + 4294967296)) % 4294967296)
            go_wp2_with (first|((with_reducible refine gate_store (t:=23) (p:=53) rfl ?_);refine qSt (wr.setCell ⟨go36,(x23_1 : Int).toNat,none⟩ (.int .u32 ((wrap64 ((wrap64 ((wrap64 ((wrap64 (rd l0_0 x23_1)) - x7_1)) - (wrap64 (rd l1_0 x23_1)))) + 4294967296)) % 4294967296))) ?_;intro w41 hw;have hg : wr.grownBy w41 (some go36):=(by rw [hw];exact HP40.2);have hp_ : Kd.R (Kd.int .u32) 23 w41 w.heap.size (fun k_ => (w.heap.size ≤ k_)) (.slice (some ⟨go36,0,none⟩) x6_1.length co36) y594:=(by rw [hw,Ny594.out];exact HP40.1);clear HP40;replace BK582:=Aside0.mk (blk_grown (g:=gb582) (o:=.cells #[.slice (some ad592) l0_0.length c0_0] 38 (0,0)) (qB BK582.out) hg (Kd.R_ne HO_6.out BK582.out (by decide)));replace BK583:=Aside0.mk (blk_grown (g:=gb583) (o:=.cells #[.slice (some ad593) l1_0.length c1_0] 38 (0,0)) (qB BK583.out) hg (Kd.R_ne HO_6.out BK583.out (by decide)));replace BK584:=Aside0.mk (blk_grown (g:=gb584) (o:=.cells #[.slice none 0 0] 38 (0,0)) (qB BK584.out) hg (Kd.R_ne HO_6.out BK584.out (by decide)));replace HO_6:=Aside0.mk (hp_);replace HB:=Aside0.mk ((by rw [hw];exact below_set (HB.out) GB36.out : Below w.heap.size w w41));clear hg hw hp_))
            go_roundg k1
            case measure => have:=HK1.out;omega
            case rel => exact ⟨(y594),(1),(wrap64 (x23_1 + 1)),(by first|rfl|(simp;done)|(simp [*];done)),(by first|rfl|(simp;done)|(simp [*];done)),H',⟨by have:=HK1.out;omega⟩,⟨qRm HO_6⟩,⟨qB BK582.out⟩,⟨qB BK583.out⟩,⟨qB BK584.out⟩,⟨qS HB⟩⟩
           ·rw [if_neg c35] at H
            exact absurd H (by simp)
          ·rw [if_neg c34] at H
           have c34b0 : decide ((wrap64 ((wrap64 ((wrap64 (rd l0_0 x23_1)) - x7_1)) - (wrap64 (rd l1_0 x23_1)))) < 0) = false:=decide_eq_false c34
           clear c34
           by_cases c42 : x23_1 < (x6_1.length : Int)
           ·rw [if_pos c42] at H
            have c42b0 : decide (x23_1 < (x6_1.length : Int)) = true:=decide_eq_true c42
            clear c42
            obtain ⟨y595,hy595⟩ : ∃ y_ : List Int,y_ = (x6_1.set (x23_1 : Int).toNat ((wrap64 ((wrap64 ((wrap64 (rd l0_0 x23_1)) - x7_1)) - (wrap64 (rd l1_0 x23_1)))) % 4294967296)):=⟨_,rfl⟩
            replace H : (nat_Nat_Sub.l0 k1 y595 0 l0_0 (l0_0.length : Int) (wrap64 (x23_1 + 1)) l1_0) = some (r1,r2):=by first|(rw [hy595];with_reducible exact H)|(have H2_:=(Option.bind_some _ _).symm.trans H;rw [hy595];with_reducible exact H2_)|(have H2_:=(Option.bind_some _ _).symm.trans H;with_reducible exact H2_)|with_reducible exact H|(rw [hy595];exact H)|exact H
            have Ny595:=Aside0.mk hy595
            clear hy595
            have H':=Aside0.mk H
            clear H
            have p592 : 0 ≤ (x23_1 : Int):=od
            have q592 : x23_1 < (l0_0.length : Int):=od
            obtain ⟨ad592,e592,hx592_0⟩:=Kd.at_int HR0_0.out x23_1 p592 q592
            cases e592
            replace hx592_0:=(HB.out.cell (World.block_lt_of_cell? w _ hx592_0)).trans hx592_0
            replace p592:=eq_true p592
            replace q592:=eq_true q592
            have hnb44:=NB583_582.out
            have hnc44:=NB582_583.out
            have hnb45:=NB583_584.out
            have hnc45:=NB584_583.out
            have hcz46_0 : wr.cell? ⟨gb583,0,none⟩ = some (.slice A1_0 l1_0.length c1_0):=bc BK583
            have hfz46_0:=bz BK583
            have p593 : 0 ≤ (x23_1 : Int):=od
            have q593 : x23_1 < (l1_0.length : Int):=od
            obtain ⟨ad593,e593,hx593_0⟩:=Kd.at_int HR1_0.out x23_1 p593 q593
            cases e593
            replace hx593_0:=(HB.out.cell (World.block_lt_of_cell? w _ hx593_0)).trans hx593_0
            replace p593:=eq_true p593
            replace q593:=eq_true q593
            have p43 : 0 ≤ (x23_1 : Int):=od
            have q43 : (x23_1 : Int) < ((x6_1.length : Int) : Int):=od
            obtain ⟨go43,co43,eo43,gb43,gl43,cl43,HG43⟩:=Kd.R_form HO_6.out (by omega)
            (first|cases eo43|(injection eo43 with ea_ en_ ec_;(first|subst ea_|(injection ea_ with ea_;subst ea_));subst ec_;clear en_))
            have GB43:=Aside0.mk gb43
            have GG43:=Aside0.mk HG43
            clear gb43 gl43 HG43
            obtain ⟨hx43_0,hf43_0⟩:=Kd.R_celln 0 HO_6.out (x23_1 : Int) p43 q43
            replace p43:=eq_true p43
            replace q43:=eq_true q43
            have HP47:=Kd.R_putg HO_6.out (x23_1 : Int) ((wrap64 ((wrap64 ((wrap64 (rd l0_0 x23_1)) - x7_1)) - (wrap64 (rd l1_0 x23_1)))) % 4294967296)
            go_wp2_with (first|((with_reducible refine gate_store (t:=23) (p:=53) rfl ?_);refine qSt (wr.setCell ⟨go43,(x23_1 : Int).toNat,none⟩ (.int .u32 ((wrap64 ((wrap64 ((wrap64 (rd l0_0 x23_1)) - x7_1)) - (wrap64 (rd l1_0 x23_1)))) % 4294967296))) ?_;intro w48 hw;have hg : wr.grownBy w48 (some go43):=(by rw [hw];exact HP47.2);have hp_ : Kd.R (Kd.int .u32) 23 w48 w.heap.size (fun k_ => (w.heap.size ≤ k_)) (.slice (some ⟨go43,0,none⟩) x6_1.length co43) y595:=(by rw [hw,Ny595.out];exact HP47.1);clear HP47;replace BK582:=Aside0.mk (blk_grown (g:=gb582) (o:=.cells #[.slice (some ad592) l0_0.length c0_0] 38 (0,0)) (qB BK582.out) hg (Kd.R_ne HO_6.out BK582.out (by decide)));replace BK583:=Aside0.mk (blk_grown (g:=gb583) (o:=.cells #[.slice (some ad593) l1_0.length c1_0] 38 (0,0)) (qB BK583.out) hg (Kd.R_ne HO_6.out BK583.out (by decide)));replace BK584:=Aside0.mk (blk_grown (g:=gb584) (o:=.cells #[.slice none 0 0] 38 (0,0)) (qB BK584.out) hg (Kd.R_ne HO_6.out BK584.out (by decide)));replace HO_6:=Aside0.mk (hp_);replace HB:=Aside0.mk ((by rw [hw];exact below_set (HB.out) GB43.out : Below w.heap.size w w48));clear hg hw hp_))
            go_roundg k1
            case measure => have:=HK1.out;omega
            case rel => exact ⟨(y595),(0),(wrap64 (x23_1 + 1)),(by first|rfl|(simp;done)|(simp [*];done)),(by first|rfl|(simp;done)|(simp [*];done)),H',⟨by have:=HK1.out;omega⟩,⟨qRm HO_6⟩,⟨qB BK582.out⟩,⟨qB BK583.out⟩,⟨qB BK584.out⟩,⟨qS HB⟩⟩
           ·rw [if_neg c42] at H
            exact absurd H (by simp)
         ·rw [if_neg c33] at H
          have c33b0 : decide (x23_1 < (l1_0.length : Int)) = false:=decide_eq_false c33
          clear c33
          by_cases c49 : (wrap64 ((wrap64 (rd l0_0 x23_1)) - x7_1)) < 0
          ·rw [if_pos c49] at H
           have c49b0 : decide ((wrap64 ((wrap64 (rd l0_0 x23_1)) - x7_1)) < 0) = true:=decide_eq_true c49
           clear c49
           by_cases c50 : x23_1 < (x6_1.length : Int)
           ·rw [if_pos c50] at H
            have c50b0 : decide (x23_1 < (x6_1.length : Int)) = true:=decide_eq_true c50
            clear c50
            obtain ⟨y596,hy596⟩ : ∃ y_ : List Int,y_ = (x6_1.set (x23_1 : Int).toNat ((wrap64 ((wrap64 ((wrap64 (rd l0_0 x23_1)) - x7_1)) + 4294967296)) % 4294967296)):=⟨_,rfl⟩
            replace H : (nat_Nat_Sub.l0 k1 y596 1 l0_0 (l0_0.length : Int) (wrap64 (x23_1 + 1)) l1_0) = some (r1,r2):=by first|(rw [hy596];with_reducible exact H)|(have H2_:=(Option.bind_some _ _).symm.trans H;rw [hy596];with_reducible exact H2_)|(have H2_:=(Option.bind_some _ _).symm.trans H;with_reducible exact H2_)|with_reducible exact H|(rw [hy596];exact H)|exact H
            have Ny596:=Aside0.mk hy596
            clear hy596
            have H':=Aside0.mk H
            clear H
            have p592 : 0 ≤ (x23_1 : Int):=od
            have q592 : x23_1 < (l0_0.length : Int):=od
            obtain ⟨ad592,e592,hx592_0⟩:=Kd.at_int HR0_0.out x23_1 p592 q592
            cases e592
            replace hx592_0:=(HB.out.cell (World.block_lt_of_cell? w _ hx592_0)).trans hx592_0
            replace p592:=eq_true p592
            replace q592:=eq_true q592
            have hnb52:=NB583_582.out
            have hnc52:=NB582_583.out
            have hnb53:=NB583_584.out
            have hnc53:=NB584_583.out
            have hcz54_0 : wr.cell? ⟨gb583,0,none⟩ = some (.slice A1_0 l1_0.length c1_0):=bc BK583
            have hfz54_0:=bz BK583
            have p51 : 0 ≤ (x23_1 : Int):=od
            have q51 : (x23_1 : Int) < ((x6_1.length : Int) : Int):=od
            obtain ⟨go51,co51,eo51,gb51,gl51,cl51,HG51⟩:=Kd.R_form HO_6.out (by omega)
            (first|cases eo51|(injection eo51 with ea_ en_ ec_;(first|subst ea_|(injection ea_ with ea_;subst ea_));subst ec_;clear en_))
            have GB51:=Aside0.mk gb51
            have GG51:=Aside0.mk HG51
            clear gb51 gl51 HG51
            obtain ⟨hx51_0,hf51_0⟩:=Kd.R_celln 0 HO_6.out (x23_1 : Int) p51 q51
            replace p51:=eq_true p51
            replace q51:=eq_true q51
            have HP55:=Kd.R_putg HO_6.out (x23_1 : Int) ((wrap64 ((wrap64 ((wrap64 (rd l0_0 x23_1)) - x7_1)) + 4294967296)) % 4294967296)
            go_wp2_with (first|((with_reducible refine gate_store (t:=23) (p:=53) rfl ?_);refine qSt (wr.setCell ⟨go51,(x23_1 : Int).toNat,none⟩ (.int .u32 ((wrap64 ((wrap64 ((wrap64 (rd l0_0 x23_1)) - x7_1)) + 4294967296)) % 4294967296))) ?_;intro w56 hw;have hg : wr.grownBy w56 (some go51):=(by rw [hw];exact HP55.2);have hp_ : Kd.R (Kd.int .u32) 23 w56 w.heap.size (fun k_ => (w.heap.size ≤ k_)) (.slice (some ⟨go51,0,none⟩) x6_1.length co51) y596:=(by rw [hw,Ny596.out];exact HP55.1);clear HP55;replace BK582:=Aside0.mk (blk_grown (g:=gb582) (o:=.cells #[.slice (some ad592) l0_0.length c0_0] 38 (0,0)) (qB BK582.out) hg (Kd.R_ne HO_6.out BK582.out (by decide)));replace BK583:=Aside0.mk (blk_grown (g:=gb583) (o:=.cells #[.slice A1_0 l1_0.length c1_0] 38 (0,0)) (qB BK583.out) hg (Kd.R_ne HO_6.out BK583.out (by decide)));replace BK584:=Aside0.mk (blk_grown (g:=gb584) (o:=.cells #[.slice none 0 0] 38 (0,0)) (qB BK584.out) hg (Kd.R_ne HO_6.out BK584.out (by decide)));replace HO_6:=Aside0.mk (hp_);replace HB:=Aside0.mk ((by rw [hw];exact below_set (HB.out) GB51.out : Below w.heap.size w w56));clear hg hw hp_))
            go_roundg k1
            case measure => have:=HK1.out;omega
            case rel => exact ⟨(y596),(1),(wrap64 (x23_1 + 1)),(by first|rfl|(simp;done)|(simp [*];done)),(by first|rfl|(simp;done)|(simp [*];done)),H',⟨by have:=HK1.out;omega⟩,⟨qRm HO_6⟩,⟨qB BK582.out⟩,⟨qB BK583.out⟩,⟨qB BK584.out⟩,⟨qS HB⟩⟩
           ·rw [if_neg c50] at H
            exact absurd H (by simp)
          ·rw [if_neg c49] at H
           have c49b0 : decide ((wrap64 ((wrap64 (rd l0_0 x23_1)) - x7_1)) < 0) = false:=decide_eq_false c49
           clear c49
           by_cases c57 : x23_1 < (x6_1.length : Int)
           ·rw [if_pos c57] at H
            have c57b0 : decide (x23_1 < (x6_1.length : Int)) = true:=decide_eq_true c57
            clear c57
            obtain ⟨y597,hy597⟩ : ∃ y_ : List Int,y_ = (x6_1.set (x23_1 : Int).toNat ((wrap64 ((wrap64 (rd l0_0 x23_1)) - x7_1)) % 4294967296)):=⟨_,rfl⟩
            replace H : (nat_Nat_Sub.l0 k1 y597 0 l0_0 (l0_0.length : Int) (wrap64 (x23_1 + 1)) l1_0) = some (r1,r2):=by first|(rw [hy597];with_reducible exact H)|(have H2_:=(Option.bind_some _ _).symm.trans H;rw [hy597];with_reducible exact H2_)|(have H2_:=(Option.bind_some _ _).symm.trans H;with_reducible exact H2_)|with_reducible exact H|(rw [hy597];exact H)|exact H
            have Ny597:=Aside0.mk hy597
            clear hy597
            have H':=Aside0.mk H
            clear H
            have p592 : 0 ≤ (x23_1 : Int):=od
            have q592 : x23_1 < (l0_0.length : Int):=od
            obtain ⟨ad592,e592,hx592_0⟩:=Kd.at_int HR0_0.out x23_1 p592 q592
            cases e592
            replace hx592_0:=(HB.out.cell (World.block_lt_of_cell? w _ hx592_0)).trans hx592_0
            replace p592:=eq_true p592
            replace q592:=eq_true q592
            have hnb59:=NB583_582.out
            have hnc59:=NB582_583.out
            have hnb60:=NB583_584.out
            have hnc60:=NB584_583.out
            have hcz61_0 : wr.cell? ⟨gb583,0,none⟩ = some (.slice A1_0 l1_0.length c1_0):=bc BK583
            have hfz61_0:=bz BK583
            have p58 : 0 ≤ (x23_1 : Int):=od
            have q58 : (x23_1 : Int) < ((x6_1.length : Int) : Int):=od
            obtain ⟨go58,co58,eo58,gb58,gl58,cl58,HG58⟩:=Kd.R_form HO_6.out (by omega)
            (first|cases eo58|(injection eo58 with ea_ en_ ec_;(first|subst ea_|(injection ea_ with ea_;subst ea_));subst ec_;clear en_))
            have GB58:=Aside0.mk gb58
            have GG58:=Aside0.mk HG58
            clear gb58 gl58 HG58
            obtain ⟨hx58_0,hf58_0⟩:=Kd.R_celln 0 HO_6.out (x23_1 : Int) p58 q58
            replace p58:=eq_true p58
            replace q58:=eq_true q58
            have HP62:=Kd.R_putg HO_6.out (x23_1 : Int) ((wrap64 ((wrap64 (rd l0_0 x23_1)) - x7_1)) % 4294967296)
            go_wp2_with (first|((with_reducible refine gate_store (t:=23) (p:=53) rfl ?_);refine qSt (wr.setCell ⟨go58,(x23_1 : Int).toNat,none⟩ (.int .u32 ((wrap64 ((wrap64 (rd l0_0 x23_1)) - x7_1)) % 4294967296))) ?_;intro w63 hw;have hg : wr.grownBy w63 (some go58):=(by rw [hw];exact HP62.2);have hp_ : Kd.R (Kd.int .u32) 23 w63 w.heap.size (fun k_ => (w.heap.size ≤ k_)) (.slice (some ⟨go58,0,none⟩) x6_1.length co58) y597:=(by rw [hw,Ny597.out];exact HP62.1);clear HP62;replace BK582:=Aside0.mk (blk_grown (g:=gb582) (o:=.cells #[.slice (some ad592) l0_0.length c0_0] 38 (0,0)) (qB BK582.out) hg (Kd.R_ne HO_6.out BK582.out (by decide)));replace BK583:=Aside0.mk (blk_grown (g:=gb583) (o:=.cells #[.slice A1_0 l1_0.length c1_0] 38 (0,0)) (qB BK583.out) hg (Kd.R_ne HO_6.out BK583.out (by decide)));replace BK584:=Aside0.mk (blk_grown (g:=gb584) (o:=.cells #[.slice none 0 0] 38 (0,0)) (qB BK584.out) hg (Kd.R_ne HO_6.out BK584.out (by decide)));replace HO_6:=Aside0.mk (hp_);replace HB:=Aside0.mk ((by rw [hw];exact below_set (HB.out) GB58.out : Below w.heap.size w w63));clear hg hw hp_))
            go_roundg k1
            case measure => have:=HK1.out;omega
            case rel => exact ⟨(y597),(0),(wrap64 (x23_1 + 1)),(by first|rfl|(simp;done)|(simp [*];done)),(by first|rfl|(simp;done)|(simp [*];done)),H',⟨by have:=HK1.out;omega⟩,⟨qRm HO_6⟩,⟨qB BK582.out⟩,⟨qB BK583.out⟩,⟨qB BK584.out⟩,⟨qS HB⟩⟩
           ·rw [if_neg c57] at H
            exact absurd H (by simp)
        ·rw [if_neg c32] at H
         exact absurd H (by simp)
       ·rw [if_neg c31] at H
        exact absurd H (by simp)
      ·rw [if_neg c30] at H
       have c30b0 : decide (x23_1 < (l0_0.length : Int)) = false:=decide_eq_false c30
       clear c30
       obtain ⟨t589,A64,H⟩:=qH H
       simp only [Option.some.injEq,Prod.mk.injEq] at H
       obtain ⟨rfl,rfl⟩:=H
       obtain ⟨Ao65,co65,eo65⟩:=Kd.R_slice HO_6.out
       subst eo65
       go_wp2_with (first|((with_reducible refine gate_callee (f:=100) rfl ?_);refine gL (some 56) Try.func100 #[.slice Ao65 x6_1.length co65] ?_;(with_reducible refine (nat_trim.calls k1 (fun k_ => some k_ = (.slice Ao65 x6_1.length co65 : Value).ownBlock) _ _ x6_1 t589 _ ?side1 A64.out).mono ?_);(case side1 => exact Kd.R_V (Kd.R_tight rfl (Kd.R_types (Kd.R_types (Kd.R_types (HO_6.out) BK582.out (by decide)) BK583.out (by decide)) BK584.out (by decide))));rintro e w66 ⟨v590,rfl,ho0,hb⟩;refine ⟨_,rfl,?_⟩;have HO591:=Aside0.mk (Kd.V_lower (Kd.V_mono (ok':=fun k_ => (w.heap.size ≤ k_) ∧ k_ ≠ gb582 ∧ k_ ≠ gb583 ∧ k_ ≠ gb584) ho0 (fun k_ hk_ => ⟨Or.elim hk_ (fun hs_ => ((Kd.R_types (Kd.R_types (Kd.R_types (HO_6.out) BK582.out (by decide)) BK583.out (by decide)) BK584.out (by decide)).1 k_ hs_.symm).1.1.1) (fun hn_ => (Nat.le_trans (below_size (qS HB)) hn_)),Or.elim hk_ (fun hs_ => ((Kd.R_types (Kd.R_types (Kd.R_types (HO_6.out) BK582.out (by decide)) BK583.out (by decide)) BK584.out (by decide)).1 k_ hs_.symm).1.1.2) (fun hn_ => (Kd.freshB (qB BK582.out) k_ hn_)),Or.elim hk_ (fun hs_ => ((Kd.R_types (Kd.R_types (Kd.R_types (HO_6.out) BK582.out (by decide)) BK583.out (by decide)) BK584.out (by decide)).1 k_ hs_.symm).1.2) (fun hn_ => (Kd.freshB (qB BK583.out) k_ hn_)),Or.elim hk_ (fun hs_ => ((Kd.R_types (Kd.R_types (Kd.R_types (HO_6.out) BK582.out (by decide)) BK583.out (by decide)) BK584.out (by decide)).1 k_ hs_.symm).2) (fun hn_ => (Kd.freshB (qB BK584.out) k_ hn_))⟩)) (below_size (qS HB)));replace HO_6:=qRb HO_6 hb;replace BK582:=qb BK582 hb;replace BK583:=qb BK583 hb;replace BK584:=qb BK584 hb;replace HB:=qs HB hb;clear hb ho0;obtain ⟨Ao67,co67,eo67⟩:=Kd.V_slice HO591.out;subst eo67;have hnb68:=NB584_582.out;have hnc68:=NB582_584.out;have hnb69:=NB584_583.out;have hnc69:=NB583_584.out;have hcz70_0:=bc BK584;have hfz70_0:=bz BK584))
       refine bodyPost_ret (results_ct rfl _ _ gb584 38 #[.slice Ao67 t589.length co67] (0,0) _ rfl (by (with_reducible repeat (first|refine blk_drewN ?_ _|refine blk_drew ?_|refine blk_alloc ?_ _));refine blk_put (cs:=#[.slice none 0 0]) ?_ 0 _ rfl;(with_reducible repeat (first|refine blk_drewN ?_ _|refine blk_drew ?_|refine blk_alloc ?_ _));exact BK584.out) Try.underlying38 rfl (by kernel_rfl)) rfl ?_
       exact ⟨_,by first|rfl|(simp [errW_none,errW_some] <;> rfl)|(simp [*,errW_none,errW_some] <;> rfl),qVm HO591,qS HB⟩
   ·rw [if_neg c16] at H
    exact absurd H (by simp)
  ·rw [if_neg c15] at H
   exact absurd H (by simp)
end Go.Proofs.Yteejcpbngnojkaa.P
end
section
namespace Go.Proofs.Yteejcpbngnojkaa.P
open Go.RowKit Go.Proofs.YteejcpbngnojkaaW.PrintWords Go.Proofs.YteejcpbngnojkaaW.PrintLast Go.Proofs.YteejcpbngnojkaaW.PrintMore
attribute [local go_sem] max2_int min2_int max_two min_two max_three min_three max_four min_four
set_option linter.unusedVariables false
set_option linter.unusedSimpArgs false
def sacristylaw01_NatRules.j0 : Nat → Bool → List Int → List Int → List Int → Option (Bool)
 |0,_,_,_,_ => none
 |k + 1,x69,x1060000,x1061000,x1062000 => if x69 = true then (none) else ((nat_Nat_Mul.f k x1060000 x1061000).bind fun t1098 => ((nat_Nat_Mul.f k t1098 x1062000).bind fun t1101 => ((nat_Nat_Mul.f k x1061000 x1062000).bind fun t1104 => ((nat_Nat_Mul.f k x1060000 t1104).bind fun t1107 => ((nat_Nat_Cmp.f k t1101 t1107).bind fun t1110 => (if t1110 = 0 then ((nat_Nat_Add.f k x1061000 x1062000).bind fun t1111 => ((nat_Nat_Mul.f k x1060000 t1111).bind fun t1114 => ((nat_Nat_Mul.f k x1060000 x1061000).bind fun t1117 => ((nat_Nat_Mul.f k x1060000 x1062000).bind fun t1120 => ((nat_Nat_Add.f k t1117 t1120).bind fun t1123 => ((nat_Nat_Cmp.f k t1114 t1123).bind fun t1126 => (some (t1126 == 0)))))))) else (none)))))))
def sacristylaw01_NatRules.f (k : Nat) (l0 : List Int) (l1 : List Int) (l2 : List Int) : Option (Bool):=(sacristylaw01_lives.f k).bind fun t1049 => (if t1049 = true then ((sacristylaw01_Num.f k l0).bind fun t1050 => ((sacristylaw01_Num.f k l1).bind fun t1053 => ((sacristylaw01_Num.f k l2).bind fun t1056 => ((nat_Nat_Add.f k t1050 t1053).bind fun t1062 => ((nat_Nat_Sub.f k t1062 t1053).bind fun bt1065 => (if bt1065.2 = true then ((nat_Nat_Cmp.f k bt1065.1 t1050).bind fun t1070 => (if t1070 = 0 then ((nat_Nat_Add.f k t1050 t1053).bind fun t1071 => ((nat_Nat_Add.f k t1053 t1050).bind fun t1074 => ((nat_Nat_Cmp.f k t1071 t1074).bind fun t1077 => (if t1077 = 0 then ((nat_Nat_Mul.f k t1050 t1053).bind fun t1078 => ((nat_Nat_Mul.f k t1053 t1050).bind fun t1081 => ((nat_Nat_Cmp.f k t1078 t1081).bind fun t1084 => (if t1084 = 0 then ((nat_Nat_Add.f k t1050 t1053).bind fun t1085 => ((nat_Nat_Add.f k t1085 t1056).bind fun t1088 => ((nat_Nat_Add.f k t1053 t1056).bind fun t1091 => ((nat_Nat_Add.f k t1050 t1091).bind fun t1094 => ((nat_Nat_Cmp.f k t1088 t1094).bind fun t1097 => (sacristylaw01_NatRules.j0 k (t1097 != 0) t1050 t1053 t1056)))))) else (sacristylaw01_NatRules.j0 k true t1050 t1053 t1056))))) else (sacristylaw01_NatRules.j0 k true t1050 t1053 t1056))))) else (sacristylaw01_NatRules.j0 k true t1050 t1053 t1056))) else (sacristylaw01_NatRules.j0 k true t1050 t1053 t1056))))))) else (none))
theorem sacristylaw01_NatRules.mono_l : ∀ k,(∀ y0 y1 y2 y3,LeO (sacristylaw01_NatRules.j0 k y0 y1 y2 y3) (sacristylaw01_NatRules.j0 (k + 1) y0 y1 y2 y3))
 |0 => fun _ _ _ _ r h => by simp [sacristylaw01_NatRules.j0] at h
 |k + 1 => by
  have ih0:=sacristylaw01_NatRules.mono_l k
  ·intro y0 y1 y2 y3
   unfold sacristylaw01_NatRules.j0
   repeat' first
   |(with_reducible exact ih0 _ _ _ _)
   |(with_reducible exact nat_Nat_Add.mono _ _ _)
   |(with_reducible exact nat_Nat_Cmp.mono _ _ _)
   |(with_reducible exact nat_Nat_Mul.mono _ _ _)
   |(with_reducible exact nat_Nat_Sub.mono _ _ _)
   |(with_reducible exact sacristylaw01_Num.mono _ _)
   |(with_reducible exact sacristylaw01_lives.mono _)
   |(with_reducible exact LeO.refl _)
   |(with_reducible exact LeO.none _)
   |(with_reducible refine LeO.ite ?_ ?_)
   |(with_reducible refine LeO.bind ?_ (fun _ => ?_))
   |exact ih0 _ _ _ _
   |exact nat_Nat_Add.mono _ _ _
   |exact nat_Nat_Cmp.mono _ _ _
   |exact nat_Nat_Mul.mono _ _ _
   |exact nat_Nat_Sub.mono _ _ _
   |exact sacristylaw01_Num.mono _ _
   |exact sacristylaw01_lives.mono _
   |exact LeO.none _
   |refine LeO.ite ?_ ?_
   |refine LeO.bind ?_ (fun _ => ?_)
theorem sacristylaw01_NatRules.mono : ∀ a0 a1 a2 k,LeO (sacristylaw01_NatRules.f k a0 a1 a2) (sacristylaw01_NatRules.f (k + 1) a0 a1 a2):=by
 intro a0 a1 a2 k
 have ih0:=sacristylaw01_NatRules.mono_l k
 unfold sacristylaw01_NatRules.f
 repeat' first
   |(with_reducible exact ih0 _ _ _ _)
   |(with_reducible exact nat_Nat_Add.mono _ _ _)
   |(with_reducible exact nat_Nat_Cmp.mono _ _ _)
   |(with_reducible exact nat_Nat_Mul.mono _ _ _)
   |(with_reducible exact nat_Nat_Sub.mono _ _ _)
   |(with_reducible exact sacristylaw01_Num.mono _ _)
   |(with_reducible exact sacristylaw01_lives.mono _)
   |(with_reducible exact LeO.refl _)
   |(with_reducible exact LeO.none _)
   |(with_reducible refine LeO.ite ?_ ?_)
   |(with_reducible refine LeO.bind ?_ (fun _ => ?_))
   |exact ih0 _ _ _ _
   |exact nat_Nat_Add.mono _ _ _
   |exact nat_Nat_Cmp.mono _ _ _
   |exact nat_Nat_Mul.mono _ _ _
   |exact nat_Nat_Sub.mono _ _ _
   |exact sacristylaw01_Num.mono _ _
   |exact sacristylaw01_lives.mono _
   |exact LeO.none _
   |refine LeO.ite ?_ ?_
   |refine LeO.bind ?_ (fun _ => ?_)
def sacristylaw01_NatRules.T4 : Bool × List (List Nat × List Nat):=(true,[([],[]),([],[]),([0,1],[0,1]),([],[]),([2,3,2],[2,3]),([4],[4]),([5],[5]),([5],[5]),([],[]),([8,6,4,0,1,2,3,4,5,6,8],[6,8]),([7,9,0,1,2,3,4,5,6,7,8,9],[7])])
def sacristylaw01_NatRules.B4 : List Nat:=[0,0,3,0,15,31,63,63,0,383,1023]
theorem sacristylaw01_NatRules.tab4 : rtab .any (opsOf Try.f17 4) = sacristylaw01_NatRules.T4:=by kernel_rfl
theorem sacristylaw01_NatRules.bits4 : waitsOk sacristylaw01_NatRules.T4.2 sacristylaw01_NatRules.B4 = true:=by kernel_rfl
def sacristylaw01_NatRules.T5 : Bool × List (List Nat × List Nat):=(true,[([],[]),([0],[0]),([1],[1]),([2],[2]),([2],[2]),([3,4,2,2],[2,3,4]),([5,2],[2,5]),([2,6],[2,6]),([7,5],[7]),([8],[8]),([8],[8]),([9,10,8,8],[8,9,10]),([8],[8]),([8],[8]),([12,13,11,8],[8,12,13]),([11,14,14,8],[8,11,14]),([15,8],[8,15]),([8,16],[8,16]),([17,15],[17]),([18],[18]),([18],[18]),([19,20,18,18],[18,19,20]),([18],[18]),([18],[18]),([22,23,21,18],[18,22,23]),([21,24,24,18],[18,21,24]),([25,18],[18,25]),([18,26],[18,26]),([27,25],[27]),([28],[28]),([28],[28]),([29,30,28,28],[28,29,30]),([28],[28]),([31,32,31,28],[28,31,32]),([28],[28]),([28],[28]),([28],[28]),([35,36,33,28],[28,35,36]),([34,37,37,28],[28,34,37]),([33,38,38,28],[28,33,38]),([39,28],[28,39]),([28,40],[28,40])])
def sacristylaw01_NatRules.B5 : List Nat:=[0,1,3,7,7,31,63,127,255,511,511,2047,511,511,16383,32767,65535,131071,262143,524287,524287,2097151,524287,524287,16777215,33554431,67108863,134217727,268435455,536870911,536870911,2147483647,536870911,8589934591,536870911,536870911,536870911,120259084287,274877906943,549755813887,1099511627775,2199023255551]
theorem sacristylaw01_NatRules.tab5 : rtab .any (opsOf Try.f17 5) = sacristylaw01_NatRules.T5:=by kernel_rfl
theorem sacristylaw01_NatRules.bits5 : waitsOk sacristylaw01_NatRules.T5.2 sacristylaw01_NatRules.B5 = true:=by kernel_rfl
def sacristylaw01_NatRules.T7 : Bool × List (List Nat × List Nat):=(true,[([],[]),([],[]),([0,1],[0,1]),([],[]),([2,3,2],[2,3]),([],[]),([],[]),([],[]),([6,7,4],[6,7]),([5,8,8],[5,8]),([4,9,9],[4,9]),([10],[10]),([11,10],[11]),([12],[12]),([12],[12]),([12],[12]),([14,15,12,12],[12,14,15]),([13,16,16,12],[12,13,16]),([12],[12]),([12],[12]),([18,19,17,12],[12,18,19]),([12],[12]),([12],[12]),([21,22,20,12],[12,21,22]),([20,23,23,12],[12,20,23]),([17,24,24,12],[12,17,24]),([25,12],[12,25]),([12,26],[12,26]),([27,25,0,1,2,3,4,5,6,7,8,9,10,11,12,13,14,15,16,17,18,19,20,21,22,23,24,25,26,27],[27])])
def sacristylaw01_NatRules.B7 : List Nat:=[0,0,3,0,15,0,0,0,223,511,1023,2047,4095,8191,8191,8191,57343,131071,8191,8191,1048575,8191,8191,8388607,16777215,33554431,67108863,134217727,268435455]
theorem sacristylaw01_NatRules.tab7 : rtab .any (opsOf Try.f17 7) = sacristylaw01_NatRules.T7:=by kernel_rfl
theorem sacristylaw01_NatRules.bits7 : waitsOk sacristylaw01_NatRules.T7.2 sacristylaw01_NatRules.B7 = true:=by kernel_rfl
set_option maxHeartbeats 8000000 in
set_option maxRecDepth 100000 in
theorem sacristylaw01_NatRules.calls (k : Nat) (A0 : Option Addr) (c0 : Nat) (l0 : List Int) (A1 : Option Addr) (c1 : Nat) (l1 : List Int) (A2 : Option Addr) (c2 : Nat) (l2 : List Int) (r : Bool) (w : World) (hr0 : Kd.C (Kd.int .u8) w A0 l0.length l0) (hc0 : l0.length ≤ c0) (hr1 : Kd.C (Kd.int .u8) w A1 l1.length l1) (hc1 : l1.length ≤ c1) (hr2 : Kd.C (Kd.int .u8) w A2 l2.length l2) (hc2 : l2.length ≤ c2) (h : sacristylaw01_NatRules.f k l0 l1 l2 = some r) :
  Calls Try.prog 17 #[.slice A0 l0.length c0,.slice A1 l1.length c1,.slice A2 l2.length c2] w fun e w' => e = .returned (.bool r) ∧ Below w.heap.size w w':=by
 have hu38:=Try.underlying38
 have HR0:=Aside0.mk hr0
 have HC0:=Aside0.mk hc0
 clear hr0 hc0
 have HR1:=Aside0.mk hr1
 have HC1:=Aside0.mk hc1
 clear hr1 hc1
 have HR2:=Aside0.mk hr2
 have HC2:=Aside0.mk hc2
 clear hr2 hc2
 have HB:=Aside0.mk (Below.refl w.heap.size w)
 have H : ((sacristylaw01_lives.f k).bind fun t1049 => (if t1049 = true then ((sacristylaw01_Num.f k l0).bind fun t1050 => ((sacristylaw01_Num.f k l1).bind fun t1053 => ((sacristylaw01_Num.f k l2).bind fun t1056 => ((nat_Nat_Add.f k t1050 t1053).bind fun t1062 => ((nat_Nat_Sub.f k t1062 t1053).bind fun bt1065 => (if bt1065.2 = true then ((nat_Nat_Cmp.f k bt1065.1 t1050).bind fun t1070 => (if t1070 = 0 then ((nat_Nat_Add.f k t1050 t1053).bind fun t1071 => ((nat_Nat_Add.f k t1053 t1050).bind fun t1074 => ((nat_Nat_Cmp.f k t1071 t1074).bind fun t1077 => (if t1077 = 0 then ((nat_Nat_Mul.f k t1050 t1053).bind fun t1078 => ((nat_Nat_Mul.f k t1053 t1050).bind fun t1081 => ((nat_Nat_Cmp.f k t1078 t1081).bind fun t1084 => (if t1084 = 0 then ((nat_Nat_Add.f k t1050 t1053).bind fun t1085 => ((nat_Nat_Add.f k t1085 t1056).bind fun t1088 => ((nat_Nat_Add.f k t1053 t1056).bind fun t1091 => ((nat_Nat_Add.f k t1050 t1091).bind fun t1094 => ((nat_Nat_Cmp.f k t1088 t1094).bind fun t1097 => (sacristylaw01_NatRules.j0 k (t1097 != 0) t1050 t1053 t1056)))))) else (sacristylaw01_NatRules.j0 k true t1050 t1053 t1056))))) else (sacristylaw01_NatRules.j0 k true t1050 t1053 t1056))))) else (sacristylaw01_NatRules.j0 k true t1050 t1053 t1056))) else (sacristylaw01_NatRules.j0 k true t1050 t1053 t1056))))))) else (none))) = some r:=h
 clear h
 obtain ⟨t1049,A4,H⟩:=qH H
 by_cases c5 : t1049 = true
 ·subst c5
  rw [if_pos rfl] at H
  obtain ⟨t1050,A6,H⟩:=qH H
  obtain ⟨t1053,A7,H⟩:=qH H
  obtain ⟨t1056,A8,H⟩:=qH H
  obtain ⟨t1062,A9,H⟩:=qH H
  obtain ⟨⟨t1065,t1068⟩,A10,H⟩:=qH H
  dsimp only at H
  have HC11:=Aside0.mk H
  clear H
  go_enter Try.func17,Try.ntmps17
  try go_wp2_with (first|((with_reducible refine gate_callee (f:=34) rfl ?_);refine gL (some 12) Try.func34 #[] ?_;(with_reducible refine (sacristylaw01_lives.calls k  true _ A4.out).mono ?_);rintro e w12 ⟨rfl,hb⟩;refine ⟨_,rfl,?_⟩;replace HB:=qs HB hb;clear hb)|((with_reducible refine gate_callee (f:=40) rfl ?_);refine gL (some 15) Try.func40 #[.slice A0 l0.length c0] ?_;(with_reducible refine (sacristylaw01_Num.calls k _ _ l0 t1050 _ ?side1 ?side2 A6.out).mono ?_);(case side1 => exact qCB HR0 HB);(case side2 => exact HC0.out);rintro e w13 ⟨v1051,rfl,ho0,hb⟩;refine ⟨_,rfl,?_⟩;have HO1052:=Aside0.mk (Kd.V_lower (Kd.V_mono (ok':=fun k_ => True) ho0 (fun k_ hk_ => trivial)) (below_size (qS HB)));replace HB:=qs HB hb;clear hb ho0)|((with_reducible refine gate_callee (f:=40) rfl ?_);refine gL (some 17) Try.func40 #[.slice A1 l1.length c1] ?_;(with_reducible refine (sacristylaw01_Num.calls k _ _ l1 t1053 _ ?side1 ?side2 A7.out).mono ?_);(case side1 => exact qCB HR1 HB);(case side2 => exact HC1.out);rintro e w14 ⟨v1054,rfl,ho0,hb⟩;refine ⟨_,rfl,?_⟩;replace HO1052:=qVb HO1052 hb;have HO1055:=Aside0.mk (Kd.V_lower (Kd.V_mono (ok':=fun k_ => True) ho0 (fun k_ hk_ => trivial)) (below_size (qS HB)));replace HB:=qs HB hb;clear hb ho0)|((with_reducible refine gate_callee (f:=40) rfl ?_);refine gL (some 19) Try.func40 #[.slice A2 l2.length c2] ?_;(with_reducible refine (sacristylaw01_Num.calls k _ _ l2 t1056 _ ?side1 ?side2 A8.out).mono ?_);(case side1 => exact qCB HR2 HB);(case side2 => exact HC2.out);rintro e w15 ⟨v1057,rfl,ho0,hb⟩;refine ⟨_,rfl,?_⟩;replace HO1052:=qVb HO1052 hb;replace HO1055:=qVb HO1055 hb;have HO1058:=Aside0.mk (Kd.V_lower (Kd.V_mono (ok':=fun k_ => True) ho0 (fun k_ hk_ => trivial)) (below_size (qS HB)));replace HB:=qs HB hb;clear hb ho0)|((with_reducible refine gate_dst (N:=7) rfl ?_);refine qX #[.slice none 0 0] 38 ?_;intro gb1059 hg w16 hbox hb;replace HO1052:=qVe HO1052 hb hg;replace HO1055:=qVe HO1055 hb hg;replace HO1058:=qVe HO1058 hb hg;have BK1059:=Aside0.mk hbox;have GE1059:=qh hg HB;replace HB:=qs HB hb;clear hb hbox hg)|((with_reducible refine gate_dst (N:=8) rfl ?_);refine qX #[.slice none 0 0] 38 ?_;intro gb1060 hg w17 hbox hb;replace HO1052:=qVe HO1052 hb hg;replace HO1055:=qVe HO1055 hb hg;replace HO1058:=qVe HO1058 hb hg;have BK1060:=Aside0.mk hbox;have GE1060:=qh hg HB;replace HB:=qs HB hb;have NB1059_1060:=ql hg BK1059;have NB1060_1059:=qg hg BK1059;replace BK1059:=qb BK1059 hb;clear hb hbox hg)|((with_reducible refine gate_dst (N:=9) rfl ?_);refine qX #[.slice none 0 0] 38 ?_;intro gb1061 hg w18 hbox hb;replace HO1052:=qVe HO1052 hb hg;replace HO1055:=qVe HO1055 hb hg;replace HO1058:=qVe HO1058 hb hg;have BK1061:=Aside0.mk hbox;have GE1061:=qh hg HB;replace HB:=qs HB hb;have NB1059_1061:=ql hg BK1059;have NB1061_1059:=qg hg BK1059;replace BK1059:=qb BK1059 hb;have NB1060_1061:=ql hg BK1060;have NB1061_1060:=qg hg BK1060;replace BK1060:=qb BK1060 hb;clear hb hbox hg;obtain ⟨Ao19,co19,eo19⟩:=Kd.V_slice HO1052.out;subst eo19;have hnb20:=NB1059_1060.out;have hnc20:=NB1060_1059.out;have hnb21:=NB1059_1061.out;have hnc21:=NB1061_1059.out;have hcz22_0:=bc BK1059;have hfz22_0:=bz BK1059;obtain ⟨Ao23,co23,eo23⟩:=Kd.V_slice HO1055.out;subst eo23;have hnb24:=NB1060_1061.out;have hnc24:=NB1061_1060.out;have hcz25_0:=bc BK1060;have hfz25_0:=bz BK1060;obtain ⟨Ao26,co26,eo26⟩:=Kd.V_slice HO1058.out;subst eo26;have hcz27_0:=bc BK1061;have hfz27_0:=bz BK1061))
  generalize hw : (((w18.setCell ⟨gb1059,0,none⟩ (.slice Ao19 t1050.length co19)).setCell ⟨gb1060,0,none⟩ (.slice Ao23 t1053.length co23)).setCell ⟨gb1061,0,none⟩ (.slice Ao26 t1056.length co26)) = w28
  replace hw:=hw.symm
  replace HO1052:=qVh hw HO1052
  replace HO1055:=qVh hw HO1055
  replace HO1058:=qVh hw HO1058
  replace BK1059:=qBp hw BK1059
  replace BK1060:=qBp hw BK1060
  replace BK1061:=qBp hw BK1061
  replace HB:=qSh hw HB
  clear hw
  replace HO1052:=qVw HO1052
  replace HO1055:=qVw HO1055
  replace HO1058:=qVw HO1058
  replace BK1059:=qbd BK1059
  replace BK1060:=qbd BK1060
  replace BK1061:=qbd BK1061
  replace HB:=qsd HB
  refine start_ (n:=11) (S:=fun w' => w'.cell? ⟨gb1059,0,none⟩ = some (.slice Ao19 t1050.length co19) ∧ w'.cell? ⟨gb1060,0,none⟩ = some (.slice Ao23 t1053.length co23)) (ds:=[]) #[false,false,false,false,false,false,false,false,false,false,false] (by kernel_rfl) rfl rfl ⟨bc BK1059,bc BK1060⟩ (fun hHeld => ?_);refine with_tabW sacristylaw01_NatRules.tab4 sacristylaw01_NatRules.bits4 (fun HT_ HW_ => ?_)
  generalize w28.drew = w29 at HO1052 HO1055 HO1058 BK1059 BK1060 BK1061 HB hHeld ⊢
  refine qT 0 21 HT_ HW_ hHeld ?_
  refine qT 1 22 HT_ HW_ hHeld ?_
  refine qT 3 24 HT_ HW_ hHeld ?_
  refine join_ (σ:=Value × Value × Nat) 2 #[true,true,true,true,true,true,true,true,true,false,false] (fun s_ => [(23,.agg #[s_.1]),(25,.tuple #[.agg #[s_.2.1],.bool t1068]),(10,.pointer (some ⟨s_.2.2,0,none⟩)),(20,.tuple #[.agg #[s_.2.1],.bool t1068]),(26,.agg #[s_.2.1]),(27,.bool t1068)]) (fun s_ w' => (w'.cell? ⟨gb1059,0,none⟩ = some (.slice Ao19 t1050.length co19) ∧ w'.cell? ⟨gb1060,0,none⟩ = some (.slice Ao23 t1053.length co23)) ∧ (Kd.V (Kd.int .u32) 23 w' w.heap.size (fun k_ => k_ ≠ gb1059 ∧ k_ ≠ gb1060 ∧ k_ ≠ gb1061 ∧ k_ ≠ s_.2.2) (.slice Ao19 t1050.length co19) t1050) ∧ (Kd.V (Kd.int .u32) 23 w' w.heap.size (fun k_ => k_ ≠ gb1059 ∧ k_ ≠ gb1060 ∧ k_ ≠ gb1061 ∧ k_ ≠ s_.2.2) (.slice Ao23 t1053.length co23) t1053) ∧ (Kd.V (Kd.int .u32) 23 w' w.heap.size (fun k_ => k_ ≠ gb1059 ∧ k_ ≠ gb1060 ∧ k_ ≠ gb1061 ∧ k_ ≠ s_.2.2) (.slice Ao26 t1056.length co26) t1056) ∧ (Kd.V (Kd.int .u32) 23 w' w.heap.size (fun k_ => k_ ≠ gb1059 ∧ k_ ≠ gb1060 ∧ k_ ≠ gb1061 ∧ k_ ≠ s_.2.2) s_.1 t1062) ∧ (Kd.V (Kd.int .u32) 23 w' w.heap.size (fun k_ => k_ ≠ gb1059 ∧ k_ ≠ gb1060 ∧ k_ ≠ gb1061 ∧ k_ ≠ s_.2.2) s_.2.1 t1065) ∧ (w'.heap[gb1059]? = some (.cells #[.slice Ao19 t1050.length co19] 38 (0,0))) ∧ (w'.heap[gb1060]? = some (.cells #[.slice Ao23 t1053.length co23] 38 (0,0))) ∧ (w'.heap[gb1061]? = some (.cells #[.slice Ao26 t1056.length co26] 38 (0,0))) ∧ (w'.heap[s_.2.2]? = some (.cells #[.slice none 0 0] 38 (0,0))) ∧ (w.heap.size ≤ s_.2.2) ∧ (w.heap.size ≤ s_.2.2) ∧ (gb1059 ≠ s_.2.2) ∧ (s_.2.2 ≠ gb1059) ∧ (gb1060 ≠ s_.2.2) ∧ (s_.2.2 ≠ gb1060) ∧ (gb1061 ≠ s_.2.2) ∧ (s_.2.2 ≠ gb1061) ∧ (Below w.heap.size w w')) ?_ ?_
  rotate_left
  ·intro hCont
   refine q2 2 8 (some 23) (some 10) HT_ rfl rfl (fun K hK => ?_) (fun K hK => ?_)
   ·skip
    refine g_ Try.func60 #[.agg #[.slice Ao19 t1050.length co19],.agg #[.slice Ao23 t1053.length co23]] ?_
    with_reducible refine (nat_Nat_Add.calls k _ _ t1050 _ _ t1053 t1062 _ ?side1 ?side2 ?side3 ?side4 A9.out).mono ?_
    (case side1 => exact qCV HO1052)
    (case side2 => exact qL HO1052)
    (case side3 => exact qCV HO1055)
    (case side4 => exact qL HO1055)
    rintro e w30 ⟨v1063,rfl,ho0,hb⟩
    refine ⟨_,rfl,?_⟩
    replace HO1052:=qVb HO1052 hb
    replace HO1055:=qVb HO1055 hb
    replace HO1058:=qVb HO1058 hb
    have HO1064:=Aside0.mk (Kd.V_lower (Kd.V_mono (ok':=fun k_ => k_ ≠ gb1059 ∧ k_ ≠ gb1060 ∧ k_ ≠ gb1061) ho0 (fun k_ hk_ => ⟨(Kd.freshB (qB BK1059.out) k_ hk_),(Kd.freshB (qB BK1060.out) k_ hk_),(Kd.freshB (qB BK1061.out) k_ hk_)⟩)) (below_size (qS HB)))
    replace BK1059:=qb BK1059 hb
    replace BK1060:=qb BK1060 hb
    replace BK1061:=qb BK1061 hb
    replace HB:=qs HB hb
    clear hb ho0
    obtain ⟨Ao31,co31,eo31⟩:=Kd.V_slice HO1064.out
    (first|subst eo31|(injection eo31 with f1_ f2_ f3_;have f4_:=f1_.symm;have f5_:=f3_.symm;clear f1_ f2_ f3_;subst f4_;subst f5_))
    refine hK.out _ _ ⟨bc BK1059,bc BK1060⟩ (fun hHeld => ?_)
    clear hK K
    refine qO 23 ?_
    refine q2 4 8 (some 25) (some 10) HT_ rfl rfl (fun K hK => ?_) (fun K hK => ?_)
    ·skip
     refine g_ Try.func62 #[.agg #[.slice Ao31 t1062.length co31],.agg #[.slice Ao23 t1053.length co23]] ?_
     with_reducible refine (nat_Nat_Sub.calls k _ _ t1062 _ _ t1053 t1065 t1068 _ ?side1 ?side2 ?side3 ?side4 A10.out).mono ?_
     (case side1 => exact qCV HO1064)
     (case side2 => exact qL HO1064)
     (case side3 => exact qCV HO1055)
     (case side4 => exact qL HO1055)
     rintro e w32 ⟨v1066,rfl,ho0,hb⟩
     refine ⟨_,rfl,?_⟩
     replace HO1052:=qVb HO1052 hb
     replace HO1055:=qVb HO1055 hb
     replace HO1058:=qVb HO1058 hb
     replace HO1064:=qVb HO1064 hb
     have HO1067:=Aside0.mk (Kd.V_lower (Kd.V_mono (ok':=fun k_ => k_ ≠ gb1059 ∧ k_ ≠ gb1060 ∧ k_ ≠ gb1061) ho0 (fun k_ hk_ => ⟨(Kd.freshB (qB BK1059.out) k_ hk_),(Kd.freshB (qB BK1060.out) k_ hk_),(Kd.freshB (qB BK1061.out) k_ hk_)⟩)) (below_size (qS HB)))
     replace BK1059:=qb BK1059 hb
     replace BK1060:=qb BK1060 hb
     replace BK1061:=qb BK1061 hb
     replace HB:=qs HB hb
     clear hb ho0
     refine hK.out _ _ ⟨bc BK1059,bc BK1060⟩ (fun hHeld => ?_)
     clear hK K
     refine qO 25 ?_
     refine qP 5 20 HT_ ?_
     refine qP 6 26 HT_ ?_
     refine qP 7 27 HT_ ?_
     refine q1 8 (some 10) HT_ rfl (fun K hK => ?_)
     refine box_step ?hg (N:=10) ?hd (cs:=#[.slice none 0 0]) (t:=38) ?hr ?_;(case hd => rfl);(case hg => rfl);(case hr => first|(go_simp;done)|(go_simp;rfl))
     intro gb1069 hg w33 hbox hb
     replace HO1052:=qVe HO1052 hb hg
     replace HO1055:=qVe HO1055 hb hg
     replace HO1058:=qVe HO1058 hb hg
     replace HO1064:=qVe HO1064 hb hg
     replace HO1067:=qVe HO1067 hb hg
     have BK1069:=Aside0.mk hbox
     have GE1069:=qh hg HB
     replace HB:=qs HB hb
     have NB1059_1069:=ql hg BK1059
     have NB1069_1059:=qg hg BK1059
     replace BK1059:=qb BK1059 hb
     have NB1060_1069:=ql hg BK1060
     have NB1069_1060:=qg hg BK1060
     replace BK1060:=qb BK1060 hb
     have NB1061_1069:=ql hg BK1061
     have NB1069_1061:=qg hg BK1061
     replace BK1061:=qb BK1061 hb
     clear hb hbox hg
     refine hK.out _ _ ⟨bc BK1059,bc BK1060⟩ (fun hHeld => ?_)
     clear hK K
     refine qO 10 ?_
     exact norm_ (by simp only [putAll,Act.put,List.setIfInBounds_toArray,List.set_cons_zero,List.set_cons_succ]) (hCont (.slice Ao31 t1062.length co31,v1066,gb1069) _ ⟨hHeld,(qVm HO1052),(qVm HO1055),(qVm HO1058),(qVm HO1064),(qVm HO1067),(qB BK1059.out),(qB BK1060.out),(qB BK1061.out),(qB BK1069.out),GE1069.out,GE1069.out,NB1059_1069.out,NB1069_1059.out,NB1060_1069.out,NB1069_1060.out,NB1061_1069.out,NB1069_1061.out,(qS HB)⟩)
    ·skip
     refine box_step ?hg (N:=10) ?hd (cs:=#[.slice none 0 0]) (t:=38) ?hr ?_;(case hd => rfl);(case hg => rfl);(case hr => first|(go_simp;done)|(go_simp;rfl))
     intro gb1069 hg w31 hbox hb
     replace HO1052:=qVe HO1052 hb hg
     replace HO1055:=qVe HO1055 hb hg
     replace HO1058:=qVe HO1058 hb hg
     replace HO1064:=qVe HO1064 hb hg
     have BK1069:=Aside0.mk hbox
     have GE1069:=qh hg HB
     replace HB:=qs HB hb
     have NB1059_1069:=ql hg BK1059
     have NB1069_1059:=qg hg BK1059
     replace BK1059:=qb BK1059 hb
     have NB1060_1069:=ql hg BK1060
     have NB1069_1060:=qg hg BK1060
     replace BK1060:=qb BK1060 hb
     have NB1061_1069:=ql hg BK1061
     have NB1069_1061:=qg hg BK1061
     replace BK1061:=qb BK1061 hb
     clear hb hbox hg
     obtain ⟨Ao32,co32,eo32⟩:=Kd.V_slice HO1064.out
     (first|subst eo32|(injection eo32 with f1_ f2_ f3_;have f4_:=f1_.symm;have f5_:=f3_.symm;clear f1_ f2_ f3_;subst f4_;subst f5_))
     refine hK.out _ _ ⟨bc BK1059,bc BK1060⟩ (fun hHeld => ?_)
     clear hK K
     refine qO 10 ?_
     refine q1 4 (some 25) HT_ rfl (fun K hK => ?_)
     refine g_ Try.func62 #[.agg #[.slice Ao32 t1062.length co32],.agg #[.slice Ao23 t1053.length co23]] ?_
     with_reducible refine (nat_Nat_Sub.calls k _ _ t1062 _ _ t1053 t1065 t1068 _ ?side1 ?side2 ?side3 ?side4 A10.out).mono ?_
     (case side1 => exact qCV HO1064)
     (case side2 => exact qL HO1064)
     (case side3 => exact qCV HO1055)
     (case side4 => exact qL HO1055)
     rintro e w33 ⟨v1066,rfl,ho0,hb⟩
     refine ⟨_,rfl,?_⟩
     replace HO1052:=qVb HO1052 hb
     replace HO1055:=qVb HO1055 hb
     replace HO1058:=qVb HO1058 hb
     replace HO1064:=qVb HO1064 hb
     have HO1067:=Aside0.mk (Kd.V_lower (Kd.V_mono (ok':=fun k_ => k_ ≠ gb1059 ∧ k_ ≠ gb1060 ∧ k_ ≠ gb1061 ∧ k_ ≠ gb1069) ho0 (fun k_ hk_ => ⟨(Kd.freshB (qB BK1059.out) k_ hk_),(Kd.freshB (qB BK1060.out) k_ hk_),(Kd.freshB (qB BK1061.out) k_ hk_),(Kd.freshB (qB BK1069.out) k_ hk_)⟩)) (below_size (qS HB)))
     replace BK1059:=qb BK1059 hb
     replace BK1060:=qb BK1060 hb
     replace BK1061:=qb BK1061 hb
     replace BK1069:=qb BK1069 hb
     replace HB:=qs HB hb
     clear hb ho0
     refine hK.out _ _ ⟨bc BK1059,bc BK1060⟩ (fun hHeld => ?_)
     clear hK K
     refine qO 25 ?_
     refine qP 5 20 HT_ ?_
     refine qP 6 26 HT_ ?_
     refine qP 7 27 HT_ ?_
     exact norm_ (by simp only [putAll,Act.put,List.setIfInBounds_toArray,List.set_cons_zero,List.set_cons_succ]) (hCont (.slice Ao32 t1062.length co32,v1066,gb1069) _ ⟨hHeld,(qVm HO1052),(qVm HO1055),(qVm HO1058),(qVm HO1064),(qVm HO1067),(qB BK1059.out),(qB BK1060.out),(qB BK1061.out),(qB BK1069.out),GE1069.out,GE1069.out,NB1059_1069.out,NB1069_1059.out,NB1060_1069.out,NB1069_1060.out,NB1061_1069.out,NB1069_1061.out,(qS HB)⟩)
   ·skip
    refine box_step ?hg (N:=10) ?hd (cs:=#[.slice none 0 0]) (t:=38) ?hr ?_;(case hd => rfl);(case hg => rfl);(case hr => first|(go_simp;done)|(go_simp;rfl))
    intro gb1069 hg w30 hbox hb
    replace HO1052:=qVe HO1052 hb hg
    replace HO1055:=qVe HO1055 hb hg
    replace HO1058:=qVe HO1058 hb hg
    have BK1069:=Aside0.mk hbox
    have GE1069:=qh hg HB
    replace HB:=qs HB hb
    have NB1059_1069:=ql hg BK1059
    have NB1069_1059:=qg hg BK1059
    replace BK1059:=qb BK1059 hb
    have NB1060_1069:=ql hg BK1060
    have NB1069_1060:=qg hg BK1060
    replace BK1060:=qb BK1060 hb
    have NB1061_1069:=ql hg BK1061
    have NB1069_1061:=qg hg BK1061
    replace BK1061:=qb BK1061 hb
    clear hb hbox hg
    refine hK.out _ _ ⟨bc BK1059,bc BK1060⟩ (fun hHeld => ?_)
    clear hK K
    refine qO 10 ?_
    refine q1 2 (some 23) HT_ rfl (fun K hK => ?_)
    refine g_ Try.func60 #[.agg #[.slice Ao19 t1050.length co19],.agg #[.slice Ao23 t1053.length co23]] ?_
    with_reducible refine (nat_Nat_Add.calls k _ _ t1050 _ _ t1053 t1062 _ ?side1 ?side2 ?side3 ?side4 A9.out).mono ?_
    (case side1 => exact qCV HO1052)
    (case side2 => exact qL HO1052)
    (case side3 => exact qCV HO1055)
    (case side4 => exact qL HO1055)
    rintro e w31 ⟨v1063,rfl,ho0,hb⟩
    refine ⟨_,rfl,?_⟩
    replace HO1052:=qVb HO1052 hb
    replace HO1055:=qVb HO1055 hb
    replace HO1058:=qVb HO1058 hb
    have HO1064:=Aside0.mk (Kd.V_lower (Kd.V_mono (ok':=fun k_ => k_ ≠ gb1059 ∧ k_ ≠ gb1060 ∧ k_ ≠ gb1061 ∧ k_ ≠ gb1069) ho0 (fun k_ hk_ => ⟨(Kd.freshB (qB BK1059.out) k_ hk_),(Kd.freshB (qB BK1060.out) k_ hk_),(Kd.freshB (qB BK1061.out) k_ hk_),(Kd.freshB (qB BK1069.out) k_ hk_)⟩)) (below_size (qS HB)))
    replace BK1059:=qb BK1059 hb
    replace BK1060:=qb BK1060 hb
    replace BK1061:=qb BK1061 hb
    replace BK1069:=qb BK1069 hb
    replace HB:=qs HB hb
    clear hb ho0
    obtain ⟨Ao32,co32,eo32⟩:=Kd.V_slice HO1064.out
    (first|subst eo32|(injection eo32 with f1_ f2_ f3_;have f4_:=f1_.symm;have f5_:=f3_.symm;clear f1_ f2_ f3_;subst f4_;subst f5_))
    refine hK.out _ _ ⟨bc BK1059,bc BK1060⟩ (fun hHeld => ?_)
    clear hK K
    refine qO 23 ?_
    refine q1 4 (some 25) HT_ rfl (fun K hK => ?_)
    refine g_ Try.func62 #[.agg #[.slice Ao32 t1062.length co32],.agg #[.slice Ao23 t1053.length co23]] ?_
    with_reducible refine (nat_Nat_Sub.calls k _ _ t1062 _ _ t1053 t1065 t1068 _ ?side1 ?side2 ?side3 ?side4 A10.out).mono ?_
    (case side1 => exact qCV HO1064)
    (case side2 => exact qL HO1064)
    (case side3 => exact qCV HO1055)
    (case side4 => exact qL HO1055)
    rintro e w33 ⟨v1066,rfl,ho0,hb⟩
    refine ⟨_,rfl,?_⟩
    replace HO1052:=qVb HO1052 hb
    replace HO1055:=qVb HO1055 hb
    replace HO1058:=qVb HO1058 hb
    replace HO1064:=qVb HO1064 hb
    have HO1067:=Aside0.mk (Kd.V_lower (Kd.V_mono (ok':=fun k_ => k_ ≠ gb1059 ∧ k_ ≠ gb1060 ∧ k_ ≠ gb1061 ∧ k_ ≠ gb1069) ho0 (fun k_ hk_ => ⟨(Kd.freshB (qB BK1059.out) k_ hk_),(Kd.freshB (qB BK1060.out) k_ hk_),(Kd.freshB (qB BK1061.out) k_ hk_),(Kd.freshB (qB BK1069.out) k_ hk_)⟩)) (below_size (qS HB)))
    replace BK1059:=qb BK1059 hb
    replace BK1060:=qb BK1060 hb
    replace BK1061:=qb BK1061 hb
    replace BK1069:=qb BK1069 hb
    replace HB:=qs HB hb
    clear hb ho0
    refine hK.out _ _ ⟨bc BK1059,bc BK1060⟩ (fun hHeld => ?_)
    clear hK K
    refine qO 25 ?_
    refine qP 5 20 HT_ ?_
    refine qP 6 26 HT_ ?_
    refine qP 7 27 HT_ ?_
    exact norm_ (by simp only [putAll,Act.put,List.setIfInBounds_toArray,List.set_cons_zero,List.set_cons_succ]) (hCont (.slice Ao32 t1062.length co32,v1066,gb1069) _ ⟨hHeld,(qVm HO1052),(qVm HO1055),(qVm HO1058),(qVm HO1064),(qVm HO1067),(qB BK1059.out),(qB BK1060.out),(qB BK1061.out),(qB BK1069.out),GE1069.out,GE1069.out,NB1059_1069.out,NB1069_1059.out,NB1060_1069.out,NB1069_1060.out,NB1061_1069.out,NB1069_1061.out,(qS HB)⟩)
  rintro ⟨v1063,v1066,gb1069⟩ w34 ⟨hS_,h0_,h1_,h2_,h3_,h4_,h5_,h6_,h7_,h8_,h9_,h10_,h11_,h12_,h13_,h14_,h15_,h16_,h17_⟩
  have n0_ : Aside0 (Kd.V (Kd.int .u32) 23 w34 w.heap.size (fun k_ => k_ ≠ gb1059 ∧ k_ ≠ gb1060 ∧ k_ ≠ gb1061 ∧ k_ ≠ gb1069) (.slice Ao19 t1050.length co19) t1050):=⟨h0_⟩
  have n1_ : Aside0 (Kd.V (Kd.int .u32) 23 w34 w.heap.size (fun k_ => k_ ≠ gb1059 ∧ k_ ≠ gb1060 ∧ k_ ≠ gb1061 ∧ k_ ≠ gb1069) (.slice Ao23 t1053.length co23) t1053):=⟨h1_⟩
  have n2_ : Aside0 (Kd.V (Kd.int .u32) 23 w34 w.heap.size (fun k_ => k_ ≠ gb1059 ∧ k_ ≠ gb1060 ∧ k_ ≠ gb1061 ∧ k_ ≠ gb1069) (.slice Ao26 t1056.length co26) t1056):=⟨h2_⟩
  have n3_ : Aside0 (Kd.V (Kd.int .u32) 23 w34 w.heap.size (fun k_ => k_ ≠ gb1059 ∧ k_ ≠ gb1060 ∧ k_ ≠ gb1061 ∧ k_ ≠ gb1069) v1063 t1062):=⟨h3_⟩
  have n4_ : Aside0 (Kd.V (Kd.int .u32) 23 w34 w.heap.size (fun k_ => k_ ≠ gb1059 ∧ k_ ≠ gb1060 ∧ k_ ≠ gb1061 ∧ k_ ≠ gb1069) v1066 t1065):=⟨h4_⟩
  have n5_ : Aside0 (w34.heap[gb1059]? = some (.cells #[.slice Ao19 t1050.length co19] 38 (0,0))):=⟨h5_⟩
  have n6_ : Aside0 (w34.heap[gb1060]? = some (.cells #[.slice Ao23 t1053.length co23] 38 (0,0))):=⟨h6_⟩
  have n7_ : Aside0 (w34.heap[gb1061]? = some (.cells #[.slice Ao26 t1056.length co26] 38 (0,0))):=⟨h7_⟩
  have n8_ : Aside0 (w34.heap[gb1069]? = some (.cells #[.slice none 0 0] 38 (0,0))):=⟨h8_⟩
  have n9_ : Aside0 (w.heap.size ≤ gb1069):=⟨h9_⟩
  have n10_ : Aside0 (w.heap.size ≤ gb1069):=⟨h10_⟩
  have n11_ : Aside0 (gb1059 ≠ gb1069):=⟨h11_⟩
  have n12_ : Aside0 (gb1069 ≠ gb1059):=⟨h12_⟩
  have n13_ : Aside0 (gb1060 ≠ gb1069):=⟨h13_⟩
  have n14_ : Aside0 (gb1069 ≠ gb1060):=⟨h14_⟩
  have n15_ : Aside0 (gb1061 ≠ gb1069):=⟨h15_⟩
  have n16_ : Aside0 (gb1069 ≠ gb1061):=⟨h16_⟩
  have n17_ : Aside0 (Below w.heap.size w w34):=⟨h17_⟩
  clear HO1052
  clear HO1055
  clear HO1058
  clear BK1059
  clear BK1060
  clear BK1061
  clear HB
  clear h0_ h1_ h2_ h3_ h4_ h5_ h6_ h7_ h8_ h9_ h10_ h11_ h12_ h13_ h14_ h15_ h16_ h17_
  have HO1052:=n0_
  have HO1055:=n1_
  have HO1058:=n2_
  have HO1064:=n3_
  have HO1067:=n4_
  have BK1059:=n5_
  have BK1060:=n6_
  have BK1061:=n7_
  have BK1069:=n8_
  have GE1069:=n9_
  have GE1069:=n10_
  have NB1059_1069:=n11_
  have NB1069_1059:=n12_
  have NB1060_1069:=n13_
  have NB1069_1060:=n14_
  have NB1061_1069:=n15_
  have NB1069_1061:=n16_
  have HB:=n17_
  clear n0_ n1_ n2_ n3_ n4_ n5_ n6_ n7_ n8_ n9_ n10_ n11_ n12_ n13_ n14_ n15_ n16_ n17_
  have hHeld : w34.cell? ⟨gb1059,0,none⟩ = some (.slice Ao19 t1050.length co19) ∧ w34.cell? ⟨gb1060,0,none⟩ = some (.slice Ao23 t1053.length co23):=hS_
  obtain ⟨Ao35,co35,eo35⟩:=Kd.V_slice HO1067.out
  (first|subst eo35|(injection eo35 with f1_ f2_ f3_;have f4_:=f1_.symm;have f5_:=f3_.symm;clear f1_ f2_ f3_;subst f4_;subst f5_))
  refine norm_ (a':=?_) ?_ ?_
  rotate_left
  ·simp only [putAll,Act.put,List.setIfInBounds_toArray,List.set_cons_zero,List.set_cons_succ]
   rfl
  refine q1 9 none HT_ rfl (fun K hK => ?_)
  have hs36 : w34.cell? ⟨gb1069,0,none⟩ = some (.slice none 0 0):=bc BK1069
  have hfs36:=blk_frozen BK1069.out 0
  have hns36_0:=NB1059_1069.out
  have hns36_1:=NB1060_1069.out
  have hns36_2:=NB1061_1069.out
  have hms36_0:=NB1069_1059.out
  have hms36_1:=NB1069_1060.out
  have hms36_2:=NB1069_1061.out
  refine skip_ (w1:=?_) (by rfl) rfl ?_ ?_
  rotate_left
  ·go_simp
   rfl
  refine hK.out _ _ ⟨((cell_far (p:=⟨gb1069,_,none⟩) NB1059_1069.out _).trans (hHeld.1)),((cell_far (p:=⟨gb1069,_,none⟩) NB1060_1069.out _).trans (hHeld.2))⟩ (fun hHeld => ?_)
  clear hK K
  refine qP 10 11 HT_ ?_
  refine qD HT_ ?_
  go_upto_region 5 with (fail)
  go_cut [69] (fun v69 wc => ∃ (kq : Nat) (x69_10 : Bool),v69 = .bool x69_10 ∧ Aside0 (sacristylaw01_NatRules.j0 kq x69_10 t1050 t1053 t1056 = some r) ∧ Aside0 (kq ≤ k) ∧ Aside0 (Kd.V (Kd.int .u32) 23 wc w.heap.size (fun k_ => k_ ≠ gb1059 ∧ k_ ≠ gb1060 ∧ k_ ≠ gb1061 ∧ k_ ≠ gb1069) (.slice Ao19 t1050.length co19) t1050) ∧ Aside0 (Kd.V (Kd.int .u32) 23 wc w.heap.size (fun k_ => k_ ≠ gb1059 ∧ k_ ≠ gb1060 ∧ k_ ≠ gb1061 ∧ k_ ≠ gb1069) (.slice Ao23 t1053.length co23) t1053) ∧ Aside0 (Kd.V (Kd.int .u32) 23 wc w.heap.size (fun k_ => k_ ≠ gb1059 ∧ k_ ≠ gb1060 ∧ k_ ≠ gb1061 ∧ k_ ≠ gb1069) (.slice Ao26 t1056.length co26) t1056) ∧ Aside0 (Kd.V (Kd.int .u32) 23 wc w.heap.size (fun k_ => k_ ≠ gb1059 ∧ k_ ≠ gb1060 ∧ k_ ≠ gb1061 ∧ k_ ≠ gb1069) (.slice Ao35 t1065.length co35) t1065) ∧ Aside0 (wc.heap[gb1059]? = some (.cells #[(.slice Ao19 t1050.length co19)] 38 (0,0))) ∧ Aside0 (wc.heap[gb1060]? = some (.cells #[(.slice Ao23 t1053.length co23)] 38 (0,0))) ∧ Aside0 (wc.heap[gb1061]? = some (.cells #[(.slice Ao26 t1056.length co26)] 38 (0,0))) ∧ Aside0 (wc.heap[gb1069]? = some (.cells #[(.slice Ao35 t1065.length co35)] 38 (0,0))) ∧ Aside0 (Below w.heap.size w wc))
  case first =>
   have H:=HC11.out
   clear HC11
   by_cases c37 : t1068 = true
   ·subst c37
    rw [if_pos rfl] at H
    obtain ⟨t1070,A38,H⟩:=qH H
    by_cases c39 : t1070 = 0
    ·rw [if_pos c39] at H
     have c39b0 : (t1070 == 0) = true:=beq_iff_eq.mpr c39
     have c39b1 : (t1070 != 0) = false:=bne_eq_false_iff_eq.mpr c39
     clear c39
     (first|rw [c39b0]|(simp only [i64_w,i32_w];rw [c39b0])|skip)
     obtain ⟨t1071,A40,H⟩:=qH H
     obtain ⟨t1074,A41,H⟩:=qH H
     obtain ⟨t1077,A42,H⟩:=qH H
     by_cases c43 : t1077 = 0
     ·rw [if_pos c43] at H
      have c43b0 : (t1077 == 0) = true:=beq_iff_eq.mpr c43
      have c43b1 : (t1077 != 0) = false:=bne_eq_false_iff_eq.mpr c43
      clear c43
      obtain ⟨t1078,A44,H⟩:=qH H
      obtain ⟨t1081,A45,H⟩:=qH H
      obtain ⟨t1084,A46,H⟩:=qH H
      by_cases c47 : t1084 = 0
      ·rw [if_pos c47] at H
       have c47b0 : (t1084 == 0) = true:=beq_iff_eq.mpr c47
       have c47b1 : (t1084 != 0) = false:=bne_eq_false_iff_eq.mpr c47
       clear c47
       obtain ⟨t1085,A48,H⟩:=qH H
       obtain ⟨t1088,A49,H⟩:=qH H
       obtain ⟨t1091,A50,H⟩:=qH H
       obtain ⟨t1094,A51,H⟩:=qH H
       obtain ⟨t1097,A52,H⟩:=qH H
       have H':=Aside0.mk H
       clear H
       try go_wp2
       generalize hw : (w34.setCell ⟨gb1069,0,none⟩ (.slice Ao35 t1065.length co35)) = w53
       replace hw:=hw.symm
       replace HO1052:=qVh hw HO1052
       replace HO1055:=qVh hw HO1055
       replace HO1058:=qVh hw HO1058
       replace HO1064:=qVh hw HO1064
       replace HO1067:=qVh hw HO1067
       replace BK1059:=qBh hw BK1059
       replace BK1060:=qBh hw BK1060
       replace BK1061:=qBh hw BK1061
       replace BK1069:=qBp hw BK1069
       replace HB:=qSh hw HB
       clear hw
       replace HO1052:=qVw HO1052
       replace HO1055:=qVw HO1055
       replace HO1058:=qVw HO1058
       replace HO1064:=qVw HO1064
       replace HO1067:=qVw HO1067
       replace BK1059:=qbd BK1059
       replace BK1060:=qbd BK1060
       replace BK1061:=qbd BK1061
       replace BK1069:=qbd BK1069
       replace HB:=qsd HB
       refine start_ (n:=42) (S:=fun w' => w'.cell? ⟨gb1069,0,none⟩ = some (.slice Ao35 t1065.length co35) ∧ w'.cell? ⟨gb1059,0,none⟩ = some (.slice Ao19 t1050.length co19) ∧ w'.cell? ⟨gb1060,0,none⟩ = some (.slice Ao23 t1053.length co23) ∧ w'.cell? ⟨gb1061,0,none⟩ = some (.slice Ao26 t1056.length co26)) (ds:=[]) #[false,false,false,false,false,false,false,false,false,false,false,false,false,false,false,false,false,false,false,false,false,false,false,false,false,false,false,false,false,false,false,false,false,false,false,false,false,false,false,false,false,false] (by kernel_rfl) rfl rfl ⟨bc BK1069,bc BK1059,bc BK1060,bc BK1061⟩ (fun hHeld => ?_);refine with_tabW sacristylaw01_NatRules.tab5 sacristylaw01_NatRules.bits5 (fun HT_ HW_ => ?_)
       generalize w53.drew = w54 at HO1052 HO1055 HO1058 HO1064 HO1067 BK1059 BK1060 BK1061 BK1069 HB hHeld ⊢
       refine qP 0 28 HT_ ?_
       refine qP 1 29 HT_ ?_
       refine qP 2 30 HT_ ?_
       refine qT 3 31 HT_ HW_ hHeld ?_
       refine qT 4 32 HT_ HW_ hHeld ?_
       refine q1 5 (some 33) HT_ rfl (fun K hK => ?_)
       refine g_ Try.func45 #[.agg #[.slice Ao35 t1065.length co35],.agg #[.slice Ao19 t1050.length co19]] ?_
       with_reducible refine (nat_Nat_Cmp.calls k _ _ t1065 _ _ t1050 t1070 _ ?side1 ?side2 ?side3 ?side4 A38.out).mono ?_
       (case side1 => exact qCV HO1067)
       (case side2 => exact qL HO1067)
       (case side3 => exact qCV HO1052)
       (case side4 => exact qL HO1052)
       rintro e w55 ⟨rfl,hb⟩
       refine ⟨_,rfl,?_⟩
       replace HO1052:=qVb HO1052 hb
       replace HO1055:=qVb HO1055 hb
       replace HO1058:=qVb HO1058 hb
       replace HO1064:=qVb HO1064 hb
       replace HO1067:=qVb HO1067 hb
       replace BK1059:=qb BK1059 hb
       replace BK1060:=qb BK1060 hb
       replace BK1061:=qb BK1061 hb
       replace BK1069:=qb BK1069 hb
       replace HB:=qs HB hb
       clear hb
       refine hK.out _ _ ⟨bc BK1069,bc BK1059,bc BK1060,bc BK1061⟩ (fun hHeld => ?_)
       clear hK K
       refine qO 33 ?_
       refine qP 6 34 HT_ ?_
       refine qP 7 35 HT_ ?_
       refine qP 8 36 HT_ ?_
       refine qT 9 37 HT_ HW_ hHeld ?_
       refine qT 10 38 HT_ HW_ hHeld ?_
       refine qT 12 40 HT_ HW_ hHeld ?_
       refine qT 13 41 HT_ HW_ hHeld ?_
       refine q1 11 (some 39) HT_ rfl (fun K hK => ?_)
       refine g_ Try.func60 #[.agg #[.slice Ao19 t1050.length co19],.agg #[.slice Ao23 t1053.length co23]] ?_
       with_reducible refine (nat_Nat_Add.calls k _ _ t1050 _ _ t1053 t1071 _ ?side1 ?side2 ?side3 ?side4 A40.out).mono ?_
       (case side1 => exact qCV HO1052)
       (case side2 => exact qL HO1052)
       (case side3 => exact qCV HO1055)
       (case side4 => exact qL HO1055)
       rintro e w56 ⟨v1072,rfl,ho0,hb⟩
       refine ⟨_,rfl,?_⟩
       replace HO1052:=qVb HO1052 hb
       replace HO1055:=qVb HO1055 hb
       replace HO1058:=qVb HO1058 hb
       replace HO1064:=qVb HO1064 hb
       replace HO1067:=qVb HO1067 hb
       have HO1073:=Aside0.mk (Kd.V_lower (Kd.V_mono (ok':=fun k_ => k_ ≠ gb1059 ∧ k_ ≠ gb1060 ∧ k_ ≠ gb1061 ∧ k_ ≠ gb1069) ho0 (fun k_ hk_ => ⟨(Kd.freshB (qB BK1059.out) k_ hk_),(Kd.freshB (qB BK1060.out) k_ hk_),(Kd.freshB (qB BK1061.out) k_ hk_),(Kd.freshB (qB BK1069.out) k_ hk_)⟩)) (below_size (qS HB)))
       replace BK1059:=qb BK1059 hb
       replace BK1060:=qb BK1060 hb
       replace BK1061:=qb BK1061 hb
       replace BK1069:=qb BK1069 hb
       replace HB:=qs HB hb
       clear hb ho0
       refine hK.out _ _ ⟨bc BK1069,bc BK1059,bc BK1060,bc BK1061⟩ (fun hHeld => ?_)
       clear hK K
       refine qO 39 ?_
       refine q1 14 (some 42) HT_ rfl (fun K hK => ?_)
       refine g_ Try.func60 #[.agg #[.slice Ao23 t1053.length co23],.agg #[.slice Ao19 t1050.length co19]] ?_
       with_reducible refine (nat_Nat_Add.calls k _ _ t1053 _ _ t1050 t1074 _ ?side1 ?side2 ?side3 ?side4 A41.out).mono ?_
       (case side1 => exact qCV HO1055)
       (case side2 => exact qL HO1055)
       (case side3 => exact qCV HO1052)
       (case side4 => exact qL HO1052)
       rintro e w57 ⟨v1075,rfl,ho0,hb⟩
       refine ⟨_,rfl,?_⟩
       replace HO1052:=qVb HO1052 hb
       replace HO1055:=qVb HO1055 hb
       replace HO1058:=qVb HO1058 hb
       replace HO1064:=qVb HO1064 hb
       replace HO1067:=qVb HO1067 hb
       replace HO1073:=qVb HO1073 hb
       have HO1076:=Aside0.mk (Kd.V_lower (Kd.V_mono (ok':=fun k_ => k_ ≠ gb1059 ∧ k_ ≠ gb1060 ∧ k_ ≠ gb1061 ∧ k_ ≠ gb1069) ho0 (fun k_ hk_ => ⟨(Kd.freshB (qB BK1059.out) k_ hk_),(Kd.freshB (qB BK1060.out) k_ hk_),(Kd.freshB (qB BK1061.out) k_ hk_),(Kd.freshB (qB BK1069.out) k_ hk_)⟩)) (below_size (qS HB)))
       replace BK1059:=qb BK1059 hb
       replace BK1060:=qb BK1060 hb
       replace BK1061:=qb BK1061 hb
       replace BK1069:=qb BK1069 hb
       replace HB:=qs HB hb
       clear hb ho0
       obtain ⟨Ao58,co58,eo58⟩:=Kd.V_slice HO1073.out
       (first|subst eo58|(injection eo58 with f1_ f2_ f3_;have f4_:=f1_.symm;have f5_:=f3_.symm;clear f1_ f2_ f3_;subst f4_;subst f5_))
       obtain ⟨Ao59,co59,eo59⟩:=Kd.V_slice HO1076.out
       (first|subst eo59|(injection eo59 with f1_ f2_ f3_;have f4_:=f1_.symm;have f5_:=f3_.symm;clear f1_ f2_ f3_;subst f4_;subst f5_))
       refine hK.out _ _ ⟨bc BK1069,bc BK1059,bc BK1060,bc BK1061⟩ (fun hHeld => ?_)
       clear hK K
       refine qO 42 ?_
       refine q1 15 (some 43) HT_ rfl (fun K hK => ?_)
       refine g_ Try.func45 #[.agg #[.slice Ao58 t1071.length co58],.agg #[.slice Ao59 t1074.length co59]] ?_
       with_reducible refine (nat_Nat_Cmp.calls k _ _ t1071 _ _ t1074 t1077 _ ?side1 ?side2 ?side3 ?side4 A42.out).mono ?_
       (case side1 => exact qCV HO1073)
       (case side2 => exact qL HO1073)
       (case side3 => exact qCV HO1076)
       (case side4 => exact qL HO1076)
       rintro e w60 ⟨rfl,hb⟩
       refine ⟨_,rfl,?_⟩
       replace HO1052:=qVb HO1052 hb
       replace HO1055:=qVb HO1055 hb
       replace HO1058:=qVb HO1058 hb
       replace HO1064:=qVb HO1064 hb
       replace HO1067:=qVb HO1067 hb
       replace HO1073:=qVb HO1073 hb
       replace HO1076:=qVb HO1076 hb
       replace BK1059:=qb BK1059 hb
       replace BK1060:=qb BK1060 hb
       replace BK1061:=qb BK1061 hb
       replace BK1069:=qb BK1069 hb
       replace HB:=qs HB hb
       clear hb
       refine hK.out _ _ ⟨bc BK1069,bc BK1059,bc BK1060,bc BK1061⟩ (fun hHeld => ?_)
       clear hK K
       refine qO 43 ?_
       refine qP 16 44 HT_ ?_
       refine qP 17 45 HT_ ?_
       refine qP 18 46 HT_ ?_
       refine qT 19 47 HT_ HW_ hHeld ?_
       refine qT 20 48 HT_ HW_ hHeld ?_
       refine qT 22 50 HT_ HW_ hHeld ?_
       refine qT 23 51 HT_ HW_ hHeld ?_
       refine q1 21 (some 49) HT_ rfl (fun K hK => ?_)
       refine g_ Try.func57 #[.agg #[.slice Ao19 t1050.length co19],.agg #[.slice Ao23 t1053.length co23]] ?_
       with_reducible refine (nat_Nat_Mul.calls k _ _ t1050 _ _ t1053 t1078 _ ?side1 ?side2 ?side3 ?side4 A44.out).mono ?_
       (case side1 => exact qCV HO1052)
       (case side2 => exact qL HO1052)
       (case side3 => exact qCV HO1055)
       (case side4 => exact qL HO1055)
       rintro e w61 ⟨v1079,rfl,ho0,hb⟩
       refine ⟨_,rfl,?_⟩
       replace HO1052:=qVb HO1052 hb
       replace HO1055:=qVb HO1055 hb
       replace HO1058:=qVb HO1058 hb
       replace HO1064:=qVb HO1064 hb
       replace HO1067:=qVb HO1067 hb
       replace HO1073:=qVb HO1073 hb
       replace HO1076:=qVb HO1076 hb
       have HO1080:=Aside0.mk (Kd.V_lower (Kd.V_mono (ok':=fun k_ => k_ ≠ gb1059 ∧ k_ ≠ gb1060 ∧ k_ ≠ gb1061 ∧ k_ ≠ gb1069) ho0 (fun k_ hk_ => ⟨(Kd.freshB (qB BK1059.out) k_ hk_),(Kd.freshB (qB BK1060.out) k_ hk_),(Kd.freshB (qB BK1061.out) k_ hk_),(Kd.freshB (qB BK1069.out) k_ hk_)⟩)) (below_size (qS HB)))
       replace BK1059:=qb BK1059 hb
       replace BK1060:=qb BK1060 hb
       replace BK1061:=qb BK1061 hb
       replace BK1069:=qb BK1069 hb
       replace HB:=qs HB hb
       clear hb ho0
       refine hK.out _ _ ⟨bc BK1069,bc BK1059,bc BK1060,bc BK1061⟩ (fun hHeld => ?_)
       clear hK K
       refine qO 49 ?_
       refine q1 24 (some 52) HT_ rfl (fun K hK => ?_)
       refine g_ Try.func57 #[.agg #[.slice Ao23 t1053.length co23],.agg #[.slice Ao19 t1050.length co19]] ?_
       with_reducible refine (nat_Nat_Mul.calls k _ _ t1053 _ _ t1050 t1081 _ ?side1 ?side2 ?side3 ?side4 A45.out).mono ?_
       (case side1 => exact qCV HO1055)
       (case side2 => exact qL HO1055)
       (case side3 => exact qCV HO1052)
       (case side4 => exact qL HO1052)
       rintro e w62 ⟨v1082,rfl,ho0,hb⟩
       refine ⟨_,rfl,?_⟩
       replace HO1052:=qVb HO1052 hb
       replace HO1055:=qVb HO1055 hb
       replace HO1058:=qVb HO1058 hb
       replace HO1064:=qVb HO1064 hb
       replace HO1067:=qVb HO1067 hb
       replace HO1073:=qVb HO1073 hb
       replace HO1076:=qVb HO1076 hb
       replace HO1080:=qVb HO1080 hb
       have HO1083:=Aside0.mk (Kd.V_lower (Kd.V_mono (ok':=fun k_ => k_ ≠ gb1059 ∧ k_ ≠ gb1060 ∧ k_ ≠ gb1061 ∧ k_ ≠ gb1069) ho0 (fun k_ hk_ => ⟨(Kd.freshB (qB BK1059.out) k_ hk_),(Kd.freshB (qB BK1060.out) k_ hk_),(Kd.freshB (qB BK1061.out) k_ hk_),(Kd.freshB (qB BK1069.out) k_ hk_)⟩)) (below_size (qS HB)))
       replace BK1059:=qb BK1059 hb
       replace BK1060:=qb BK1060 hb
       replace BK1061:=qb BK1061 hb
       replace BK1069:=qb BK1069 hb
       replace HB:=qs HB hb
       clear hb ho0
       obtain ⟨Ao63,co63,eo63⟩:=Kd.V_slice HO1080.out
       (first|subst eo63|(injection eo63 with f1_ f2_ f3_;have f4_:=f1_.symm;have f5_:=f3_.symm;clear f1_ f2_ f3_;subst f4_;subst f5_))
       obtain ⟨Ao64,co64,eo64⟩:=Kd.V_slice HO1083.out
       (first|subst eo64|(injection eo64 with f1_ f2_ f3_;have f4_:=f1_.symm;have f5_:=f3_.symm;clear f1_ f2_ f3_;subst f4_;subst f5_))
       refine hK.out _ _ ⟨bc BK1069,bc BK1059,bc BK1060,bc BK1061⟩ (fun hHeld => ?_)
       clear hK K
       refine qO 52 ?_
       refine q1 25 (some 53) HT_ rfl (fun K hK => ?_)
       refine g_ Try.func45 #[.agg #[.slice Ao63 t1078.length co63],.agg #[.slice Ao64 t1081.length co64]] ?_
       with_reducible refine (nat_Nat_Cmp.calls k _ _ t1078 _ _ t1081 t1084 _ ?side1 ?side2 ?side3 ?side4 A46.out).mono ?_
       (case side1 => exact qCV HO1080)
       (case side2 => exact qL HO1080)
       (case side3 => exact qCV HO1083)
       (case side4 => exact qL HO1083)
       rintro e w65 ⟨rfl,hb⟩
       refine ⟨_,rfl,?_⟩
       replace HO1052:=qVb HO1052 hb
       replace HO1055:=qVb HO1055 hb
       replace HO1058:=qVb HO1058 hb
       replace HO1064:=qVb HO1064 hb
       replace HO1067:=qVb HO1067 hb
       replace HO1073:=qVb HO1073 hb
       replace HO1076:=qVb HO1076 hb
       replace HO1080:=qVb HO1080 hb
       replace HO1083:=qVb HO1083 hb
       replace BK1059:=qb BK1059 hb
       replace BK1060:=qb BK1060 hb
       replace BK1061:=qb BK1061 hb
       replace BK1069:=qb BK1069 hb
       replace HB:=qs HB hb
       clear hb
       refine hK.out _ _ ⟨bc BK1069,bc BK1059,bc BK1060,bc BK1061⟩ (fun hHeld => ?_)
       clear hK K
       refine qO 53 ?_
       refine qP 26 54 HT_ ?_
       refine qP 27 55 HT_ ?_
       refine qP 28 56 HT_ ?_
       refine qT 29 57 HT_ HW_ hHeld ?_
       refine qT 30 58 HT_ HW_ hHeld ?_
       refine qT 32 60 HT_ HW_ hHeld ?_
       refine qT 34 62 HT_ HW_ hHeld ?_
       refine qT 35 63 HT_ HW_ hHeld ?_
       refine qT 36 64 HT_ HW_ hHeld ?_
       refine q1 31 (some 59) HT_ rfl (fun K hK => ?_)
       refine g_ Try.func60 #[.agg #[.slice Ao19 t1050.length co19],.agg #[.slice Ao23 t1053.length co23]] ?_
       with_reducible refine (nat_Nat_Add.calls k _ _ t1050 _ _ t1053 t1085 _ ?side1 ?side2 ?side3 ?side4 A48.out).mono ?_
       (case side1 => exact qCV HO1052)
       (case side2 => exact qL HO1052)
       (case side3 => exact qCV HO1055)
       (case side4 => exact qL HO1055)
       rintro e w66 ⟨v1086,rfl,ho0,hb⟩
       refine ⟨_,rfl,?_⟩
       replace HO1052:=qVb HO1052 hb
       replace HO1055:=qVb HO1055 hb
       replace HO1058:=qVb HO1058 hb
       replace HO1064:=qVb HO1064 hb
       replace HO1067:=qVb HO1067 hb
       replace HO1073:=qVb HO1073 hb
       replace HO1076:=qVb HO1076 hb
       replace HO1080:=qVb HO1080 hb
       replace HO1083:=qVb HO1083 hb
       have HO1087:=Aside0.mk (Kd.V_lower (Kd.V_mono (ok':=fun k_ => k_ ≠ gb1059 ∧ k_ ≠ gb1060 ∧ k_ ≠ gb1061 ∧ k_ ≠ gb1069) ho0 (fun k_ hk_ => ⟨(Kd.freshB (qB BK1059.out) k_ hk_),(Kd.freshB (qB BK1060.out) k_ hk_),(Kd.freshB (qB BK1061.out) k_ hk_),(Kd.freshB (qB BK1069.out) k_ hk_)⟩)) (below_size (qS HB)))
       replace BK1059:=qb BK1059 hb
       replace BK1060:=qb BK1060 hb
       replace BK1061:=qb BK1061 hb
       replace BK1069:=qb BK1069 hb
       replace HB:=qs HB hb
       clear hb ho0
       obtain ⟨Ao67,co67,eo67⟩:=Kd.V_slice HO1087.out
       (first|subst eo67|(injection eo67 with f1_ f2_ f3_;have f4_:=f1_.symm;have f5_:=f3_.symm;clear f1_ f2_ f3_;subst f4_;subst f5_))
       refine hK.out _ _ ⟨bc BK1069,bc BK1059,bc BK1060,bc BK1061⟩ (fun hHeld => ?_)
       clear hK K
       refine qO 59 ?_
       refine q1 33 (some 61) HT_ rfl (fun K hK => ?_)
       refine g_ Try.func60 #[.agg #[.slice Ao67 t1085.length co67],.agg #[.slice Ao26 t1056.length co26]] ?_
       with_reducible refine (nat_Nat_Add.calls k _ _ t1085 _ _ t1056 t1088 _ ?side1 ?side2 ?side3 ?side4 A49.out).mono ?_
       (case side1 => exact qCV HO1087)
       (case side2 => exact qL HO1087)
       (case side3 => exact qCV HO1058)
       (case side4 => exact qL HO1058)
       rintro e w68 ⟨v1089,rfl,ho0,hb⟩
       refine ⟨_,rfl,?_⟩
       replace HO1052:=qVb HO1052 hb
       replace HO1055:=qVb HO1055 hb
       replace HO1058:=qVb HO1058 hb
       replace HO1064:=qVb HO1064 hb
       replace HO1067:=qVb HO1067 hb
       replace HO1073:=qVb HO1073 hb
       replace HO1076:=qVb HO1076 hb
       replace HO1080:=qVb HO1080 hb
       replace HO1083:=qVb HO1083 hb
       replace HO1087:=qVb HO1087 hb
       have HO1090:=Aside0.mk (Kd.V_lower (Kd.V_mono (ok':=fun k_ => k_ ≠ gb1059 ∧ k_ ≠ gb1060 ∧ k_ ≠ gb1061 ∧ k_ ≠ gb1069) ho0 (fun k_ hk_ => ⟨(Kd.freshB (qB BK1059.out) k_ hk_),(Kd.freshB (qB BK1060.out) k_ hk_),(Kd.freshB (qB BK1061.out) k_ hk_),(Kd.freshB (qB BK1069.out) k_ hk_)⟩)) (below_size (qS HB)))
       replace BK1059:=qb BK1059 hb
       replace BK1060:=qb BK1060 hb
       replace BK1061:=qb BK1061 hb
       replace BK1069:=qb BK1069 hb
       replace HB:=qs HB hb
       clear hb ho0
       refine hK.out _ _ ⟨bc BK1069,bc BK1059,bc BK1060,bc BK1061⟩ (fun hHeld => ?_)
       clear hK K
       refine qO 61 ?_
       refine q1 37 (some 65) HT_ rfl (fun K hK => ?_)
       refine g_ Try.func60 #[.agg #[.slice Ao23 t1053.length co23],.agg #[.slice Ao26 t1056.length co26]] ?_
       with_reducible refine (nat_Nat_Add.calls k _ _ t1053 _ _ t1056 t1091 _ ?side1 ?side2 ?side3 ?side4 A50.out).mono ?_
       (case side1 => exact qCV HO1055)
       (case side2 => exact qL HO1055)
       (case side3 => exact qCV HO1058)
       (case side4 => exact qL HO1058)
       rintro e w69 ⟨v1092,rfl,ho0,hb⟩
       refine ⟨_,rfl,?_⟩
       replace HO1052:=qVb HO1052 hb
       replace HO1055:=qVb HO1055 hb
       replace HO1058:=qVb HO1058 hb
       replace HO1064:=qVb HO1064 hb
       replace HO1067:=qVb HO1067 hb
       replace HO1073:=qVb HO1073 hb
       replace HO1076:=qVb HO1076 hb
       replace HO1080:=qVb HO1080 hb
       replace HO1083:=qVb HO1083 hb
       replace HO1087:=qVb HO1087 hb
       replace HO1090:=qVb HO1090 hb
       have HO1093:=Aside0.mk (Kd.V_lower (Kd.V_mono (ok':=fun k_ => k_ ≠ gb1059 ∧ k_ ≠ gb1060 ∧ k_ ≠ gb1061 ∧ k_ ≠ gb1069) ho0 (fun k_ hk_ => ⟨(Kd.freshB (qB BK1059.out) k_ hk_),(Kd.freshB (qB BK1060.out) k_ hk_),(Kd.freshB (qB BK1061.out) k_ hk_),(Kd.freshB (qB BK1069.out) k_ hk_)⟩)) (below_size (qS HB)))
       replace BK1059:=qb BK1059 hb
       replace BK1060:=qb BK1060 hb
       replace BK1061:=qb BK1061 hb
       replace BK1069:=qb BK1069 hb
       replace HB:=qs HB hb
       clear hb ho0
       obtain ⟨Ao70,co70,eo70⟩:=Kd.V_slice HO1093.out
       (first|subst eo70|(injection eo70 with f1_ f2_ f3_;have f4_:=f1_.symm;have f5_:=f3_.symm;clear f1_ f2_ f3_;subst f4_;subst f5_))
       refine hK.out _ _ ⟨bc BK1069,bc BK1059,bc BK1060,bc BK1061⟩ (fun hHeld => ?_)
       clear hK K
       refine qO 65 ?_
       refine q1 38 (some 66) HT_ rfl (fun K hK => ?_)
       refine g_ Try.func60 #[.agg #[.slice Ao19 t1050.length co19],.agg #[.slice Ao70 t1091.length co70]] ?_
       with_reducible refine (nat_Nat_Add.calls k _ _ t1050 _ _ t1091 t1094 _ ?side1 ?side2 ?side3 ?side4 A51.out).mono ?_
       (case side1 => exact qCV HO1052)
       (case side2 => exact qL HO1052)
       (case side3 => exact qCV HO1093)
       (case side4 => exact qL HO1093)
       rintro e w71 ⟨v1095,rfl,ho0,hb⟩
       refine ⟨_,rfl,?_⟩
       replace HO1052:=qVb HO1052 hb
       replace HO1055:=qVb HO1055 hb
       replace HO1058:=qVb HO1058 hb
       replace HO1064:=qVb HO1064 hb
       replace HO1067:=qVb HO1067 hb
       replace HO1073:=qVb HO1073 hb
       replace HO1076:=qVb HO1076 hb
       replace HO1080:=qVb HO1080 hb
       replace HO1083:=qVb HO1083 hb
       replace HO1087:=qVb HO1087 hb
       replace HO1090:=qVb HO1090 hb
       replace HO1093:=qVb HO1093 hb
       have HO1096:=Aside0.mk (Kd.V_lower (Kd.V_mono (ok':=fun k_ => k_ ≠ gb1059 ∧ k_ ≠ gb1060 ∧ k_ ≠ gb1061 ∧ k_ ≠ gb1069) ho0 (fun k_ hk_ => ⟨(Kd.freshB (qB BK1059.out) k_ hk_),(Kd.freshB (qB BK1060.out) k_ hk_),(Kd.freshB (qB BK1061.out) k_ hk_),(Kd.freshB (qB BK1069.out) k_ hk_)⟩)) (below_size (qS HB)))
       replace BK1059:=qb BK1059 hb
       replace BK1060:=qb BK1060 hb
       replace BK1061:=qb BK1061 hb
       replace BK1069:=qb BK1069 hb
       replace HB:=qs HB hb
       clear hb ho0
       obtain ⟨Ao72,co72,eo72⟩:=Kd.V_slice HO1090.out
       (first|subst eo72|(injection eo72 with f1_ f2_ f3_;have f4_:=f1_.symm;have f5_:=f3_.symm;clear f1_ f2_ f3_;subst f4_;subst f5_))
       obtain ⟨Ao73,co73,eo73⟩:=Kd.V_slice HO1096.out
       (first|subst eo73|(injection eo73 with f1_ f2_ f3_;have f4_:=f1_.symm;have f5_:=f3_.symm;clear f1_ f2_ f3_;subst f4_;subst f5_))
       refine hK.out _ _ ⟨bc BK1069,bc BK1059,bc BK1060,bc BK1061⟩ (fun hHeld => ?_)
       clear hK K
       refine qO 66 ?_
       refine q1 39 (some 67) HT_ rfl (fun K hK => ?_)
       refine g_ Try.func45 #[.agg #[.slice Ao72 t1088.length co72],.agg #[.slice Ao73 t1094.length co73]] ?_
       with_reducible refine (nat_Nat_Cmp.calls k _ _ t1088 _ _ t1094 t1097 _ ?side1 ?side2 ?side3 ?side4 A52.out).mono ?_
       (case side1 => exact qCV HO1090)
       (case side2 => exact qL HO1090)
       (case side3 => exact qCV HO1096)
       (case side4 => exact qL HO1096)
       rintro e w74 ⟨rfl,hb⟩
       refine ⟨_,rfl,?_⟩
       replace HO1052:=qVb HO1052 hb
       replace HO1055:=qVb HO1055 hb
       replace HO1058:=qVb HO1058 hb
       replace HO1064:=qVb HO1064 hb
       replace HO1067:=qVb HO1067 hb
       replace HO1073:=qVb HO1073 hb
       replace HO1076:=qVb HO1076 hb
       replace HO1080:=qVb HO1080 hb
       replace HO1083:=qVb HO1083 hb
       replace HO1087:=qVb HO1087 hb
       replace HO1090:=qVb HO1090 hb
       replace HO1093:=qVb HO1093 hb
       replace HO1096:=qVb HO1096 hb
       replace BK1059:=qb BK1059 hb
       replace BK1060:=qb BK1060 hb
       replace BK1061:=qb BK1061 hb
       replace BK1069:=qb BK1069 hb
       replace HB:=qs HB hb
       clear hb
       refine hK.out _ _ ⟨bc BK1069,bc BK1059,bc BK1060,bc BK1061⟩ (fun hHeld => ?_)
       clear hK K
       refine qO 67 ?_
       refine qP 40 68 HT_ ?_
       refine qP 41 69 HT_ ?_
       refine qD HT_ ?_
       try go_wp2
       go_meet
       case rel => exact ⟨_,((t1097 != 0)),(by first|rfl|(simp;done)|(simp [*];done)),H',⟨by first|omega|exact Nat.le_refl _⟩,⟨qVm HO1052⟩,⟨qVm HO1055⟩,⟨qVm HO1058⟩,⟨qVm HO1067⟩,⟨qB BK1059.out⟩,⟨qB BK1060.out⟩,⟨qB BK1061.out⟩,⟨qB BK1069.out⟩,⟨qS HB⟩⟩
      ·rw [if_neg c47] at H
       have c47b0 : (t1084 == 0) = false:=beq_eq_false_iff_ne.mpr c47
       have c47b1 : (t1084 != 0) = true:=bne_iff_ne.mpr c47
       have H':=Aside0.mk H
       clear H
       try go_wp2
       generalize hw : (w34.setCell ⟨gb1069,0,none⟩ (.slice Ao35 t1065.length co35)) = w75
       replace hw:=hw.symm
       replace HO1052:=qVh hw HO1052
       replace HO1055:=qVh hw HO1055
       replace HO1058:=qVh hw HO1058
       replace HO1064:=qVh hw HO1064
       replace HO1067:=qVh hw HO1067
       replace BK1059:=qBh hw BK1059
       replace BK1060:=qBh hw BK1060
       replace BK1061:=qBh hw BK1061
       replace BK1069:=qBp hw BK1069
       replace HB:=qSh hw HB
       clear hw
       replace HO1052:=qVw HO1052
       replace HO1055:=qVw HO1055
       replace HO1058:=qVw HO1058
       replace HO1064:=qVw HO1064
       replace HO1067:=qVw HO1067
       replace BK1059:=qbd BK1059
       replace BK1060:=qbd BK1060
       replace BK1061:=qbd BK1061
       replace BK1069:=qbd BK1069
       replace HB:=qsd HB
       refine start_ (n:=42) (S:=fun w' => w'.cell? ⟨gb1069,0,none⟩ = some (.slice Ao35 t1065.length co35) ∧ w'.cell? ⟨gb1059,0,none⟩ = some (.slice Ao19 t1050.length co19) ∧ w'.cell? ⟨gb1060,0,none⟩ = some (.slice Ao23 t1053.length co23)) (ds:=[]) #[false,false,false,false,false,false,false,false,false,false,false,false,false,false,false,false,false,false,false,false,false,false,false,false,false,false,false,false,false,false,false,false,false,false,false,false,false,false,false,false,false,false] (by kernel_rfl) rfl rfl ⟨bc BK1069,bc BK1059,bc BK1060⟩ (fun hHeld => ?_);refine with_tabW sacristylaw01_NatRules.tab5 sacristylaw01_NatRules.bits5 (fun HT_ HW_ => ?_)
       generalize w75.drew = w76 at HO1052 HO1055 HO1058 HO1064 HO1067 BK1059 BK1060 BK1061 BK1069 HB hHeld ⊢
       refine qP 0 28 HT_ ?_
       refine qP 1 29 HT_ ?_
       refine qP 2 30 HT_ ?_
       refine qT 3 31 HT_ HW_ hHeld ?_
       refine qT 4 32 HT_ HW_ hHeld ?_
       refine q1 5 (some 33) HT_ rfl (fun K hK => ?_)
       refine g_ Try.func45 #[.agg #[.slice Ao35 t1065.length co35],.agg #[.slice Ao19 t1050.length co19]] ?_
       with_reducible refine (nat_Nat_Cmp.calls k _ _ t1065 _ _ t1050 t1070 _ ?side1 ?side2 ?side3 ?side4 A38.out).mono ?_
       (case side1 => exact qCV HO1067)
       (case side2 => exact qL HO1067)
       (case side3 => exact qCV HO1052)
       (case side4 => exact qL HO1052)
       rintro e w77 ⟨rfl,hb⟩
       refine ⟨_,rfl,?_⟩
       replace HO1052:=qVb HO1052 hb
       replace HO1055:=qVb HO1055 hb
       replace HO1058:=qVb HO1058 hb
       replace HO1064:=qVb HO1064 hb
       replace HO1067:=qVb HO1067 hb
       replace BK1059:=qb BK1059 hb
       replace BK1060:=qb BK1060 hb
       replace BK1061:=qb BK1061 hb
       replace BK1069:=qb BK1069 hb
       replace HB:=qs HB hb
       clear hb
       refine hK.out _ _ ⟨bc BK1069,bc BK1059,bc BK1060⟩ (fun hHeld => ?_)
       clear hK K
       refine qO 33 ?_
       refine qP 6 34 HT_ ?_
       refine qP 7 35 HT_ ?_
       refine qP 8 36 HT_ ?_
       refine qT 9 37 HT_ HW_ hHeld ?_
       refine qT 10 38 HT_ HW_ hHeld ?_
       refine qT 12 40 HT_ HW_ hHeld ?_
       refine qT 13 41 HT_ HW_ hHeld ?_
       refine q1 11 (some 39) HT_ rfl (fun K hK => ?_)
       refine g_ Try.func60 #[.agg #[.slice Ao19 t1050.length co19],.agg #[.slice Ao23 t1053.length co23]] ?_
       with_reducible refine (nat_Nat_Add.calls k _ _ t1050 _ _ t1053 t1071 _ ?side1 ?side2 ?side3 ?side4 A40.out).mono ?_
       (case side1 => exact qCV HO1052)
       (case side2 => exact qL HO1052)
       (case side3 => exact qCV HO1055)
       (case side4 => exact qL HO1055)
       rintro e w78 ⟨v1072,rfl,ho0,hb⟩
       refine ⟨_,rfl,?_⟩
       replace HO1052:=qVb HO1052 hb
       replace HO1055:=qVb HO1055 hb
       replace HO1058:=qVb HO1058 hb
       replace HO1064:=qVb HO1064 hb
       replace HO1067:=qVb HO1067 hb
       have HO1073:=Aside0.mk (Kd.V_lower (Kd.V_mono (ok':=fun k_ => k_ ≠ gb1059 ∧ k_ ≠ gb1060 ∧ k_ ≠ gb1061 ∧ k_ ≠ gb1069) ho0 (fun k_ hk_ => ⟨(Kd.freshB (qB BK1059.out) k_ hk_),(Kd.freshB (qB BK1060.out) k_ hk_),(Kd.freshB (qB BK1061.out) k_ hk_),(Kd.freshB (qB BK1069.out) k_ hk_)⟩)) (below_size (qS HB)))
       replace BK1059:=qb BK1059 hb
       replace BK1060:=qb BK1060 hb
       replace BK1061:=qb BK1061 hb
       replace BK1069:=qb BK1069 hb
       replace HB:=qs HB hb
       clear hb ho0
       refine hK.out _ _ ⟨bc BK1069,bc BK1059,bc BK1060⟩ (fun hHeld => ?_)
       clear hK K
       refine qO 39 ?_
       refine q1 14 (some 42) HT_ rfl (fun K hK => ?_)
       refine g_ Try.func60 #[.agg #[.slice Ao23 t1053.length co23],.agg #[.slice Ao19 t1050.length co19]] ?_
       with_reducible refine (nat_Nat_Add.calls k _ _ t1053 _ _ t1050 t1074 _ ?side1 ?side2 ?side3 ?side4 A41.out).mono ?_
       (case side1 => exact qCV HO1055)
       (case side2 => exact qL HO1055)
       (case side3 => exact qCV HO1052)
       (case side4 => exact qL HO1052)
       rintro e w79 ⟨v1075,rfl,ho0,hb⟩
       refine ⟨_,rfl,?_⟩
       replace HO1052:=qVb HO1052 hb
       replace HO1055:=qVb HO1055 hb
       replace HO1058:=qVb HO1058 hb
       replace HO1064:=qVb HO1064 hb
       replace HO1067:=qVb HO1067 hb
       replace HO1073:=qVb HO1073 hb
       have HO1076:=Aside0.mk (Kd.V_lower (Kd.V_mono (ok':=fun k_ => k_ ≠ gb1059 ∧ k_ ≠ gb1060 ∧ k_ ≠ gb1061 ∧ k_ ≠ gb1069) ho0 (fun k_ hk_ => ⟨(Kd.freshB (qB BK1059.out) k_ hk_),(Kd.freshB (qB BK1060.out) k_ hk_),(Kd.freshB (qB BK1061.out) k_ hk_),(Kd.freshB (qB BK1069.out) k_ hk_)⟩)) (below_size (qS HB)))
       replace BK1059:=qb BK1059 hb
       replace BK1060:=qb BK1060 hb
       replace BK1061:=qb BK1061 hb
       replace BK1069:=qb BK1069 hb
       replace HB:=qs HB hb
       clear hb ho0
       obtain ⟨Ao80,co80,eo80⟩:=Kd.V_slice HO1073.out
       (first|subst eo80|(injection eo80 with f1_ f2_ f3_;have f4_:=f1_.symm;have f5_:=f3_.symm;clear f1_ f2_ f3_;subst f4_;subst f5_))
       obtain ⟨Ao81,co81,eo81⟩:=Kd.V_slice HO1076.out
       (first|subst eo81|(injection eo81 with f1_ f2_ f3_;have f4_:=f1_.symm;have f5_:=f3_.symm;clear f1_ f2_ f3_;subst f4_;subst f5_))
       refine hK.out _ _ ⟨bc BK1069,bc BK1059,bc BK1060⟩ (fun hHeld => ?_)
       clear hK K
       refine qO 42 ?_
       refine q1 15 (some 43) HT_ rfl (fun K hK => ?_)
       refine g_ Try.func45 #[.agg #[.slice Ao80 t1071.length co80],.agg #[.slice Ao81 t1074.length co81]] ?_
       with_reducible refine (nat_Nat_Cmp.calls k _ _ t1071 _ _ t1074 t1077 _ ?side1 ?side2 ?side3 ?side4 A42.out).mono ?_
       (case side1 => exact qCV HO1073)
       (case side2 => exact qL HO1073)
       (case side3 => exact qCV HO1076)
       (case side4 => exact qL HO1076)
       rintro e w82 ⟨rfl,hb⟩
       refine ⟨_,rfl,?_⟩
       replace HO1052:=qVb HO1052 hb
       replace HO1055:=qVb HO1055 hb
       replace HO1058:=qVb HO1058 hb
       replace HO1064:=qVb HO1064 hb
       replace HO1067:=qVb HO1067 hb
       replace HO1073:=qVb HO1073 hb
       replace HO1076:=qVb HO1076 hb
       replace BK1059:=qb BK1059 hb
       replace BK1060:=qb BK1060 hb
       replace BK1061:=qb BK1061 hb
       replace BK1069:=qb BK1069 hb
       replace HB:=qs HB hb
       clear hb
       refine hK.out _ _ ⟨bc BK1069,bc BK1059,bc BK1060⟩ (fun hHeld => ?_)
       clear hK K
       refine qO 43 ?_
       refine qP 16 44 HT_ ?_
       refine qP 17 45 HT_ ?_
       refine qP 18 46 HT_ ?_
       refine qT 19 47 HT_ HW_ hHeld ?_
       refine qT 20 48 HT_ HW_ hHeld ?_
       refine qT 22 50 HT_ HW_ hHeld ?_
       refine qT 23 51 HT_ HW_ hHeld ?_
       refine q1 21 (some 49) HT_ rfl (fun K hK => ?_)
       refine g_ Try.func57 #[.agg #[.slice Ao19 t1050.length co19],.agg #[.slice Ao23 t1053.length co23]] ?_
       with_reducible refine (nat_Nat_Mul.calls k _ _ t1050 _ _ t1053 t1078 _ ?side1 ?side2 ?side3 ?side4 A44.out).mono ?_
       (case side1 => exact qCV HO1052)
       (case side2 => exact qL HO1052)
       (case side3 => exact qCV HO1055)
       (case side4 => exact qL HO1055)
       rintro e w83 ⟨v1079,rfl,ho0,hb⟩
       refine ⟨_,rfl,?_⟩
       replace HO1052:=qVb HO1052 hb
       replace HO1055:=qVb HO1055 hb
       replace HO1058:=qVb HO1058 hb
       replace HO1064:=qVb HO1064 hb
       replace HO1067:=qVb HO1067 hb
       replace HO1073:=qVb HO1073 hb
       replace HO1076:=qVb HO1076 hb
       have HO1080:=Aside0.mk (Kd.V_lower (Kd.V_mono (ok':=fun k_ => k_ ≠ gb1059 ∧ k_ ≠ gb1060 ∧ k_ ≠ gb1061 ∧ k_ ≠ gb1069) ho0 (fun k_ hk_ => ⟨(Kd.freshB (qB BK1059.out) k_ hk_),(Kd.freshB (qB BK1060.out) k_ hk_),(Kd.freshB (qB BK1061.out) k_ hk_),(Kd.freshB (qB BK1069.out) k_ hk_)⟩)) (below_size (qS HB)))
       replace BK1059:=qb BK1059 hb
       replace BK1060:=qb BK1060 hb
       replace BK1061:=qb BK1061 hb
       replace BK1069:=qb BK1069 hb
       replace HB:=qs HB hb
       clear hb ho0
       refine hK.out _ _ ⟨bc BK1069,bc BK1059,bc BK1060⟩ (fun hHeld => ?_)
       clear hK K
       refine qO 49 ?_
       refine q1 24 (some 52) HT_ rfl (fun K hK => ?_)
       refine g_ Try.func57 #[.agg #[.slice Ao23 t1053.length co23],.agg #[.slice Ao19 t1050.length co19]] ?_
       with_reducible refine (nat_Nat_Mul.calls k _ _ t1053 _ _ t1050 t1081 _ ?side1 ?side2 ?side3 ?side4 A45.out).mono ?_
       (case side1 => exact qCV HO1055)
       (case side2 => exact qL HO1055)
       (case side3 => exact qCV HO1052)
       (case side4 => exact qL HO1052)
       rintro e w84 ⟨v1082,rfl,ho0,hb⟩
       refine ⟨_,rfl,?_⟩
       replace HO1052:=qVb HO1052 hb
       replace HO1055:=qVb HO1055 hb
       replace HO1058:=qVb HO1058 hb
       replace HO1064:=qVb HO1064 hb
       replace HO1067:=qVb HO1067 hb
       replace HO1073:=qVb HO1073 hb
       replace HO1076:=qVb HO1076 hb
       replace HO1080:=qVb HO1080 hb
       have HO1083:=Aside0.mk (Kd.V_lower (Kd.V_mono (ok':=fun k_ => k_ ≠ gb1059 ∧ k_ ≠ gb1060 ∧ k_ ≠ gb1061 ∧ k_ ≠ gb1069) ho0 (fun k_ hk_ => ⟨(Kd.freshB (qB BK1059.out) k_ hk_),(Kd.freshB (qB BK1060.out) k_ hk_),(Kd.freshB (qB BK1061.out) k_ hk_),(Kd.freshB (qB BK1069.out) k_ hk_)⟩)) (below_size (qS HB)))
       replace BK1059:=qb BK1059 hb
       replace BK1060:=qb BK1060 hb
       replace BK1061:=qb BK1061 hb
       replace BK1069:=qb BK1069 hb
       replace HB:=qs HB hb
       clear hb ho0
       obtain ⟨Ao85,co85,eo85⟩:=Kd.V_slice HO1080.out
       (first|subst eo85|(injection eo85 with f1_ f2_ f3_;have f4_:=f1_.symm;have f5_:=f3_.symm;clear f1_ f2_ f3_;subst f4_;subst f5_))
       obtain ⟨Ao86,co86,eo86⟩:=Kd.V_slice HO1083.out
       (first|subst eo86|(injection eo86 with f1_ f2_ f3_;have f4_:=f1_.symm;have f5_:=f3_.symm;clear f1_ f2_ f3_;subst f4_;subst f5_))
       refine hK.out _ _ ⟨bc BK1069,bc BK1059,bc BK1060⟩ (fun hHeld => ?_)
       clear hK K
       refine qO 52 ?_
       refine q1 25 (some 53) HT_ rfl (fun K hK => ?_)
       refine g_ Try.func45 #[.agg #[.slice Ao85 t1078.length co85],.agg #[.slice Ao86 t1081.length co86]] ?_
       with_reducible refine (nat_Nat_Cmp.calls k _ _ t1078 _ _ t1081 t1084 _ ?side1 ?side2 ?side3 ?side4 A46.out).mono ?_
       (case side1 => exact qCV HO1080)
       (case side2 => exact qL HO1080)
       (case side3 => exact qCV HO1083)
       (case side4 => exact qL HO1083)
       rintro e w87 ⟨rfl,hb⟩
       refine ⟨_,rfl,?_⟩
       replace HO1052:=qVb HO1052 hb
       replace HO1055:=qVb HO1055 hb
       replace HO1058:=qVb HO1058 hb
       replace HO1064:=qVb HO1064 hb
       replace HO1067:=qVb HO1067 hb
       replace HO1073:=qVb HO1073 hb
       replace HO1076:=qVb HO1076 hb
       replace HO1080:=qVb HO1080 hb
       replace HO1083:=qVb HO1083 hb
       replace BK1059:=qb BK1059 hb
       replace BK1060:=qb BK1060 hb
       replace BK1061:=qb BK1061 hb
       replace BK1069:=qb BK1069 hb
       replace HB:=qs HB hb
       clear hb
       refine hK.out _ _ ⟨bc BK1069,bc BK1059,bc BK1060⟩ (fun hHeld => ?_)
       clear hK K
       refine qO 53 ?_
       refine qP 26 54 HT_ ?_
       refine qP 27 55 HT_ ?_
       refine qP 28 56 HT_ ?_
       refine qU 29 57 HT_ ?_
       refine qU 30 58 HT_ ?_
       refine qU 31 59 HT_ ?_
       refine qU 32 60 HT_ ?_
       refine qU 33 61 HT_ ?_
       refine qU 34 62 HT_ ?_
       refine qU 35 63 HT_ ?_
       refine qU 36 64 HT_ ?_
       refine qU 37 65 HT_ ?_
       refine qU 38 66 HT_ ?_
       refine qU 39 67 HT_ ?_
       refine qU 40 68 HT_ ?_
       refine qP 41 69 HT_ ?_
       refine qD HT_ ?_
       try go_wp2
       go_meet
       case rel => exact ⟨_,(true),(by first|rfl|(simp;done)|(simp [*];done)),H',⟨by first|omega|exact Nat.le_refl _⟩,⟨qVm HO1052⟩,⟨qVm HO1055⟩,⟨qVm HO1058⟩,⟨qVm HO1067⟩,⟨qB BK1059.out⟩,⟨qB BK1060.out⟩,⟨qB BK1061.out⟩,⟨qB BK1069.out⟩,⟨qS HB⟩⟩
     ·rw [if_neg c43] at H
      have c43b0 : (t1077 == 0) = false:=beq_eq_false_iff_ne.mpr c43
      have c43b1 : (t1077 != 0) = true:=bne_iff_ne.mpr c43
      have H':=Aside0.mk H
      clear H
      try go_wp2
      generalize hw : (w34.setCell ⟨gb1069,0,none⟩ (.slice Ao35 t1065.length co35)) = w88
      replace hw:=hw.symm
      replace HO1052:=qVh hw HO1052
      replace HO1055:=qVh hw HO1055
      replace HO1058:=qVh hw HO1058
      replace HO1064:=qVh hw HO1064
      replace HO1067:=qVh hw HO1067
      replace BK1059:=qBh hw BK1059
      replace BK1060:=qBh hw BK1060
      replace BK1061:=qBh hw BK1061
      replace BK1069:=qBp hw BK1069
      replace HB:=qSh hw HB
      clear hw
      replace HO1052:=qVw HO1052
      replace HO1055:=qVw HO1055
      replace HO1058:=qVw HO1058
      replace HO1064:=qVw HO1064
      replace HO1067:=qVw HO1067
      replace BK1059:=qbd BK1059
      replace BK1060:=qbd BK1060
      replace BK1061:=qbd BK1061
      replace BK1069:=qbd BK1069
      replace HB:=qsd HB
      refine start_ (n:=42) (S:=fun w' => w'.cell? ⟨gb1069,0,none⟩ = some (.slice Ao35 t1065.length co35) ∧ w'.cell? ⟨gb1059,0,none⟩ = some (.slice Ao19 t1050.length co19) ∧ w'.cell? ⟨gb1060,0,none⟩ = some (.slice Ao23 t1053.length co23)) (ds:=[]) #[false,false,false,false,false,false,false,false,false,false,false,false,false,false,false,false,false,false,false,false,false,false,false,false,false,false,false,false,false,false,false,false,false,false,false,false,false,false,false,false,false,false] (by kernel_rfl) rfl rfl ⟨bc BK1069,bc BK1059,bc BK1060⟩ (fun hHeld => ?_);refine with_tabW sacristylaw01_NatRules.tab5 sacristylaw01_NatRules.bits5 (fun HT_ HW_ => ?_)
      generalize w88.drew = w89 at HO1052 HO1055 HO1058 HO1064 HO1067 BK1059 BK1060 BK1061 BK1069 HB hHeld ⊢
      refine qP 0 28 HT_ ?_
      refine qP 1 29 HT_ ?_
      refine qP 2 30 HT_ ?_
      refine qT 3 31 HT_ HW_ hHeld ?_
      refine qT 4 32 HT_ HW_ hHeld ?_
      refine q1 5 (some 33) HT_ rfl (fun K hK => ?_)
      refine g_ Try.func45 #[.agg #[.slice Ao35 t1065.length co35],.agg #[.slice Ao19 t1050.length co19]] ?_
      with_reducible refine (nat_Nat_Cmp.calls k _ _ t1065 _ _ t1050 t1070 _ ?side1 ?side2 ?side3 ?side4 A38.out).mono ?_
      (case side1 => exact qCV HO1067)
      (case side2 => exact qL HO1067)
      (case side3 => exact qCV HO1052)
      (case side4 => exact qL HO1052)
      rintro e w90 ⟨rfl,hb⟩
      refine ⟨_,rfl,?_⟩
      replace HO1052:=qVb HO1052 hb
      replace HO1055:=qVb HO1055 hb
      replace HO1058:=qVb HO1058 hb
      replace HO1064:=qVb HO1064 hb
      replace HO1067:=qVb HO1067 hb
      replace BK1059:=qb BK1059 hb
      replace BK1060:=qb BK1060 hb
      replace BK1061:=qb BK1061 hb
      replace BK1069:=qb BK1069 hb
      replace HB:=qs HB hb
      clear hb
      refine hK.out _ _ ⟨bc BK1069,bc BK1059,bc BK1060⟩ (fun hHeld => ?_)
      clear hK K
      refine qO 33 ?_
      refine qP 6 34 HT_ ?_
      refine qP 7 35 HT_ ?_
      refine qP 8 36 HT_ ?_
      refine qT 9 37 HT_ HW_ hHeld ?_
      refine qT 10 38 HT_ HW_ hHeld ?_
      refine qT 12 40 HT_ HW_ hHeld ?_
      refine qT 13 41 HT_ HW_ hHeld ?_
      refine q1 11 (some 39) HT_ rfl (fun K hK => ?_)
      refine g_ Try.func60 #[.agg #[.slice Ao19 t1050.length co19],.agg #[.slice Ao23 t1053.length co23]] ?_
      with_reducible refine (nat_Nat_Add.calls k _ _ t1050 _ _ t1053 t1071 _ ?side1 ?side2 ?side3 ?side4 A40.out).mono ?_
      (case side1 => exact qCV HO1052)
      (case side2 => exact qL HO1052)
      (case side3 => exact qCV HO1055)
      (case side4 => exact qL HO1055)
      rintro e w91 ⟨v1072,rfl,ho0,hb⟩
      refine ⟨_,rfl,?_⟩
      replace HO1052:=qVb HO1052 hb
      replace HO1055:=qVb HO1055 hb
      replace HO1058:=qVb HO1058 hb
      replace HO1064:=qVb HO1064 hb
      replace HO1067:=qVb HO1067 hb
      have HO1073:=Aside0.mk (Kd.V_lower (Kd.V_mono (ok':=fun k_ => k_ ≠ gb1059 ∧ k_ ≠ gb1060 ∧ k_ ≠ gb1061 ∧ k_ ≠ gb1069) ho0 (fun k_ hk_ => ⟨(Kd.freshB (qB BK1059.out) k_ hk_),(Kd.freshB (qB BK1060.out) k_ hk_),(Kd.freshB (qB BK1061.out) k_ hk_),(Kd.freshB (qB BK1069.out) k_ hk_)⟩)) (below_size (qS HB)))
      replace BK1059:=qb BK1059 hb
      replace BK1060:=qb BK1060 hb
      replace BK1061:=qb BK1061 hb
      replace BK1069:=qb BK1069 hb
      replace HB:=qs HB hb
      clear hb ho0
      refine hK.out _ _ ⟨bc BK1069,bc BK1059,bc BK1060⟩ (fun hHeld => ?_)
      clear hK K
      refine qO 39 ?_
      refine q1 14 (some 42) HT_ rfl (fun K hK => ?_)
      refine g_ Try.func60 #[.agg #[.slice Ao23 t1053.length co23],.agg #[.slice Ao19 t1050.length co19]] ?_
      with_reducible refine (nat_Nat_Add.calls k _ _ t1053 _ _ t1050 t1074 _ ?side1 ?side2 ?side3 ?side4 A41.out).mono ?_
      (case side1 => exact qCV HO1055)
      (case side2 => exact qL HO1055)
      (case side3 => exact qCV HO1052)
      (case side4 => exact qL HO1052)
      rintro e w92 ⟨v1075,rfl,ho0,hb⟩
      refine ⟨_,rfl,?_⟩
      replace HO1052:=qVb HO1052 hb
      replace HO1055:=qVb HO1055 hb
      replace HO1058:=qVb HO1058 hb
      replace HO1064:=qVb HO1064 hb
      replace HO1067:=qVb HO1067 hb
      replace HO1073:=qVb HO1073 hb
      have HO1076:=Aside0.mk (Kd.V_lower (Kd.V_mono (ok':=fun k_ => k_ ≠ gb1059 ∧ k_ ≠ gb1060 ∧ k_ ≠ gb1061 ∧ k_ ≠ gb1069) ho0 (fun k_ hk_ => ⟨(Kd.freshB (qB BK1059.out) k_ hk_),(Kd.freshB (qB BK1060.out) k_ hk_),(Kd.freshB (qB BK1061.out) k_ hk_),(Kd.freshB (qB BK1069.out) k_ hk_)⟩)) (below_size (qS HB)))
      replace BK1059:=qb BK1059 hb
      replace BK1060:=qb BK1060 hb
      replace BK1061:=qb BK1061 hb
      replace BK1069:=qb BK1069 hb
      replace HB:=qs HB hb
      clear hb ho0
      obtain ⟨Ao93,co93,eo93⟩:=Kd.V_slice HO1073.out
      (first|subst eo93|(injection eo93 with f1_ f2_ f3_;have f4_:=f1_.symm;have f5_:=f3_.symm;clear f1_ f2_ f3_;subst f4_;subst f5_))
      obtain ⟨Ao94,co94,eo94⟩:=Kd.V_slice HO1076.out
      (first|subst eo94|(injection eo94 with f1_ f2_ f3_;have f4_:=f1_.symm;have f5_:=f3_.symm;clear f1_ f2_ f3_;subst f4_;subst f5_))
      refine hK.out _ _ ⟨bc BK1069,bc BK1059,bc BK1060⟩ (fun hHeld => ?_)
      clear hK K
      refine qO 42 ?_
      refine q1 15 (some 43) HT_ rfl (fun K hK => ?_)
      refine g_ Try.func45 #[.agg #[.slice Ao93 t1071.length co93],.agg #[.slice Ao94 t1074.length co94]] ?_
      with_reducible refine (nat_Nat_Cmp.calls k _ _ t1071 _ _ t1074 t1077 _ ?side1 ?side2 ?side3 ?side4 A42.out).mono ?_
      (case side1 => exact qCV HO1073)
      (case side2 => exact qL HO1073)
      (case side3 => exact qCV HO1076)
      (case side4 => exact qL HO1076)
      rintro e w95 ⟨rfl,hb⟩
      refine ⟨_,rfl,?_⟩
      replace HO1052:=qVb HO1052 hb
      replace HO1055:=qVb HO1055 hb
      replace HO1058:=qVb HO1058 hb
      replace HO1064:=qVb HO1064 hb
      replace HO1067:=qVb HO1067 hb
      replace HO1073:=qVb HO1073 hb
      replace HO1076:=qVb HO1076 hb
      replace BK1059:=qb BK1059 hb
      replace BK1060:=qb BK1060 hb
      replace BK1061:=qb BK1061 hb
      replace BK1069:=qb BK1069 hb
      replace HB:=qs HB hb
      clear hb
      refine hK.out _ _ ⟨bc BK1069,bc BK1059,bc BK1060⟩ (fun hHeld => ?_)
      clear hK K
      refine qO 43 ?_
      refine qP 16 44 HT_ ?_
      refine qP 17 45 HT_ ?_
      refine qP 18 46 HT_ ?_
      refine qU 19 47 HT_ ?_
      refine qU 20 48 HT_ ?_
      refine qU 21 49 HT_ ?_
      refine qU 22 50 HT_ ?_
      refine qU 23 51 HT_ ?_
      refine qU 24 52 HT_ ?_
      refine qU 25 53 HT_ ?_
      refine qU 26 54 HT_ ?_
      refine qP 27 55 HT_ ?_
      refine qP 28 56 HT_ ?_
      refine qU 29 57 HT_ ?_
      refine qU 30 58 HT_ ?_
      refine qU 31 59 HT_ ?_
      refine qU 32 60 HT_ ?_
      refine qU 33 61 HT_ ?_
      refine qU 34 62 HT_ ?_
      refine qU 35 63 HT_ ?_
      refine qU 36 64 HT_ ?_
      refine qU 37 65 HT_ ?_
      refine qU 38 66 HT_ ?_
      refine qU 39 67 HT_ ?_
      refine qU 40 68 HT_ ?_
      refine qP 41 69 HT_ ?_
      refine qD HT_ ?_
      try go_wp2
      go_meet
      case rel => exact ⟨_,(true),(by first|rfl|(simp;done)|(simp [*];done)),H',⟨by first|omega|exact Nat.le_refl _⟩,⟨qVm HO1052⟩,⟨qVm HO1055⟩,⟨qVm HO1058⟩,⟨qVm HO1067⟩,⟨qB BK1059.out⟩,⟨qB BK1060.out⟩,⟨qB BK1061.out⟩,⟨qB BK1069.out⟩,⟨qS HB⟩⟩
    ·rw [if_neg c39] at H
     have c39b0 : (t1070 == 0) = false:=beq_eq_false_iff_ne.mpr c39
     have c39b1 : (t1070 != 0) = true:=bne_iff_ne.mpr c39
     (first|rw [c39b0]|(simp only [i64_w,i32_w];rw [c39b0])|skip)
     have H':=Aside0.mk H
     clear H
     try go_wp2
     generalize hw : (w34.setCell ⟨gb1069,0,none⟩ (.slice Ao35 t1065.length co35)) = w96
     replace hw:=hw.symm
     replace HO1052:=qVh hw HO1052
     replace HO1055:=qVh hw HO1055
     replace HO1058:=qVh hw HO1058
     replace HO1064:=qVh hw HO1064
     replace HO1067:=qVh hw HO1067
     replace BK1059:=qBh hw BK1059
     replace BK1060:=qBh hw BK1060
     replace BK1061:=qBh hw BK1061
     replace BK1069:=qBp hw BK1069
     replace HB:=qSh hw HB
     clear hw
     replace HO1052:=qVw HO1052
     replace HO1055:=qVw HO1055
     replace HO1058:=qVw HO1058
     replace HO1064:=qVw HO1064
     replace HO1067:=qVw HO1067
     replace BK1059:=qbd BK1059
     replace BK1060:=qbd BK1060
     replace BK1061:=qbd BK1061
     replace BK1069:=qbd BK1069
     replace HB:=qsd HB
     refine start_ (n:=42) (S:=fun w' => w'.cell? ⟨gb1069,0,none⟩ = some (.slice Ao35 t1065.length co35) ∧ w'.cell? ⟨gb1059,0,none⟩ = some (.slice Ao19 t1050.length co19)) (ds:=[]) #[false,false,false,false,false,false,false,false,false,false,false,false,false,false,false,false,false,false,false,false,false,false,false,false,false,false,false,false,false,false,false,false,false,false,false,false,false,false,false,false,false,false] (by kernel_rfl) rfl rfl ⟨bc BK1069,bc BK1059⟩ (fun hHeld => ?_);refine with_tabW sacristylaw01_NatRules.tab5 sacristylaw01_NatRules.bits5 (fun HT_ HW_ => ?_)
     generalize w96.drew = w97 at HO1052 HO1055 HO1058 HO1064 HO1067 BK1059 BK1060 BK1061 BK1069 HB hHeld ⊢
     refine qP 0 28 HT_ ?_
     refine qP 1 29 HT_ ?_
     refine qP 2 30 HT_ ?_
     refine qT 3 31 HT_ HW_ hHeld ?_
     refine qT 4 32 HT_ HW_ hHeld ?_
     refine q1 5 (some 33) HT_ rfl (fun K hK => ?_)
     refine g_ Try.func45 #[.agg #[.slice Ao35 t1065.length co35],.agg #[.slice Ao19 t1050.length co19]] ?_
     with_reducible refine (nat_Nat_Cmp.calls k _ _ t1065 _ _ t1050 t1070 _ ?side1 ?side2 ?side3 ?side4 A38.out).mono ?_
     (case side1 => exact qCV HO1067)
     (case side2 => exact qL HO1067)
     (case side3 => exact qCV HO1052)
     (case side4 => exact qL HO1052)
     rintro e w98 ⟨rfl,hb⟩
     refine ⟨_,rfl,?_⟩
     replace HO1052:=qVb HO1052 hb
     replace HO1055:=qVb HO1055 hb
     replace HO1058:=qVb HO1058 hb
     replace HO1064:=qVb HO1064 hb
     replace HO1067:=qVb HO1067 hb
     replace BK1059:=qb BK1059 hb
     replace BK1060:=qb BK1060 hb
     replace BK1061:=qb BK1061 hb
     replace BK1069:=qb BK1069 hb
     replace HB:=qs HB hb
     clear hb
     refine hK.out _ _ ⟨bc BK1069,bc BK1059⟩ (fun hHeld => ?_)
     clear hK K
     refine qO 33 ?_
     refine qP 6 34 HT_ ?_
     refine qP 7 35 HT_ ?_
     refine qP 8 36 HT_ ?_
     refine qU 9 37 HT_ ?_
     refine qU 10 38 HT_ ?_
     refine qU 11 39 HT_ ?_
     refine qU 12 40 HT_ ?_
     refine qU 13 41 HT_ ?_
     refine qU 14 42 HT_ ?_
     refine qU 15 43 HT_ ?_
     refine qU 16 44 HT_ ?_
     refine qP 17 45 HT_ ?_
     refine qP 18 46 HT_ ?_
     refine qU 19 47 HT_ ?_
     refine qU 20 48 HT_ ?_
     refine qU 21 49 HT_ ?_
     refine qU 22 50 HT_ ?_
     refine qU 23 51 HT_ ?_
     refine qU 24 52 HT_ ?_
     refine qU 25 53 HT_ ?_
     refine qU 26 54 HT_ ?_
     refine qP 27 55 HT_ ?_
     refine qP 28 56 HT_ ?_
     refine qU 29 57 HT_ ?_
     refine qU 30 58 HT_ ?_
     refine qU 31 59 HT_ ?_
     refine qU 32 60 HT_ ?_
     refine qU 33 61 HT_ ?_
     refine qU 34 62 HT_ ?_
     refine qU 35 63 HT_ ?_
     refine qU 36 64 HT_ ?_
     refine qU 37 65 HT_ ?_
     refine qU 38 66 HT_ ?_
     refine qU 39 67 HT_ ?_
     refine qU 40 68 HT_ ?_
     refine qP 41 69 HT_ ?_
     refine qD HT_ ?_
     try go_wp2
     go_meet
     case rel => exact ⟨_,(true),(by first|rfl|(simp;done)|(simp [*];done)),H',⟨by first|omega|exact Nat.le_refl _⟩,⟨qVm HO1052⟩,⟨qVm HO1055⟩,⟨qVm HO1058⟩,⟨qVm HO1067⟩,⟨qB BK1059.out⟩,⟨qB BK1060.out⟩,⟨qB BK1061.out⟩,⟨qB BK1069.out⟩,⟨qS HB⟩⟩
   ·replace c37:=Bool.eq_false_iff.mpr c37
    subst c37
    rw [qFT] at H
    have H':=Aside0.mk H
    clear H
    try go_wp2
    generalize hw : (w34.setCell ⟨gb1069,0,none⟩ (.slice Ao35 t1065.length co35)) = w99
    replace hw:=hw.symm
    replace HO1052:=qVh hw HO1052
    replace HO1055:=qVh hw HO1055
    replace HO1058:=qVh hw HO1058
    replace HO1064:=qVh hw HO1064
    replace HO1067:=qVh hw HO1067
    replace BK1059:=qBh hw BK1059
    replace BK1060:=qBh hw BK1060
    replace BK1061:=qBh hw BK1061
    replace BK1069:=qBp hw BK1069
    replace HB:=qSh hw HB
    clear hw
    replace HO1052:=qVw HO1052
    replace HO1055:=qVw HO1055
    replace HO1058:=qVw HO1058
    replace HO1064:=qVw HO1064
    replace HO1067:=qVw HO1067
    replace BK1059:=qbd BK1059
    replace BK1060:=qbd BK1060
    replace BK1061:=qbd BK1061
    replace BK1069:=qbd BK1069
    replace HB:=qsd HB
    refine start_ (n:=42) (S:=fun w' => True) (ds:=[]) #[false,false,false,false,false,false,false,false,false,false,false,false,false,false,false,false,false,false,false,false,false,false,false,false,false,false,false,false,false,false,false,false,false,false,false,false,false,false,false,false,false,false] (by kernel_rfl) rfl rfl trivial (fun hHeld => ?_);refine with_tabW sacristylaw01_NatRules.tab5 sacristylaw01_NatRules.bits5 (fun HT_ HW_ => ?_)
    generalize w99.drew = w100 at HO1052 HO1055 HO1058 HO1064 HO1067 BK1059 BK1060 BK1061 BK1069 HB hHeld ⊢
    refine qP 0 28 HT_ ?_
    refine qP 1 29 HT_ ?_
    refine qP 2 30 HT_ ?_
    refine qU 3 31 HT_ ?_
    refine qU 4 32 HT_ ?_
    refine qU 5 33 HT_ ?_
    refine qU 6 34 HT_ ?_
    refine qP 7 35 HT_ ?_
    refine qP 8 36 HT_ ?_
    refine qU 9 37 HT_ ?_
    refine qU 10 38 HT_ ?_
    refine qU 11 39 HT_ ?_
    refine qU 12 40 HT_ ?_
    refine qU 13 41 HT_ ?_
    refine qU 14 42 HT_ ?_
    refine qU 15 43 HT_ ?_
    refine qU 16 44 HT_ ?_
    refine qP 17 45 HT_ ?_
    refine qP 18 46 HT_ ?_
    refine qU 19 47 HT_ ?_
    refine qU 20 48 HT_ ?_
    refine qU 21 49 HT_ ?_
    refine qU 22 50 HT_ ?_
    refine qU 23 51 HT_ ?_
    refine qU 24 52 HT_ ?_
    refine qU 25 53 HT_ ?_
    refine qU 26 54 HT_ ?_
    refine qP 27 55 HT_ ?_
    refine qP 28 56 HT_ ?_
    refine qU 29 57 HT_ ?_
    refine qU 30 58 HT_ ?_
    refine qU 31 59 HT_ ?_
    refine qU 32 60 HT_ ?_
    refine qU 33 61 HT_ ?_
    refine qU 34 62 HT_ ?_
    refine qU 35 63 HT_ ?_
    refine qU 36 64 HT_ ?_
    refine qU 37 65 HT_ ?_
    refine qU 38 66 HT_ ?_
    refine qU 39 67 HT_ ?_
    refine qU 40 68 HT_ ?_
    refine qP 41 69 HT_ ?_
    refine qD HT_ ?_
    try go_wp2
    go_meet
    case rel => exact ⟨_,(true),(by first|rfl|(simp;done)|(simp [*];done)),H',⟨by first|omega|exact Nat.le_refl _⟩,⟨qVm HO1052⟩,⟨qVm HO1055⟩,⟨qVm HO1058⟩,⟨qVm HO1067⟩,⟨qB BK1059.out⟩,⟨qB BK1060.out⟩,⟨qB BK1061.out⟩,⟨qB BK1069.out⟩,⟨qS HB⟩⟩
  case rest =>
   clear HC11
   try clear p2
   try clear c3
   try clear c4
   try clear c37
   try clear c45
   obtain ⟨kq,x69_10,rfl,HA,HJ10,HO_1060000,HO_1061000,HO_1062000,HO_1070000,BK1059,BK1060,BK1061,BK1069,HB⟩:=hcut
   cases kq with
   |zero => exact absurd HA.out (by simp [sacristylaw01_NatRules.j0])
   |succ kj10 =>
    have H:=HA.out
    clear HA
    simp only [sacristylaw01_NatRules.j0] at H
    by_cases c101 : x69_10 = true
    ·subst c101
     rw [if_pos rfl] at H
     exact absurd H (by simp)
    ·replace c101:=Bool.eq_false_iff.mpr c101
     subst c101
     rw [qFT] at H
     obtain ⟨t1098,A102,H⟩:=qH H
     obtain ⟨t1101,A103,H⟩:=qH H
     obtain ⟨t1104,A104,H⟩:=qH H
     obtain ⟨t1107,A105,H⟩:=qH H
     obtain ⟨t1110,A106,H⟩:=qH H
     by_cases c107 : t1110 = 0
     ·rw [if_pos c107] at H
      have c107b0 : (t1110 == 0) = true:=beq_iff_eq.mpr c107
      have c107b1 : (t1110 != 0) = false:=bne_eq_false_iff_eq.mpr c107
      clear c107
      obtain ⟨t1111,A108,H⟩:=qH H
      obtain ⟨t1114,A109,H⟩:=qH H
      obtain ⟨t1117,A110,H⟩:=qH H
      obtain ⟨t1120,A111,H⟩:=qH H
      obtain ⟨t1123,A112,H⟩:=qH H
      obtain ⟨t1126,A113,H⟩:=qH H
      obtain rfl:=Option.some.inj H
      try go_wp2
      replace HO_1060000:=qVw HO_1060000
      replace HO_1061000:=qVw HO_1061000
      replace HO_1062000:=qVw HO_1062000
      replace HO_1070000:=qVw HO_1070000
      replace BK1059:=qbd BK1059
      replace BK1060:=qbd BK1060
      replace BK1061:=qbd BK1061
      replace BK1069:=qbd BK1069
      replace HB:=qsd HB
      refine start_ (n:=29) (S:=fun w' => w'.cell? ⟨gb1059,0,none⟩ = some (.slice Ao19 t1050.length co19) ∧ w'.cell? ⟨gb1060,0,none⟩ = some (.slice Ao23 t1053.length co23) ∧ w'.cell? ⟨gb1061,0,none⟩ = some (.slice Ao26 t1056.length co26)) (ds:=[]) #[false,false,false,false,false,false,false,false,false,false,false,false,false,false,false,false,false,false,false,false,false,false,false,false,false,false,false,false,false] (by kernel_rfl) rfl rfl ⟨bc BK1059,bc BK1060,bc BK1061⟩ (fun hHeld => ?_);refine with_tabW sacristylaw01_NatRules.tab7 sacristylaw01_NatRules.bits7 (fun HT_ HW_ => ?_)
      generalize wc.drew = w114 at HO_1060000 HO_1061000 HO_1062000 HO_1070000 BK1059 BK1060 BK1061 BK1069 HB hHeld ⊢
      refine qT 0 70 HT_ HW_ hHeld ?_
      refine qT 1 71 HT_ HW_ hHeld ?_
      refine qT 3 73 HT_ HW_ hHeld ?_
      refine qT 5 75 HT_ HW_ hHeld ?_
      refine qT 6 76 HT_ HW_ hHeld ?_
      refine qT 7 77 HT_ HW_ hHeld ?_
      refine q1 2 (some 72) HT_ rfl (fun K hK => ?_)
      refine g_ Try.func57 #[.agg #[.slice Ao19 t1050.length co19],.agg #[.slice Ao23 t1053.length co23]] ?_
      with_reducible refine (nat_Nat_Mul.calls kj10 _ _ t1050 _ _ t1053 t1098 _ ?side1 ?side2 ?side3 ?side4 A102.out).mono ?_
      (case side1 => exact qCV HO_1060000)
      (case side2 => exact qL HO_1060000)
      (case side3 => exact qCV HO_1061000)
      (case side4 => exact qL HO_1061000)
      rintro e w115 ⟨v1099,rfl,ho0,hb⟩
      refine ⟨_,rfl,?_⟩
      replace HO_1060000:=qVb HO_1060000 hb
      replace HO_1061000:=qVb HO_1061000 hb
      replace HO_1062000:=qVb HO_1062000 hb
      replace HO_1070000:=qVb HO_1070000 hb
      have HO1100:=Aside0.mk (Kd.V_lower (Kd.V_mono (ok':=fun k_ => k_ ≠ gb1059 ∧ k_ ≠ gb1060 ∧ k_ ≠ gb1061 ∧ k_ ≠ gb1069) ho0 (fun k_ hk_ => ⟨(Kd.freshB (qB BK1059.out) k_ hk_),(Kd.freshB (qB BK1060.out) k_ hk_),(Kd.freshB (qB BK1061.out) k_ hk_),(Kd.freshB (qB BK1069.out) k_ hk_)⟩)) (below_size (qS HB)))
      replace BK1059:=qb BK1059 hb
      replace BK1060:=qb BK1060 hb
      replace BK1061:=qb BK1061 hb
      replace BK1069:=qb BK1069 hb
      replace HB:=qs HB hb
      clear hb ho0
      obtain ⟨Ao116,co116,eo116⟩:=Kd.V_slice HO1100.out
      (first|subst eo116|(injection eo116 with f1_ f2_ f3_;have f4_:=f1_.symm;have f5_:=f3_.symm;clear f1_ f2_ f3_;subst f4_;subst f5_))
      refine hK.out _ _ ⟨bc BK1059,bc BK1060,bc BK1061⟩ (fun hHeld => ?_)
      clear hK K
      refine qO 72 ?_
      refine q1 4 (some 74) HT_ rfl (fun K hK => ?_)
      refine g_ Try.func57 #[.agg #[.slice Ao116 t1098.length co116],.agg #[.slice Ao26 t1056.length co26]] ?_
      with_reducible refine (nat_Nat_Mul.calls kj10 _ _ t1098 _ _ t1056 t1101 _ ?side1 ?side2 ?side3 ?side4 A103.out).mono ?_
      (case side1 => exact qCV HO1100)
      (case side2 => exact qL HO1100)
      (case side3 => exact qCV HO_1062000)
      (case side4 => exact qL HO_1062000)
      rintro e w117 ⟨v1102,rfl,ho0,hb⟩
      refine ⟨_,rfl,?_⟩
      replace HO_1060000:=qVb HO_1060000 hb
      replace HO_1061000:=qVb HO_1061000 hb
      replace HO_1062000:=qVb HO_1062000 hb
      replace HO_1070000:=qVb HO_1070000 hb
      replace HO1100:=qVb HO1100 hb
      have HO1103:=Aside0.mk (Kd.V_lower (Kd.V_mono (ok':=fun k_ => k_ ≠ gb1059 ∧ k_ ≠ gb1060 ∧ k_ ≠ gb1061 ∧ k_ ≠ gb1069) ho0 (fun k_ hk_ => ⟨(Kd.freshB (qB BK1059.out) k_ hk_),(Kd.freshB (qB BK1060.out) k_ hk_),(Kd.freshB (qB BK1061.out) k_ hk_),(Kd.freshB (qB BK1069.out) k_ hk_)⟩)) (below_size (qS HB)))
      replace BK1059:=qb BK1059 hb
      replace BK1060:=qb BK1060 hb
      replace BK1061:=qb BK1061 hb
      replace BK1069:=qb BK1069 hb
      replace HB:=qs HB hb
      clear hb ho0
      refine hK.out _ _ ⟨bc BK1059,bc BK1060,bc BK1061⟩ (fun hHeld => ?_)
      clear hK K
      refine qO 74 ?_
      refine q1 8 (some 78) HT_ rfl (fun K hK => ?_)
      refine g_ Try.func57 #[.agg #[.slice Ao23 t1053.length co23],.agg #[.slice Ao26 t1056.length co26]] ?_
      with_reducible refine (nat_Nat_Mul.calls kj10 _ _ t1053 _ _ t1056 t1104 _ ?side1 ?side2 ?side3 ?side4 A104.out).mono ?_
      (case side1 => exact qCV HO_1061000)
      (case side2 => exact qL HO_1061000)
      (case side3 => exact qCV HO_1062000)
      (case side4 => exact qL HO_1062000)
      rintro e w118 ⟨v1105,rfl,ho0,hb⟩
      refine ⟨_,rfl,?_⟩
      replace HO_1060000:=qVb HO_1060000 hb
      replace HO_1061000:=qVb HO_1061000 hb
      replace HO_1062000:=qVb HO_1062000 hb
      replace HO_1070000:=qVb HO_1070000 hb
      replace HO1100:=qVb HO1100 hb
      replace HO1103:=qVb HO1103 hb
      have HO1106:=Aside0.mk (Kd.V_lower (Kd.V_mono (ok':=fun k_ => k_ ≠ gb1059 ∧ k_ ≠ gb1060 ∧ k_ ≠ gb1061 ∧ k_ ≠ gb1069) ho0 (fun k_ hk_ => ⟨(Kd.freshB (qB BK1059.out) k_ hk_),(Kd.freshB (qB BK1060.out) k_ hk_),(Kd.freshB (qB BK1061.out) k_ hk_),(Kd.freshB (qB BK1069.out) k_ hk_)⟩)) (below_size (qS HB)))
      replace BK1059:=qb BK1059 hb
      replace BK1060:=qb BK1060 hb
      replace BK1061:=qb BK1061 hb
      replace BK1069:=qb BK1069 hb
      replace HB:=qs HB hb
      clear hb ho0
      obtain ⟨Ao119,co119,eo119⟩:=Kd.V_slice HO1106.out
      (first|subst eo119|(injection eo119 with f1_ f2_ f3_;have f4_:=f1_.symm;have f5_:=f3_.symm;clear f1_ f2_ f3_;subst f4_;subst f5_))
      refine hK.out _ _ ⟨bc BK1059,bc BK1060,bc BK1061⟩ (fun hHeld => ?_)
      clear hK K
      refine qO 78 ?_
      refine q1 9 (some 79) HT_ rfl (fun K hK => ?_)
      refine g_ Try.func57 #[.agg #[.slice Ao19 t1050.length co19],.agg #[.slice Ao119 t1104.length co119]] ?_
      with_reducible refine (nat_Nat_Mul.calls kj10 _ _ t1050 _ _ t1104 t1107 _ ?side1 ?side2 ?side3 ?side4 A105.out).mono ?_
      (case side1 => exact qCV HO_1060000)
      (case side2 => exact qL HO_1060000)
      (case side3 => exact qCV HO1106)
      (case side4 => exact qL HO1106)
      rintro e w120 ⟨v1108,rfl,ho0,hb⟩
      refine ⟨_,rfl,?_⟩
      replace HO_1060000:=qVb HO_1060000 hb
      replace HO_1061000:=qVb HO_1061000 hb
      replace HO_1062000:=qVb HO_1062000 hb
      replace HO_1070000:=qVb HO_1070000 hb
      replace HO1100:=qVb HO1100 hb
      replace HO1103:=qVb HO1103 hb
      replace HO1106:=qVb HO1106 hb
      have HO1109:=Aside0.mk (Kd.V_lower (Kd.V_mono (ok':=fun k_ => k_ ≠ gb1059 ∧ k_ ≠ gb1060 ∧ k_ ≠ gb1061 ∧ k_ ≠ gb1069) ho0 (fun k_ hk_ => ⟨(Kd.freshB (qB BK1059.out) k_ hk_),(Kd.freshB (qB BK1060.out) k_ hk_),(Kd.freshB (qB BK1061.out) k_ hk_),(Kd.freshB (qB BK1069.out) k_ hk_)⟩)) (below_size (qS HB)))
      replace BK1059:=qb BK1059 hb
      replace BK1060:=qb BK1060 hb
      replace BK1061:=qb BK1061 hb
      replace BK1069:=qb BK1069 hb
      replace HB:=qs HB hb
      clear hb ho0
      obtain ⟨Ao121,co121,eo121⟩:=Kd.V_slice HO1103.out
      (first|subst eo121|(injection eo121 with f1_ f2_ f3_;have f4_:=f1_.symm;have f5_:=f3_.symm;clear f1_ f2_ f3_;subst f4_;subst f5_))
      obtain ⟨Ao122,co122,eo122⟩:=Kd.V_slice HO1109.out
      (first|subst eo122|(injection eo122 with f1_ f2_ f3_;have f4_:=f1_.symm;have f5_:=f3_.symm;clear f1_ f2_ f3_;subst f4_;subst f5_))
      refine hK.out _ _ ⟨bc BK1059,bc BK1060,bc BK1061⟩ (fun hHeld => ?_)
      clear hK K
      refine qO 79 ?_
      refine q1 10 (some 80) HT_ rfl (fun K hK => ?_)
      refine g_ Try.func45 #[.agg #[.slice Ao121 t1101.length co121],.agg #[.slice Ao122 t1107.length co122]] ?_
      with_reducible refine (nat_Nat_Cmp.calls kj10 _ _ t1101 _ _ t1107 t1110 _ ?side1 ?side2 ?side3 ?side4 A106.out).mono ?_
      (case side1 => exact qCV HO1103)
      (case side2 => exact qL HO1103)
      (case side3 => exact qCV HO1109)
      (case side4 => exact qL HO1109)
      rintro e w123 ⟨rfl,hb⟩
      refine ⟨_,rfl,?_⟩
      replace HO_1060000:=qVb HO_1060000 hb
      replace HO_1061000:=qVb HO_1061000 hb
      replace HO_1062000:=qVb HO_1062000 hb
      replace HO_1070000:=qVb HO_1070000 hb
      replace HO1100:=qVb HO1100 hb
      replace HO1103:=qVb HO1103 hb
      replace HO1106:=qVb HO1106 hb
      replace HO1109:=qVb HO1109 hb
      replace BK1059:=qb BK1059 hb
      replace BK1060:=qb BK1060 hb
      replace BK1061:=qb BK1061 hb
      replace BK1069:=qb BK1069 hb
      replace HB:=qs HB hb
      clear hb
      refine hK.out _ _ ⟨bc BK1059,bc BK1060,bc BK1061⟩ (fun hHeld => ?_)
      clear hK K
      refine qO 80 ?_
      refine qP 11 81 HT_ ?_
      refine qP 12 82 HT_ ?_
      refine qT 13 83 HT_ HW_ hHeld ?_
      refine qT 14 84 HT_ HW_ hHeld ?_
      refine qT 15 85 HT_ HW_ hHeld ?_
      refine qT 18 88 HT_ HW_ hHeld ?_
      refine qT 19 89 HT_ HW_ hHeld ?_
      refine qT 21 91 HT_ HW_ hHeld ?_
      refine qT 22 92 HT_ HW_ hHeld ?_
      refine q1 16 (some 86) HT_ rfl (fun K hK => ?_)
      refine g_ Try.func60 #[.agg #[.slice Ao23 t1053.length co23],.agg #[.slice Ao26 t1056.length co26]] ?_
      with_reducible refine (nat_Nat_Add.calls kj10 _ _ t1053 _ _ t1056 t1111 _ ?side1 ?side2 ?side3 ?side4 A108.out).mono ?_
      (case side1 => exact qCV HO_1061000)
      (case side2 => exact qL HO_1061000)
      (case side3 => exact qCV HO_1062000)
      (case side4 => exact qL HO_1062000)
      rintro e w124 ⟨v1112,rfl,ho0,hb⟩
      refine ⟨_,rfl,?_⟩
      replace HO_1060000:=qVb HO_1060000 hb
      replace HO_1061000:=qVb HO_1061000 hb
      replace HO_1062000:=qVb HO_1062000 hb
      replace HO_1070000:=qVb HO_1070000 hb
      replace HO1100:=qVb HO1100 hb
      replace HO1103:=qVb HO1103 hb
      replace HO1106:=qVb HO1106 hb
      replace HO1109:=qVb HO1109 hb
      have HO1113:=Aside0.mk (Kd.V_lower (Kd.V_mono (ok':=fun k_ => k_ ≠ gb1059 ∧ k_ ≠ gb1060 ∧ k_ ≠ gb1061 ∧ k_ ≠ gb1069) ho0 (fun k_ hk_ => ⟨(Kd.freshB (qB BK1059.out) k_ hk_),(Kd.freshB (qB BK1060.out) k_ hk_),(Kd.freshB (qB BK1061.out) k_ hk_),(Kd.freshB (qB BK1069.out) k_ hk_)⟩)) (below_size (qS HB)))
      replace BK1059:=qb BK1059 hb
      replace BK1060:=qb BK1060 hb
      replace BK1061:=qb BK1061 hb
      replace BK1069:=qb BK1069 hb
      replace HB:=qs HB hb
      clear hb ho0
      obtain ⟨Ao125,co125,eo125⟩:=Kd.V_slice HO1113.out
      (first|subst eo125|(injection eo125 with f1_ f2_ f3_;have f4_:=f1_.symm;have f5_:=f3_.symm;clear f1_ f2_ f3_;subst f4_;subst f5_))
      refine hK.out _ _ ⟨bc BK1059,bc BK1060,bc BK1061⟩ (fun hHeld => ?_)
      clear hK K
      refine qO 86 ?_
      refine q1 17 (some 87) HT_ rfl (fun K hK => ?_)
      refine g_ Try.func57 #[.agg #[.slice Ao19 t1050.length co19],.agg #[.slice Ao125 t1111.length co125]] ?_
      with_reducible refine (nat_Nat_Mul.calls kj10 _ _ t1050 _ _ t1111 t1114 _ ?side1 ?side2 ?side3 ?side4 A109.out).mono ?_
      (case side1 => exact qCV HO_1060000)
      (case side2 => exact qL HO_1060000)
      (case side3 => exact qCV HO1113)
      (case side4 => exact qL HO1113)
      rintro e w126 ⟨v1115,rfl,ho0,hb⟩
      refine ⟨_,rfl,?_⟩
      replace HO_1060000:=qVb HO_1060000 hb
      replace HO_1061000:=qVb HO_1061000 hb
      replace HO_1062000:=qVb HO_1062000 hb
      replace HO_1070000:=qVb HO_1070000 hb
      replace HO1100:=qVb HO1100 hb
      replace HO1103:=qVb HO1103 hb
      replace HO1106:=qVb HO1106 hb
      replace HO1109:=qVb HO1109 hb
      replace HO1113:=qVb HO1113 hb
      have HO1116:=Aside0.mk (Kd.V_lower (Kd.V_mono (ok':=fun k_ => k_ ≠ gb1059 ∧ k_ ≠ gb1060 ∧ k_ ≠ gb1061 ∧ k_ ≠ gb1069) ho0 (fun k_ hk_ => ⟨(Kd.freshB (qB BK1059.out) k_ hk_),(Kd.freshB (qB BK1060.out) k_ hk_),(Kd.freshB (qB BK1061.out) k_ hk_),(Kd.freshB (qB BK1069.out) k_ hk_)⟩)) (below_size (qS HB)))
      replace BK1059:=qb BK1059 hb
      replace BK1060:=qb BK1060 hb
      replace BK1061:=qb BK1061 hb
      replace BK1069:=qb BK1069 hb
      replace HB:=qs HB hb
      clear hb ho0
      refine hK.out _ _ ⟨bc BK1059,bc BK1060,bc BK1061⟩ (fun hHeld => ?_)
      clear hK K
      refine qO 87 ?_
      refine q1 20 (some 90) HT_ rfl (fun K hK => ?_)
      refine g_ Try.func57 #[.agg #[.slice Ao19 t1050.length co19],.agg #[.slice Ao23 t1053.length co23]] ?_
      with_reducible refine (nat_Nat_Mul.calls kj10 _ _ t1050 _ _ t1053 t1117 _ ?side1 ?side2 ?side3 ?side4 A110.out).mono ?_
      (case side1 => exact qCV HO_1060000)
      (case side2 => exact qL HO_1060000)
      (case side3 => exact qCV HO_1061000)
      (case side4 => exact qL HO_1061000)
      rintro e w127 ⟨v1118,rfl,ho0,hb⟩
      refine ⟨_,rfl,?_⟩
      replace HO_1060000:=qVb HO_1060000 hb
      replace HO_1061000:=qVb HO_1061000 hb
      replace HO_1062000:=qVb HO_1062000 hb
      replace HO_1070000:=qVb HO_1070000 hb
      replace HO1100:=qVb HO1100 hb
      replace HO1103:=qVb HO1103 hb
      replace HO1106:=qVb HO1106 hb
      replace HO1109:=qVb HO1109 hb
      replace HO1113:=qVb HO1113 hb
      replace HO1116:=qVb HO1116 hb
      have HO1119:=Aside0.mk (Kd.V_lower (Kd.V_mono (ok':=fun k_ => k_ ≠ gb1059 ∧ k_ ≠ gb1060 ∧ k_ ≠ gb1061 ∧ k_ ≠ gb1069) ho0 (fun k_ hk_ => ⟨(Kd.freshB (qB BK1059.out) k_ hk_),(Kd.freshB (qB BK1060.out) k_ hk_),(Kd.freshB (qB BK1061.out) k_ hk_),(Kd.freshB (qB BK1069.out) k_ hk_)⟩)) (below_size (qS HB)))
      replace BK1059:=qb BK1059 hb
      replace BK1060:=qb BK1060 hb
      replace BK1061:=qb BK1061 hb
      replace BK1069:=qb BK1069 hb
      replace HB:=qs HB hb
      clear hb ho0
      refine hK.out _ _ ⟨bc BK1059,bc BK1060,bc BK1061⟩ (fun hHeld => ?_)
      clear hK K
      refine qO 90 ?_
      refine q1 23 (some 93) HT_ rfl (fun K hK => ?_)
      refine g_ Try.func57 #[.agg #[.slice Ao19 t1050.length co19],.agg #[.slice Ao26 t1056.length co26]] ?_
      with_reducible refine (nat_Nat_Mul.calls kj10 _ _ t1050 _ _ t1056 t1120 _ ?side1 ?side2 ?side3 ?side4 A111.out).mono ?_
      (case side1 => exact qCV HO_1060000)
      (case side2 => exact qL HO_1060000)
      (case side3 => exact qCV HO_1062000)
      (case side4 => exact qL HO_1062000)
      rintro e w128 ⟨v1121,rfl,ho0,hb⟩
      refine ⟨_,rfl,?_⟩
      replace HO_1060000:=qVb HO_1060000 hb
      replace HO_1061000:=qVb HO_1061000 hb
      replace HO_1062000:=qVb HO_1062000 hb
      replace HO_1070000:=qVb HO_1070000 hb
      replace HO1100:=qVb HO1100 hb
      replace HO1103:=qVb HO1103 hb
      replace HO1106:=qVb HO1106 hb
      replace HO1109:=qVb HO1109 hb
      replace HO1113:=qVb HO1113 hb
      replace HO1116:=qVb HO1116 hb
      replace HO1119:=qVb HO1119 hb
      have HO1122:=Aside0.mk (Kd.V_lower (Kd.V_mono (ok':=fun k_ => k_ ≠ gb1059 ∧ k_ ≠ gb1060 ∧ k_ ≠ gb1061 ∧ k_ ≠ gb1069) ho0 (fun k_ hk_ => ⟨(Kd.freshB (qB BK1059.out) k_ hk_),(Kd.freshB (qB BK1060.out) k_ hk_),(Kd.freshB (qB BK1061.out) k_ hk_),(Kd.freshB (qB BK1069.out) k_ hk_)⟩)) (below_size (qS HB)))
      replace BK1059:=qb BK1059 hb
      replace BK1060:=qb BK1060 hb
      replace BK1061:=qb BK1061 hb
      replace BK1069:=qb BK1069 hb
      replace HB:=qs HB hb
      clear hb ho0
      obtain ⟨Ao129,co129,eo129⟩:=Kd.V_slice HO1119.out
      (first|subst eo129|(injection eo129 with f1_ f2_ f3_;have f4_:=f1_.symm;have f5_:=f3_.symm;clear f1_ f2_ f3_;subst f4_;subst f5_))
      obtain ⟨Ao130,co130,eo130⟩:=Kd.V_slice HO1122.out
      (first|subst eo130|(injection eo130 with f1_ f2_ f3_;have f4_:=f1_.symm;have f5_:=f3_.symm;clear f1_ f2_ f3_;subst f4_;subst f5_))
      refine hK.out _ _ ⟨bc BK1059,bc BK1060,bc BK1061⟩ (fun hHeld => ?_)
      clear hK K
      refine qO 93 ?_
      refine q1 24 (some 94) HT_ rfl (fun K hK => ?_)
      refine g_ Try.func60 #[.agg #[.slice Ao129 t1117.length co129],.agg #[.slice Ao130 t1120.length co130]] ?_
      with_reducible refine (nat_Nat_Add.calls kj10 _ _ t1117 _ _ t1120 t1123 _ ?side1 ?side2 ?side3 ?side4 A112.out).mono ?_
      (case side1 => exact qCV HO1119)
      (case side2 => exact qL HO1119)
      (case side3 => exact qCV HO1122)
      (case side4 => exact qL HO1122)
      rintro e w131 ⟨v1124,rfl,ho0,hb⟩
      refine ⟨_,rfl,?_⟩
      replace HO_1060000:=qVb HO_1060000 hb
      replace HO_1061000:=qVb HO_1061000 hb
      replace HO_1062000:=qVb HO_1062000 hb
      replace HO_1070000:=qVb HO_1070000 hb
      replace HO1100:=qVb HO1100 hb
      replace HO1103:=qVb HO1103 hb
      replace HO1106:=qVb HO1106 hb
      replace HO1109:=qVb HO1109 hb
      replace HO1113:=qVb HO1113 hb
      replace HO1116:=qVb HO1116 hb
      replace HO1119:=qVb HO1119 hb
      replace HO1122:=qVb HO1122 hb
      have HO1125:=Aside0.mk (Kd.V_lower (Kd.V_mono (ok':=fun k_ => k_ ≠ gb1059 ∧ k_ ≠ gb1060 ∧ k_ ≠ gb1061 ∧ k_ ≠ gb1069) ho0 (fun k_ hk_ => ⟨(Kd.freshB (qB BK1059.out) k_ hk_),(Kd.freshB (qB BK1060.out) k_ hk_),(Kd.freshB (qB BK1061.out) k_ hk_),(Kd.freshB (qB BK1069.out) k_ hk_)⟩)) (below_size (qS HB)))
      replace BK1059:=qb BK1059 hb
      replace BK1060:=qb BK1060 hb
      replace BK1061:=qb BK1061 hb
      replace BK1069:=qb BK1069 hb
      replace HB:=qs HB hb
      clear hb ho0
      obtain ⟨Ao132,co132,eo132⟩:=Kd.V_slice HO1116.out
      (first|subst eo132|(injection eo132 with f1_ f2_ f3_;have f4_:=f1_.symm;have f5_:=f3_.symm;clear f1_ f2_ f3_;subst f4_;subst f5_))
      obtain ⟨Ao133,co133,eo133⟩:=Kd.V_slice HO1125.out
      (first|subst eo133|(injection eo133 with f1_ f2_ f3_;have f4_:=f1_.symm;have f5_:=f3_.symm;clear f1_ f2_ f3_;subst f4_;subst f5_))
      refine hK.out _ _ ⟨bc BK1059,bc BK1060,bc BK1061⟩ (fun hHeld => ?_)
      clear hK K
      refine qO 94 ?_
      refine q1 25 (some 95) HT_ rfl (fun K hK => ?_)
      refine g_ Try.func45 #[.agg #[.slice Ao132 t1114.length co132],.agg #[.slice Ao133 t1123.length co133]] ?_
      with_reducible refine (nat_Nat_Cmp.calls kj10 _ _ t1114 _ _ t1123 t1126 _ ?side1 ?side2 ?side3 ?side4 A113.out).mono ?_
      (case side1 => exact qCV HO1116)
      (case side2 => exact qL HO1116)
      (case side3 => exact qCV HO1125)
      (case side4 => exact qL HO1125)
      rintro e w134 ⟨rfl,hb⟩
      refine ⟨_,rfl,?_⟩
      replace HO_1060000:=qVb HO_1060000 hb
      replace HO_1061000:=qVb HO_1061000 hb
      replace HO_1062000:=qVb HO_1062000 hb
      replace HO_1070000:=qVb HO_1070000 hb
      replace HO1100:=qVb HO1100 hb
      replace HO1103:=qVb HO1103 hb
      replace HO1106:=qVb HO1106 hb
      replace HO1109:=qVb HO1109 hb
      replace HO1113:=qVb HO1113 hb
      replace HO1116:=qVb HO1116 hb
      replace HO1119:=qVb HO1119 hb
      replace HO1122:=qVb HO1122 hb
      replace HO1125:=qVb HO1125 hb
      replace BK1059:=qb BK1059 hb
      replace BK1060:=qb BK1060 hb
      replace BK1061:=qb BK1061 hb
      replace BK1069:=qb BK1069 hb
      replace HB:=qs HB hb
      clear hb
      refine hK.out _ _ ⟨bc BK1059,bc BK1060,bc BK1061⟩ (fun hHeld => ?_)
      clear hK K
      refine qO 95 ?_
      refine qP 26 96 HT_ ?_
      refine qP 27 97 HT_ ?_
      refine qP 28 6 HT_ ?_
      refine qD HT_ ?_
      try go_wp2
      (first|go_ret|(refine ⟨_,results_tmp rfl _ _ _,?_⟩))
      exact ⟨by first|rfl|(simp [errW_none,errW_some] <;> rfl)|(simp [*,errW_none,errW_some] <;> rfl),qS HB⟩
     ·rw [if_neg c107] at H
      have c107b0 : (t1110 == 0) = false:=beq_eq_false_iff_ne.mpr c107
      have c107b1 : (t1110 != 0) = true:=bne_iff_ne.mpr c107
      exact absurd H (by simp)
 ·replace c5:=Bool.eq_false_iff.mpr c5
  subst c5
  rw [qFT] at H
  exact absurd H (by simp)
def sacristylaw01_NatRules.Pure : Prop:=∀ (l0 : List Int) (l1 : List Int) (l2 : List Int),l0.length ≤ maxLen → l0.length * 1 ≤ 140737488351232 → (∀ x ∈ l0,(Lit.int .u8 x).wf = true) → l1.length ≤ maxLen → l1.length * 1 ≤ 140737488351232 → (∀ x ∈ l1,(Lit.int .u8 x).wf = true) → l2.length ≤ maxLen → l2.length * 1 ≤ 140737488351232 → (∀ x ∈ l2,(Lit.int .u8 x).wf = true) → ∃ k,sacristylaw01_NatRules.f k l0 l1 l2 = some true
theorem sacristylaw01_NatRules.walk (P : sacristylaw01_NatRules.Pure) (a0 : Option Addr) (len0 cap0 : Nat) (z0 : List Int) (a1 : Option Addr) (len1 cap1 : Nat) (z1 : List Int) (a2 : Option Addr) (len2 cap2 : Nat) (z2 : List Int) (w : World) (w0 : (a0 = none ∧ len0 = 0 ∧ cap0 = 0 ∧ z0 = []) ∨ ∃ x,a0 = some x ∧ len0 ≤ cap0 ∧ cap0 ≤ maxLen ∧ z0.length = cap0 ∧ (∀ i,i < z0.length → w.cell? (x.add i) = some (.int .u8 (z0.getD i 0))) ∧ ∀ n ∈ z0,(Lit.int .u8 n).wf = true) (y0 : len0 * 1 ≤ 140737488351232) (w1 : (a1 = none ∧ len1 = 0 ∧ cap1 = 0 ∧ z1 = []) ∨ ∃ x,a1 = some x ∧ len1 ≤ cap1 ∧ cap1 ≤ maxLen ∧ z1.length = cap1 ∧ (∀ i,i < z1.length → w.cell? (x.add i) = some (.int .u8 (z1.getD i 0))) ∧ ∀ n ∈ z1,(Lit.int .u8 n).wf = true) (y1 : len1 * 1 ≤ 140737488351232) (w2 : (a2 = none ∧ len2 = 0 ∧ cap2 = 0 ∧ z2 = []) ∨ ∃ x,a2 = some x ∧ len2 ≤ cap2 ∧ cap2 ≤ maxLen ∧ z2.length = cap2 ∧ (∀ i,i < z2.length → w.cell? (x.add i) = some (.int .u8 (z2.getD i 0))) ∧ ∀ n ∈ z2,(Lit.int .u8 n).wf = true) (y2 : len2 * 1 ≤ 140737488351232) :
  Calls Try.prog 17 #[.slice a0 len0 cap0,.slice a1 len1 cap1,.slice a2 len2 cap2] w fun e w' => e = .returned (.bool true) ∧ Below w.heap.size w w':=by
 obtain ⟨l0,rfl,hr0,hm0,hw0,hc0⟩:=ReadsInt.ofRowC w0
 obtain ⟨l1,rfl,hr1,hm1,hw1,hc1⟩:=ReadsInt.ofRowC w1
 obtain ⟨l2,rfl,hr2,hm2,hw2,hc2⟩:=ReadsInt.ofRowC w2
 obtain ⟨k,h⟩:=P l0 l1 l2 hm0 y0 hw0 hm1 y1 hw1 hm2 y2 hw2
 refine (sacristylaw01_NatRules.calls k _ _ l0 _ _ l1 _ _ l2 true w (Kd.C_of_reads (d:=(0 : Int)) (h1:=fun _ => rfl) hr0) hc0 (Kd.C_of_reads (d:=(0 : Int)) (h1:=fun _ => rfl) hr1) hc1 (Kd.C_of_reads (d:=(0 : Int)) (h1:=fun _ => rfl) hr2) hc2 h).mono ?_
 rintro e w' ⟨rfl,hd⟩
 exact ⟨rfl,hd⟩
end Go.Proofs.Yteejcpbngnojkaa.P
end
section
namespace Go.Proofs.Yteejcpbngnojkaa.P
open Go.RowKit Go.Proofs.YteejcpbngnojkaaW.PrintWords Go.Proofs.YteejcpbngnojkaaW.PrintLast Go.Proofs.YteejcpbngnojkaaW.PrintMore
attribute [local go_sem] max2_int min2_int max_two min_two max_three min_three max_four min_four
set_option linter.unusedVariables false
set_option linter.unusedSimpArgs false
def sacristyref01_Cmp.l0 : Nat → List Bool → List Bool → Int → Option (Int)
 |0,_,_,_ => none
 |k + 1,x0,x1,x5 => if x5 ≥ 0 then (if 0 ≤ x5 then (if x5 < (x0.length : Int) then (if x5 < (x1.length : Int) then (if ((rdOf false x0 x5) != (rdOf false x1 x5)) = true then (if rdOf false x1 x5 = true then (some (-1)) else (some 1)) else (sacristyref01_Cmp.l0 k x0 x1 (wrap64 (x5 - 1)))) else (none)) else (none)) else (none)) else (some 0)
def sacristyref01_Cmp.f (k : Nat) (l0 : List Bool) (l1 : List Bool) : Option (Int):=if (l0.length : Int) < (l1.length : Int) then (some (-1)) else (if (l0.length : Int) > (l1.length : Int) then (some 1) else (sacristyref01_Cmp.l0 k l0 l1 (wrap64 ((l0.length : Int) - 1))))
theorem sacristyref01_Cmp.mono_l : ∀ k,(∀ y0 y1 y2,LeO (sacristyref01_Cmp.l0 k y0 y1 y2) (sacristyref01_Cmp.l0 (k + 1) y0 y1 y2))
 |0 => fun _ _ _ r h => by simp [sacristyref01_Cmp.l0] at h
 |k + 1 => by
  have ih0:=sacristyref01_Cmp.mono_l k
  ·intro y0 y1 y2
   unfold sacristyref01_Cmp.l0
   repeat' first
   |(with_reducible exact ih0 _ _ _)
   |(with_reducible exact LeO.refl _)
   |(with_reducible exact LeO.none _)
   |(with_reducible refine LeO.ite ?_ ?_)
   |(with_reducible refine LeO.bind ?_ (fun _ => ?_))
   |exact ih0 _ _ _
   |exact LeO.none _
   |refine LeO.ite ?_ ?_
   |refine LeO.bind ?_ (fun _ => ?_)
theorem sacristyref01_Cmp.mono : ∀ a0 a1 k,LeO (sacristyref01_Cmp.f k a0 a1) (sacristyref01_Cmp.f (k + 1) a0 a1):=by
 intro a0 a1 k
 have ih0:=sacristyref01_Cmp.mono_l k
 unfold sacristyref01_Cmp.f
 repeat' first
   |(with_reducible exact ih0 _ _ _)
   |(with_reducible exact LeO.refl _)
   |(with_reducible exact LeO.none _)
   |(with_reducible refine LeO.ite ?_ ?_)
   |(with_reducible refine LeO.bind ?_ (fun _ => ?_))
   |exact ih0 _ _ _
   |exact LeO.none _
   |refine LeO.ite ?_ ?_
   |refine LeO.bind ?_ (fun _ => ?_)
end Go.Proofs.Yteejcpbngnojkaa.P
end
section
namespace Go.Proofs.Yteejcpbngnojkaa.P
open Go.RowKit Go.Proofs.YteejcpbngnojkaaW.PrintWords Go.Proofs.YteejcpbngnojkaaW.PrintLast Go.Proofs.YteejcpbngnojkaaW.PrintMore
attribute [local go_sem] max2_int min2_int max_two min_two max_three min_three max_four min_four
set_option linter.unusedVariables false
set_option linter.unusedSimpArgs false
def sacristyref01_Trim.l0 : Nat → List Bool → Option (List Bool)
 |0,_ => none
 |k + 1,x0 => if (x0.length : Int) > 0 then (if 0 ≤ (wrap64 ((x0.length : Int) - 1)) then (if (wrap64 ((x0.length : Int) - 1)) < (x0.length : Int) then (if (rdOf false x0 (wrap64 ((x0.length : Int) - 1)) = true) then (some x0) else (if (wrap64 ((x0.length : Int) - 1)) ≤ (x0.length : Int) then (sacristyref01_Trim.l0 k (x0.take ((wrap64 ((x0.length : Int) - 1)) : Int).toNat)) else (none))) else (none)) else (none)) else (some x0)
def sacristyref01_Trim.f (k : Nat) (l0 : List Bool) : Option (List Bool):=sacristyref01_Trim.l0 k l0
theorem sacristyref01_Trim.mono_l : ∀ k,(∀ y0,LeO (sacristyref01_Trim.l0 k y0) (sacristyref01_Trim.l0 (k + 1) y0))
 |0 => fun _ r h => by simp [sacristyref01_Trim.l0] at h
 |k + 1 => by
  have ih0:=sacristyref01_Trim.mono_l k
  ·intro y0
   unfold sacristyref01_Trim.l0
   repeat' first
   |(with_reducible exact ih0 _)
   |(with_reducible exact LeO.refl _)
   |(with_reducible exact LeO.none _)
   |(with_reducible refine LeO.ite ?_ ?_)
   |(with_reducible refine LeO.bind ?_ (fun _ => ?_))
   |exact ih0 _
   |exact LeO.none _
   |refine LeO.ite ?_ ?_
   |refine LeO.bind ?_ (fun _ => ?_)
theorem sacristyref01_Trim.mono : ∀ a0 k,LeO (sacristyref01_Trim.f k a0) (sacristyref01_Trim.f (k + 1) a0):=by
 intro a0 k
 have ih0:=sacristyref01_Trim.mono_l k
 unfold sacristyref01_Trim.f
 repeat' first
   |(with_reducible exact ih0 _)
   |(with_reducible exact LeO.refl _)
   |(with_reducible exact LeO.none _)
   |(with_reducible refine LeO.ite ?_ ?_)
   |(with_reducible refine LeO.bind ?_ (fun _ => ?_))
   |exact ih0 _
   |exact LeO.none _
   |refine LeO.ite ?_ ?_
   |refine LeO.bind ?_ (fun _ => ?_)
end Go.Proofs.Yteejcpbngnojkaa.P
end
section
namespace Go.Proofs.Yteejcpbngnojkaa.P
open Go.RowKit Go.Proofs.YteejcpbngnojkaaW.PrintWords Go.Proofs.YteejcpbngnojkaaW.PrintLast Go.Proofs.YteejcpbngnojkaaW.PrintMore
attribute [local go_sem] max2_int min2_int max_two min_two max_three min_three max_four min_four
set_option linter.unusedVariables false
set_option linter.unusedSimpArgs false
def sacristyref01_at.f (l0 : List Bool) (a1 : Int) : Option (Int):=if a1 ≥ 0 then (if a1 < (l0.length : Int) then (if 0 ≤ a1 then (if rdOf false l0 a1 = true then (some 1) else (some 0)) else (none)) else (some 0)) else (some 0)
end Go.Proofs.Yteejcpbngnojkaa.P
end
section
namespace Go.Proofs.Yteejcpbngnojkaa.P
open Go.RowKit Go.Proofs.YteejcpbngnojkaaW.PrintWords Go.Proofs.YteejcpbngnojkaaW.PrintLast Go.Proofs.YteejcpbngnojkaaW.PrintMore
attribute [local go_sem] max2_int min2_int max_two min_two max_three min_three max_four min_four
set_option linter.unusedVariables false
set_option linter.unusedSimpArgs false
def sacristyref01_Sub.l0 : Nat → List Bool → List Bool → List Bool → Int → Int → Option (List Bool)
 |0,_,_,_,_,_ => none
 |k + 1,x0,x1,x5,x6,x7 => if x7 < (x0.length : Int) then ((sacristyref01_at.f x0 x7).bind fun t738 => ((sacristyref01_at.f x1 x7).bind fun t739 => (if (wrap64 ((wrap64 (t738 - t739)) - x6)) < 0 then (if x5.length < 140737488355328 then (sacristyref01_Sub.l0 k x0 x1 (x5 ++ [((wrap64 ((wrap64 ((wrap64 (t738 - t739)) - x6)) + 2)) == 1)]) 1 (wrap64 (x7 + 1))) else (none)) else (if x5.length < 140737488355328 then (sacristyref01_Sub.l0 k x0 x1 (x5 ++ [((wrap64 ((wrap64 (t738 - t739)) - x6)) == 1)]) 0 (wrap64 (x7 + 1))) else (none))))) else ((sacristyref01_Trim.f k x5).bind fun t735 => (some t735))
def sacristyref01_Sub.f (k : Nat) (l0 : List Bool) (l1 : List Bool) : Option (List Bool):=sacristyref01_Sub.l0 k l0 l1 (([] : List Bool)) 0 0
theorem sacristyref01_Sub.mono_l : ∀ k,(∀ y0 y1 y2 y3 y4,LeO (sacristyref01_Sub.l0 k y0 y1 y2 y3 y4) (sacristyref01_Sub.l0 (k + 1) y0 y1 y2 y3 y4))
 |0 => fun _ _ _ _ _ r h => by simp [sacristyref01_Sub.l0] at h
 |k + 1 => by
  have ih0:=sacristyref01_Sub.mono_l k
  ·intro y0 y1 y2 y3 y4
   unfold sacristyref01_Sub.l0
   repeat' first
   |(with_reducible exact ih0 _ _ _ _ _)
   |(with_reducible exact sacristyref01_Trim.mono _ _)
   |(with_reducible exact LeO.refl _)
   |(with_reducible exact LeO.none _)
   |(with_reducible refine LeO.ite ?_ ?_)
   |(with_reducible refine LeO.bind ?_ (fun _ => ?_))
   |exact ih0 _ _ _ _ _
   |exact sacristyref01_Trim.mono _ _
   |exact LeO.none _
   |refine LeO.ite ?_ ?_
   |refine LeO.bind ?_ (fun _ => ?_)
theorem sacristyref01_Sub.mono : ∀ a0 a1 k,LeO (sacristyref01_Sub.f k a0 a1) (sacristyref01_Sub.f (k + 1) a0 a1):=by
 intro a0 a1 k
 have ih0:=sacristyref01_Sub.mono_l k
 unfold sacristyref01_Sub.f
 repeat' first
   |(with_reducible exact ih0 _ _ _ _ _)
   |(with_reducible exact sacristyref01_Trim.mono _ _)
   |(with_reducible exact LeO.refl _)
   |(with_reducible exact LeO.none _)
   |(with_reducible refine LeO.ite ?_ ?_)
   |(with_reducible refine LeO.bind ?_ (fun _ => ?_))
   |exact ih0 _ _ _ _ _
   |exact sacristyref01_Trim.mono _ _
   |exact LeO.none _
   |refine LeO.ite ?_ ?_
   |refine LeO.bind ?_ (fun _ => ?_)
end Go.Proofs.Yteejcpbngnojkaa.P
end
section
namespace Go.Proofs.Yteejcpbngnojkaa.P
open Go.RowKit Go.Proofs.YteejcpbngnojkaaW.PrintWords Go.Proofs.YteejcpbngnojkaaW.PrintLast Go.Proofs.YteejcpbngnojkaaW.PrintMore
attribute [local go_sem] max2_int min2_int max_two min_two max_three min_three max_four min_four
set_option linter.unusedVariables false
set_option linter.unusedSimpArgs false
def sacristyref01_Div.l0 : Nat → List Bool → List Bool → List Bool → List Bool → Int → Option (List Bool × List Bool)
 |0,_,_,_,_,_ => none
 |k + 1,x0,x1,x6,x7,x8 => if x8 ≥ 0 then (if 0 ≤ x8 then (if x8 < (x0.length : Int) then ((some (([rdOf false x0 x8] : List Bool) : List Bool)).bind fun y756 => (if y756.length + x7.length < 140737488355328 then ((sacristyref01_Trim.f k (y756 ++ x7)).bind fun t762 => ((sacristyref01_Cmp.f k t762 x1).bind fun t765 => (if t765 ≥ 0 then ((sacristyref01_Sub.f k t762 x1).bind fun t766 => (if x8 < (x6.length : Int) then (sacristyref01_Div.l0 k x0 x1 (x6.set (x8 : Int).toNat true) t766 (wrap64 (x8 - 1))) else (none))) else (sacristyref01_Div.l0 k x0 x1 x6 t762 (wrap64 (x8 - 1)))))) else (none))) else (none)) else (none)) else ((sacristyref01_Trim.f k x6).bind fun t752 => (some (t752,x7)))
def sacristyref01_Div.f (k : Nat) (l0 : List Bool) (l1 : List Bool) : Option (List Bool × List Bool):=if 0 ≤ (l0.length : Int) then (if ((l0.length : Int) : Int).toNat ≤ 281474976710656 then (sacristyref01_Div.l0 k l0 l1 (List.replicate ((l0.length : Int) : Int).toNat false) (([] : List Bool)) (wrap64 ((l0.length : Int) - 1))) else (none)) else (none)
theorem sacristyref01_Div.mono_l : ∀ k,(∀ y0 y1 y2 y3 y4,LeO (sacristyref01_Div.l0 k y0 y1 y2 y3 y4) (sacristyref01_Div.l0 (k + 1) y0 y1 y2 y3 y4))
 |0 => fun _ _ _ _ _ r h => by simp [sacristyref01_Div.l0] at h
 |k + 1 => by
  have ih0:=sacristyref01_Div.mono_l k
  ·intro y0 y1 y2 y3 y4
   unfold sacristyref01_Div.l0
   repeat' first
   |(with_reducible exact ih0 _ _ _ _ _)
   |(with_reducible exact sacristyref01_Cmp.mono _ _ _)
   |(with_reducible exact sacristyref01_Sub.mono _ _ _)
   |(with_reducible exact sacristyref01_Trim.mono _ _)
   |(with_reducible exact LeO.refl _)
   |(with_reducible exact LeO.none _)
   |(with_reducible refine LeO.ite ?_ ?_)
   |(with_reducible refine LeO.bind ?_ (fun _ => ?_))
   |exact ih0 _ _ _ _ _
   |exact sacristyref01_Cmp.mono _ _ _
   |exact sacristyref01_Sub.mono _ _ _
   |exact sacristyref01_Trim.mono _ _
   |exact LeO.none _
   |refine LeO.ite ?_ ?_
   |refine LeO.bind ?_ (fun _ => ?_)
theorem sacristyref01_Div.mono : ∀ a0 a1 k,LeO (sacristyref01_Div.f k a0 a1) (sacristyref01_Div.f (k + 1) a0 a1):=by
 intro a0 a1 k
 have ih0:=sacristyref01_Div.mono_l k
 unfold sacristyref01_Div.f
 repeat' first
   |(with_reducible exact ih0 _ _ _ _ _)
   |(with_reducible exact sacristyref01_Cmp.mono _ _ _)
   |(with_reducible exact sacristyref01_Sub.mono _ _ _)
   |(with_reducible exact sacristyref01_Trim.mono _ _)
   |(with_reducible exact LeO.refl _)
   |(with_reducible exact LeO.none _)
   |(with_reducible refine LeO.ite ?_ ?_)
   |(with_reducible refine LeO.bind ?_ (fun _ => ?_))
   |exact ih0 _ _ _ _ _
   |exact sacristyref01_Cmp.mono _ _ _
   |exact sacristyref01_Sub.mono _ _ _
   |exact sacristyref01_Trim.mono _ _
   |exact LeO.none _
   |refine LeO.ite ?_ ?_
   |refine LeO.bind ?_ (fun _ => ?_)
end Go.Proofs.Yteejcpbngnojkaa.P
end
section
namespace Go.Proofs.Yteejcpbngnojkaa.P
open Go.RowKit Go.Proofs.YteejcpbngnojkaaW.PrintWords Go.Proofs.YteejcpbngnojkaaW.PrintLast Go.Proofs.YteejcpbngnojkaaW.PrintMore
attribute [local go_sem] max2_int min2_int max_two min_two max_three min_three max_four min_four
set_option linter.unusedVariables false
set_option linter.unusedSimpArgs false
def sacristyref01_Gcd.l0 : Nat → List Bool → List Bool → Option (List Bool)
 |0,_,_ => none
 |k + 1,x0,x1 => if (x1.length : Int) > 0 then ((sacristyref01_Div.f k x0 x1).bind fun bt770 => (sacristyref01_Gcd.l0 k x1 bt770.2)) else (some x0)
def sacristyref01_Gcd.f (k : Nat) (l0 : List Bool) (l1 : List Bool) : Option (List Bool):=sacristyref01_Gcd.l0 k l0 l1
theorem sacristyref01_Gcd.mono_l : ∀ k,(∀ y0 y1,LeO (sacristyref01_Gcd.l0 k y0 y1) (sacristyref01_Gcd.l0 (k + 1) y0 y1))
 |0 => fun _ _ r h => by simp [sacristyref01_Gcd.l0] at h
 |k + 1 => by
  have ih0:=sacristyref01_Gcd.mono_l k
  ·intro y0 y1
   unfold sacristyref01_Gcd.l0
   repeat' first
   |(with_reducible exact ih0 _ _)
   |(with_reducible exact sacristyref01_Div.mono _ _ _)
   |(with_reducible exact LeO.refl _)
   |(with_reducible exact LeO.none _)
   |(with_reducible refine LeO.ite ?_ ?_)
   |(with_reducible refine LeO.bind ?_ (fun _ => ?_))
   |exact ih0 _ _
   |exact sacristyref01_Div.mono _ _ _
   |exact LeO.none _
   |refine LeO.ite ?_ ?_
   |refine LeO.bind ?_ (fun _ => ?_)
theorem sacristyref01_Gcd.mono : ∀ a0 a1 k,LeO (sacristyref01_Gcd.f k a0 a1) (sacristyref01_Gcd.f (k + 1) a0 a1):=by
 intro a0 a1 k
 have ih0:=sacristyref01_Gcd.mono_l k
 unfold sacristyref01_Gcd.f
 repeat' first
   |(with_reducible exact ih0 _ _)
   |(with_reducible exact sacristyref01_Div.mono _ _ _)
   |(with_reducible exact LeO.refl _)
   |(with_reducible exact LeO.none _)
   |(with_reducible refine LeO.ite ?_ ?_)
   |(with_reducible refine LeO.bind ?_ (fun _ => ?_))
   |exact ih0 _ _
   |exact sacristyref01_Div.mono _ _ _
   |exact LeO.none _
   |refine LeO.ite ?_ ?_
   |refine LeO.bind ?_ (fun _ => ?_)
end Go.Proofs.Yteejcpbngnojkaa.P
end
section
namespace Go.Proofs.Yteejcpbngnojkaa.P
open Go.RowKit Go.Proofs.YteejcpbngnojkaaW.PrintWords Go.Proofs.YteejcpbngnojkaaW.PrintLast Go.Proofs.YteejcpbngnojkaaW.PrintMore
attribute [local go_sem] max2_int min2_int max_two min_two max_three min_three max_four min_four
set_option linter.unusedVariables false
set_option linter.unusedSimpArgs false
mutual
def sacristyref01_Add.l0 : Nat → List Bool → List Bool → List Bool → Int → Int → Option (List Bool)
 |0,_,_,_,_,_ => none
 |k + 1,x0,x1,x5,x6,x7 => if x7 < (x0.length : Int) then (sacristyref01_Add.j1 k x0 x1 x5 x6 x7 true) else (if x7 < (x1.length : Int) then (sacristyref01_Add.j1 k x0 x1 x5 x6 x7 true) else (sacristyref01_Add.j1 k x0 x1 x5 x6 x7 (decide (x6 > 0))))
def sacristyref01_Add.j1 : Nat → List Bool → List Bool → List Bool → Int → Int → Bool → Option (List Bool)
 |0,_,_,_,_,_,_ => none
 |k + 1,x0,x1,x5,x6,x7,x23 => if x23 = true then ((sacristyref01_at.f x0 x7).bind fun t853 => ((sacristyref01_at.f x1 x7).bind fun t854 => (if x5.length < 140737488355328 then (sacristyref01_Add.l0 k x0 x1 (x5 ++ [((Int.tmod (wrap64 ((wrap64 (t853 + t854)) + x6)) 2) == 1)]) (wrap64 (Int.tdiv (wrap64 ((wrap64 (t853 + t854)) + x6)) 2)) (wrap64 (x7 + 1))) else (none)))) else ((sacristyref01_Trim.f k x5).bind fun t858 => (some t858))
end
def sacristyref01_Add.f (k : Nat) (l0 : List Bool) (l1 : List Bool) : Option (List Bool):=sacristyref01_Add.l0 k l0 l1 (([] : List Bool)) 0 0
theorem sacristyref01_Add.mono_l : ∀ k,(∀ y0 y1 y2 y3 y4,LeO (sacristyref01_Add.l0 k y0 y1 y2 y3 y4) (sacristyref01_Add.l0 (k + 1) y0 y1 y2 y3 y4)) ∧ (∀ y0 y1 y2 y3 y4 y5,LeO (sacristyref01_Add.j1 k y0 y1 y2 y3 y4 y5) (sacristyref01_Add.j1 (k + 1) y0 y1 y2 y3 y4 y5))
 |0 => ⟨fun _ _ _ _ _ r h => by simp [sacristyref01_Add.l0] at h,fun _ _ _ _ _ _ r h => by simp [sacristyref01_Add.j1] at h⟩
 |k + 1 => by
  obtain ⟨ih0,ih1⟩:=sacristyref01_Add.mono_l k
  refine ⟨?_,?_⟩
  ·intro y0 y1 y2 y3 y4
   unfold sacristyref01_Add.l0
   repeat' first
   |(with_reducible exact ih0 _ _ _ _ _)
   |(with_reducible exact ih1 _ _ _ _ _ _)
   |(with_reducible exact sacristyref01_Trim.mono _ _)
   |(with_reducible exact LeO.refl _)
   |(with_reducible exact LeO.none _)
   |(with_reducible refine LeO.ite ?_ ?_)
   |(with_reducible refine LeO.bind ?_ (fun _ => ?_))
   |exact ih0 _ _ _ _ _
   |exact ih1 _ _ _ _ _ _
   |exact sacristyref01_Trim.mono _ _
   |exact LeO.none _
   |refine LeO.ite ?_ ?_
   |refine LeO.bind ?_ (fun _ => ?_)
  ·intro y0 y1 y2 y3 y4 y5
   unfold sacristyref01_Add.j1
   repeat' first
   |(with_reducible exact ih0 _ _ _ _ _)
   |(with_reducible exact ih1 _ _ _ _ _ _)
   |(with_reducible exact sacristyref01_Trim.mono _ _)
   |(with_reducible exact LeO.refl _)
   |(with_reducible exact LeO.none _)
   |(with_reducible refine LeO.ite ?_ ?_)
   |(with_reducible refine LeO.bind ?_ (fun _ => ?_))
   |exact ih0 _ _ _ _ _
   |exact ih1 _ _ _ _ _ _
   |exact sacristyref01_Trim.mono _ _
   |exact LeO.none _
   |refine LeO.ite ?_ ?_
   |refine LeO.bind ?_ (fun _ => ?_)
theorem sacristyref01_Add.mono : ∀ a0 a1 k,LeO (sacristyref01_Add.f k a0 a1) (sacristyref01_Add.f (k + 1) a0 a1):=by
 intro a0 a1 k
 obtain ⟨ih0,ih1⟩:=sacristyref01_Add.mono_l k
 unfold sacristyref01_Add.f
 repeat' first
   |(with_reducible exact ih0 _ _ _ _ _)
   |(with_reducible exact ih1 _ _ _ _ _ _)
   |(with_reducible exact sacristyref01_Trim.mono _ _)
   |(with_reducible exact LeO.refl _)
   |(with_reducible exact LeO.none _)
   |(with_reducible refine LeO.ite ?_ ?_)
   |(with_reducible refine LeO.bind ?_ (fun _ => ?_))
   |exact ih0 _ _ _ _ _
   |exact ih1 _ _ _ _ _ _
   |exact sacristyref01_Trim.mono _ _
   |exact LeO.none _
   |refine LeO.ite ?_ ?_
   |refine LeO.bind ?_ (fun _ => ?_)
end Go.Proofs.Yteejcpbngnojkaa.P
end
section
namespace Go.Proofs.Yteejcpbngnojkaa.P
open Go.RowKit Go.Proofs.YteejcpbngnojkaaW.PrintWords Go.Proofs.YteejcpbngnojkaaW.PrintLast Go.Proofs.YteejcpbngnojkaaW.PrintMore
attribute [local go_sem] max2_int min2_int max_two min_two max_three min_three max_four min_four
set_option linter.unusedVariables false
set_option linter.unusedSimpArgs false
def sacristyref01_Shift.f (l0 : List Bool) (a1 : Int) : Option (List Bool):=if (l0.length : Int) = 0 then (some (([] : List Bool))) else (if 0 ≤ a1 then (if (a1 : Int).toNat ≤ 281474976710656 then ((some (List.replicate (a1 : Int).toNat false : List Bool)).bind fun y864 => (if y864.length + l0.length < 140737488355328 then (some (y864 ++ l0)) else (none))) else (none)) else (none))
end Go.Proofs.Yteejcpbngnojkaa.P
end
section
namespace Go.Proofs.Yteejcpbngnojkaa.P
open Go.RowKit Go.Proofs.YteejcpbngnojkaaW.PrintWords Go.Proofs.YteejcpbngnojkaaW.PrintLast Go.Proofs.YteejcpbngnojkaaW.PrintMore
attribute [local go_sem] max2_int min2_int max_two min_two max_three min_three max_four min_four
set_option linter.unusedVariables false
set_option linter.unusedSimpArgs false
def sacristyref01_Mul.l0 : Nat → List Bool → List Bool → List Bool → Int → Int → Option (List Bool)
 |0,_,_,_,_,_ => none
 |k + 1,x0,x5,x9,x10,x11 => if x11 < x10 then (if 0 ≤ x11 then (if x11 < (x9.length : Int) then (if rdOf false x9 x11 = true then ((sacristyref01_Shift.f x0 x11).bind fun t874 => ((sacristyref01_Add.f k x5 t874).bind fun t877 => (sacristyref01_Mul.l0 k x0 t877 x9 x10 (wrap64 (x11 + 1))))) else (sacristyref01_Mul.l0 k x0 x5 x9 x10 (wrap64 (x11 + 1)))) else (none)) else (none)) else (some x5)
def sacristyref01_Mul.f (k : Nat) (l0 : List Bool) (l1 : List Bool) : Option (List Bool):=sacristyref01_Mul.l0 k l0 (([] : List Bool)) l1 (l1.length : Int) 0
theorem sacristyref01_Mul.mono_l : ∀ k,(∀ y0 y1 y2 y3 y4,LeO (sacristyref01_Mul.l0 k y0 y1 y2 y3 y4) (sacristyref01_Mul.l0 (k + 1) y0 y1 y2 y3 y4))
 |0 => fun _ _ _ _ _ r h => by simp [sacristyref01_Mul.l0] at h
 |k + 1 => by
  have ih0:=sacristyref01_Mul.mono_l k
  ·intro y0 y1 y2 y3 y4
   unfold sacristyref01_Mul.l0
   repeat' first
   |(with_reducible exact ih0 _ _ _ _ _)
   |(with_reducible exact sacristyref01_Add.mono _ _ _)
   |(with_reducible exact LeO.refl _)
   |(with_reducible exact LeO.none _)
   |(with_reducible refine LeO.ite ?_ ?_)
   |(with_reducible refine LeO.bind ?_ (fun _ => ?_))
   |exact ih0 _ _ _ _ _
   |exact sacristyref01_Add.mono _ _ _
   |exact LeO.none _
   |refine LeO.ite ?_ ?_
   |refine LeO.bind ?_ (fun _ => ?_)
theorem sacristyref01_Mul.mono : ∀ a0 a1 k,LeO (sacristyref01_Mul.f k a0 a1) (sacristyref01_Mul.f (k + 1) a0 a1):=by
 intro a0 a1 k
 have ih0:=sacristyref01_Mul.mono_l k
 unfold sacristyref01_Mul.f
 repeat' first
   |(with_reducible exact ih0 _ _ _ _ _)
   |(with_reducible exact sacristyref01_Add.mono _ _ _)
   |(with_reducible exact LeO.refl _)
   |(with_reducible exact LeO.none _)
   |(with_reducible refine LeO.ite ?_ ?_)
   |(with_reducible refine LeO.bind ?_ (fun _ => ?_))
   |exact ih0 _ _ _ _ _
   |exact sacristyref01_Add.mono _ _ _
   |exact LeO.none _
   |refine LeO.ite ?_ ?_
   |refine LeO.bind ?_ (fun _ => ?_)
end Go.Proofs.Yteejcpbngnojkaa.P
end
