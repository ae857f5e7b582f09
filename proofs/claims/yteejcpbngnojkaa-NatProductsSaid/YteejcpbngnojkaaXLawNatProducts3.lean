/- Part of the proof: the walks and the plain arithmetic, in line (wip/tools/pack.py). -/
import Derived.Test.YteejcpbngnojkaaXLawNatProducts2
section
namespace Go.Proofs.Yteejcpbngnojkaa.P
open Go.RowKit Go.Shelf Go.Proofs.YteejcpbngnojkaaW.PrintWords Go.Proofs.YteejcpbngnojkaaW.PrintLast Go.Proofs.YteejcpbngnojkaaW.PrintMore
open Go.Proofs.Yteejcpbngnojkaa.Num
set_option linter.unusedVariables false
def nat_Nat_Div.f (_k : Nat) (l0_0 : List Int) (l1_0 : List Int) : Option (List Int × List Int × Int) :=
  if canonB l0_0 && canonB l1_0 && decide (l0_0.length ≤ 1048576) && decide (l1_0.length ≤ 1048576) then (if valW l1_0 = 0 then some ([], [], 5) else some (toW (valW l0_0 / valW l1_0), toW (valW l0_0 % valW l1_0), 0)) else none
theorem nat_Nat_Div.mono : ∀ a0 a1 k, LeO (nat_Nat_Div.f k a0 a1) (nat_Nat_Div.f (k + 1) a0 a1) := fun _ _ _ => LeO.refl _
theorem four_new (w : World) (o0 o1 o2 o3 : Obj) : ((((w.alloc o0).alloc o1).alloc o2).alloc o3).heap[w.heap.size]? = some o0 ∧ ((((w.alloc o0).alloc o1).alloc o2).alloc o3).heap[w.heap.size + 1]? = some o1 ∧ ((((w.alloc o0).alloc o1).alloc o2).alloc o3).heap[w.heap.size + 1 + 1]? = some o2 ∧ ((((w.alloc o0).alloc o1).alloc o2).alloc o3).heap[w.heap.size + 1 + 1 + 1]? = some o3 ∧ Below w.heap.size w ((((w.alloc o0).alloc o1).alloc o2).alloc o3) := by
  refine ⟨blk_alloc (blk_alloc (blk_alloc (blk_new w o0) _) _) _, ?_, ?_, ?_, ?_⟩
  · refine blk_alloc (blk_alloc ?_ _) _
    have := blk_new (w.alloc o0) o1
    simpa only [World.size_alloc] using this
  · refine blk_alloc ?_ _
    have := blk_new ((w.alloc o0).alloc o1) o2
    simpa only [World.size_alloc] using this
  · have := blk_new (((w.alloc o0).alloc o1).alloc o2) o3
    simpa only [World.size_alloc] using this
  · exact ((((Below.refl _ w).alloc (Nat.le_refl _) _).alloc (by simp) _).alloc (by simp; omega) _).alloc (by simp; omega) _
theorem two_end {w W : World} {va vb : Value} (m2 : W.heap[w.heap.size + 1 + 1]? = some (.cells #[.slice none 0 0] 38 (0, 0))) (m3 : W.heap[w.heap.size + 1 + 1 + 1]? = some (.cells #[.slice none 0 0] 38 (0, 0))) (hB : Below w.heap.size w W) (Wf : World)
    (hW : (W.setCell ⟨w.heap.size + 1 + 1, 0, none⟩ va).setCell ⟨w.heap.size + 1 + 1 + 1, 0, none⟩ vb = Wf) :
    Wf.heap[w.heap.size + 1 + 1]? = some (.cells #[va] 38 (0, 0)) ∧ Wf.heap[w.heap.size + 1 + 1 + 1]? = some (.cells #[vb] 38 (0, 0)) ∧ Below w.heap.size w Wf ∧ ∀ (b : Nat) (ok ok' : Nat → Prop) (v : Value) (xs : List Int), Kd.V (Kd.int .u32) 23 W b ok v xs → (∀ k, ok k → (k ≠ w.heap.size + 1 + 1 ∧ k ≠ w.heap.size + 1 + 1 + 1) ∧ ok' k) → Kd.V (Kd.int .u32) 23 Wf w.heap.size ok' v xs := by
  subst hW
  refine ⟨(Below.heap_setCell _ _ _ _ (by show w.heap.size + 1 + 1 ≠ w.heap.size + 1 + 1 + 1; omega)).trans (blk_put m2 0 _ rfl), blk_put ((Below.heap_setCell _ _ _ _ (by show w.heap.size + 1 + 1 + 1 ≠ w.heap.size + 1 + 1; omega)).trans m3) 0 _ rfl,
    (hB.setCell (p := ⟨w.heap.size + 1 + 1, 0, none⟩) (by show w.heap.size ≤ w.heap.size + 1 + 1; omega) _).setCell (p := ⟨w.heap.size + 1 + 1 + 1, 0, none⟩) (by show w.heap.size ≤ w.heap.size + 1 + 1 + 1; omega) _, fun b ok ok' v xs hv ho => ?_⟩
  exact Kd.V_mono (Kd.V_far (Kd.V_far hv (fun k hk => (ho k hk).1.1) _) (fun k hk => (ho k hk).1.2) _) (fun k hk => (ho k hk).2)
set_option maxRecDepth 100000 in
set_option maxHeartbeats 4000000 in
theorem nat_Nat_Div.calls_z (P0_0_ : Nat → Prop) (A0_0 : Option Addr) (c0_0 : Nat) (l0_0 : List Int) (A1_0 : Option Addr) (c1_0 : Nat) (l1_0 : List Int) (w : World) (hs0_0 : Kd.V (Kd.int .u32) 23 w w.heap.size (fun k_ => P0_0_ k_) (.slice A0_0 l0_0.length c0_0) l0_0) (hr1_0 : Kd.C (Kd.int .u32) w A1_0 l1_0.length l1_0) (hc1_0 : l1_0.length ≤ c1_0) (hz : l1_0.length = 0) :
    Calls Try.prog 53 #[.agg #[.slice A0_0 l0_0.length c0_0], .agg #[.slice A1_0 l1_0.length c1_0]] w fun e w' => ∃ v0_ v1_ : Value, e = .returned (.tuple #[.agg #[v0_], .agg #[v1_], (.int .i64 5)]) ∧ Kd.V (Kd.int .u32) 23 w' w.heap.size (fun k_ => (P0_0_ k_ ∨ w.heap.size ≤ k_)) v0_ [] ∧ Kd.V (Kd.int .u32) 23 w' w.heap.size (fun k_ => (P0_0_ k_ ∨ w.heap.size ≤ k_)) v1_ [] ∧ Below w.heap.size w w' := by
  have V0 := Aside0.mk (Kd.V_bound hs0_0)
  have C1 := Aside0.mk hr1_0
  have hc1 := Aside0.mk hc1_0
  clear hs0_0 hr1_0 hc1_0
  obtain ⟨k0, k1, k2, k3, B⟩ := four_new w (.cells #[.slice A0_0 l0_0.length c0_0] 38) (.cells #[.slice A1_0 l1_0.length c1_0] 38) (.cells #[.slice none 0 0] 38) (.cells #[.slice none 0 0] 38)
  have V1 := Aside0.mk (Kd.V_alloc (Kd.V_alloc (Kd.V_alloc (Kd.V_alloc V0.out (.cells #[.slice A0_0 l0_0.length c0_0] 38)) (.cells #[.slice A1_0 l1_0.length c1_0] 38)) (.cells #[.slice none 0 0] 38)) (.cells #[.slice none 0 0] 38))
  have C2 := Aside0.mk (Kd.C_below C1.out B)
  have hzb : ((l1_0.length : Int) == 0) = true := by rw [hz]; rfl
  replace hz := Aside0.mk hz
  go_enter Try.func53, Try.ntmps53
  go_wp2_with (go_at_call 44; refine (nat_Nat_Zero.calls _ _ l1_0 _ _ C2.out hc1.out rfl).mono ?_; rintro e w1 ⟨rfl, hb⟩; replace k0 := (hb.block _ (blk_lt k0)).trans k0; replace k1 := (hb.block _ (blk_lt k1)).trans k1; replace k2 := (hb.block _ (blk_lt k2)).trans k2; replace k3 := (hb.block _ (blk_lt k3)).trans k3; replace V1 := Aside0.mk (Kd.V_below V1.out hb); replace C2 := Aside0.mk (Kd.C_below C2.out hb); replace B := below_step B hb; clear hb; have q0 : World.cell? _ ⟨w.heap.size, 0, none⟩ = some (.slice A0_0 l0_0.length c0_0) := blk_cell k0 0; have q1 : World.cell? _ ⟨w.heap.size + 1, 0, none⟩ = some (.slice A1_0 l1_0.length c1_0) := blk_cell k1 0; have q2 : World.cell? _ ⟨w.heap.size + 1 + 1, 0, none⟩ = some (.slice none 0 0) := blk_cell k2 0; have q3 : World.cell? _ ⟨w.heap.size + 1 + 1 + 1, 0, none⟩ = some (.slice none 0 0) := blk_cell k3 0; have f2 := blk_frozen k2 0; have f3 := blk_frozen k3 0)
  obtain ⟨e2, e3, y1, y2⟩ := two_end k2 k3 B _ rfl
  refine bodyPost_ret (results_list (rs := [.cell 4 38, .cell 5 38, .tmp 6]) rfl (by simp) (.cell _ 38 _ (0, 0) _ rfl e2 Try.underlying38 rfl (by kernel_rfl) (.cell _ 38 _ (0, 0) _ rfl e3 Try.underlying38 rfl (by kernel_rfl) (.tmp .nil)))) rfl ?_
  exact ⟨_, _, rfl, Kd.V_nil _ _ _ _ _, Kd.V_nil _ _ _ _ _, y1⟩
set_option maxRecDepth 100000 in
set_option maxHeartbeats 4000000 in
theorem nat_Nat_Div.calls_l (k : Nat) (c : Int) (P0_0_ : Nat → Prop) (A0_0 : Option Addr) (c0_0 : Nat) (l0_0 : List Int) (A1_0 : Option Addr) (c1_0 : Nat) (l1_0 : List Int) (w : World) (hs0_0 : Kd.V (Kd.int .u32) 23 w w.heap.size (fun k_ => P0_0_ k_) (.slice A0_0 l0_0.length c0_0) l0_0) (hr1_0 : Kd.C (Kd.int .u32) w A1_0 l1_0.length l1_0) (hc1_0 : l1_0.length ≤ c1_0) (hz : ¬ l1_0.length = 0) (hc : nat_Nat_Cmp.f k l0_0 l1_0 = some c) (hneg : c < 0) :
    Calls Try.prog 53 #[.agg #[.slice A0_0 l0_0.length c0_0], .agg #[.slice A1_0 l1_0.length c1_0]] w fun e w' => ∃ v0_ v1_ : Value, e = .returned (.tuple #[.agg #[v0_], .agg #[v1_], (.int .i64 0)]) ∧ Kd.V (Kd.int .u32) 23 w' w.heap.size (fun k_ => (P0_0_ k_ ∨ w.heap.size ≤ k_)) v0_ [] ∧ Kd.V (Kd.int .u32) 23 w' w.heap.size (fun k_ => (P0_0_ k_ ∨ w.heap.size ≤ k_)) v1_ l0_0 ∧ Below w.heap.size w w' := by
  have V0 := Aside0.mk (Kd.V_bound hs0_0)
  have C1 := Aside0.mk hr1_0
  have hc1 := Aside0.mk hc1_0
  clear hs0_0 hr1_0 hc1_0
  obtain ⟨k0, k1, k2, k3, B⟩ := four_new w (.cells #[.slice A0_0 l0_0.length c0_0] 38) (.cells #[.slice A1_0 l1_0.length c1_0] 38) (.cells #[.slice none 0 0] 38) (.cells #[.slice none 0 0] 38)
  have V1 := Aside0.mk (Kd.V_alloc (Kd.V_alloc (Kd.V_alloc (Kd.V_alloc V0.out (.cells #[.slice A0_0 l0_0.length c0_0] 38)) (.cells #[.slice A1_0 l1_0.length c1_0] 38)) (.cells #[.slice none 0 0] 38)) (.cells #[.slice none 0 0] 38))
  have C2 := Aside0.mk (Kd.C_below C1.out B)
  have hzb : ((l1_0.length : Int) == 0) = false := beq_eq_false_iff_ne.2 (by omega)
  replace hc := Aside0.mk hc
  replace hz := Aside0.mk hz
  have hmx : Try.prog.follows .mixedOrders = true := by kernel_rfl
  have hnb : decide (c < 0) = true := decide_eq_true hneg
  go_enter Try.func53, Try.ntmps53
  go_wp2_with (first | (go_at_call 44; refine (nat_Nat_Zero.calls _ _ l1_0 _ _ C2.out hc1.out rfl).mono ?_; rintro e w1 ⟨rfl, hb⟩; replace k0 := (hb.block _ (blk_lt k0)).trans k0; replace k1 := (hb.block _ (blk_lt k1)).trans k1; replace k2 := (hb.block _ (blk_lt k2)).trans k2; replace k3 := (hb.block _ (blk_lt k3)).trans k3; replace V1 := Aside0.mk (Kd.V_below V1.out hb); replace C2 := Aside0.mk (Kd.C_below C2.out hb); replace B := below_step B hb; clear hb; have q0 : World.cell? _ ⟨w.heap.size, 0, none⟩ = some (.slice A0_0 l0_0.length c0_0) := blk_cell k0 0; have q1 : World.cell? _ ⟨w.heap.size + 1, 0, none⟩ = some (.slice A1_0 l1_0.length c1_0) := blk_cell k1 0; have q2 : World.cell? _ ⟨w.heap.size + 1 + 1, 0, none⟩ = some (.slice none 0 0) := blk_cell k2 0; have q3 : World.cell? _ ⟨w.heap.size + 1 + 1 + 1, 0, none⟩ = some (.slice none 0 0) := blk_cell k3 0; have f2 := blk_frozen k2 0; have f3 := blk_frozen k3 0) | (go_at_call 45; refine (nat_Nat_Cmp.calls k _ _ l0_0 _ _ l1_0 c _ (Kd.V_reads' V1.out).2.2 (Kd.V_reads' V1.out).2.1 C2.out hc1.out hc.out).mono ?_; rintro e w2 ⟨rfl, hb⟩; replace k0 := (hb.block _ (blk_lt k0)).trans k0; replace k1 := (hb.block _ (blk_lt k1)).trans k1; replace k2 := (hb.block _ (blk_lt k2)).trans k2; replace k3 := (hb.block _ (blk_lt k3)).trans k3; replace V1 := Aside0.mk (Kd.V_below V1.out hb); replace C2 := Aside0.mk (Kd.C_below C2.out hb); replace B := below_step B hb; clear hb; have q0 : World.cell? _ ⟨w.heap.size, 0, none⟩ = some (.slice A0_0 l0_0.length c0_0) := blk_cell k0 0; have q1 : World.cell? _ ⟨w.heap.size + 1, 0, none⟩ = some (.slice A1_0 l1_0.length c1_0) := blk_cell k1 0; have q2 : World.cell? _ ⟨w.heap.size + 1 + 1, 0, none⟩ = some (.slice none 0 0) := blk_cell k2 0; have q3 : World.cell? _ ⟨w.heap.size + 1 + 1 + 1, 0, none⟩ = some (.slice none 0 0) := blk_cell k3 0; have f2 := blk_frozen k2 0; have f3 := blk_frozen k3 0))
  go_region
  all_goals go_wp2
  obtain ⟨e2, e3, y1, y2⟩ := two_end (w := w) (W := w2) (va := .slice none 0 0) (vb := .slice A0_0 l0_0.length c0_0) k2 k3 B _ rfl
  refine bodyPost_ret (results_list (rs := [.cell 4 38, .cell 5 38, .tmp 6]) rfl (by simp) (.cell _ 38 _ (0, 0) _ rfl e2 Try.underlying38 rfl (by kernel_rfl) (.cell _ 38 _ (0, 0) _ rfl e3 Try.underlying38 rfl (by kernel_rfl) (.tmp .nil)))) rfl ?_
  exact ⟨_, _, rfl, Kd.V_nil _ _ _ _ _, Kd.V_drew (y2 _ _ _ _ _ V1.out (fun k_ hk => ⟨⟨by have := hk.2; omega, by have := hk.2; omega⟩, .inl hk.1⟩)), y1.drew⟩
theorem nat_Nat_Div.calls (k : Nat) (P0_0_ : Nat → Prop) (A0_0 : Option Addr) (c0_0 : Nat) (l0_0 : List Int) (A1_0 : Option Addr) (c1_0 : Nat) (l1_0 : List Int) (r1 : List Int) (r2 : List Int) (r3 : Int) (w : World) (hs0_0 : Kd.V (Kd.int .u32) 23 w w.heap.size (fun k_ => P0_0_ k_) (.slice A0_0 l0_0.length c0_0) l0_0) (hr1_0 : Kd.C (Kd.int .u32) w A1_0 l1_0.length l1_0) (hc1_0 : l1_0.length ≤ c1_0) (h : nat_Nat_Div.f k l0_0 l1_0 = some (r1, r2, r3)) :
    Calls Try.prog 53 #[.agg #[.slice A0_0 l0_0.length c0_0], .agg #[.slice A1_0 l1_0.length c1_0]] w fun e w' => ∃ v0_ v1_ : Value, e = .returned (.tuple #[.agg #[v0_], .agg #[v1_], .int .i64 r3]) ∧ Kd.V (Kd.int .u32) 23 w' w.heap.size (fun k_ => (P0_0_ k_ ∨ w.heap.size ≤ k_)) v0_ r1 ∧ Kd.V (Kd.int .u32) 23 w' w.heap.size (fun k_ => (P0_0_ k_ ∨ w.heap.size ≤ k_)) v1_ r2 ∧ Below w.heap.size w w' := by
  unfold nat_Nat_Div.f at h
  by_cases hg : (canonB l0_0 && canonB l1_0 && decide (l0_0.length ≤ 1048576) && decide (l1_0.length ≤ 1048576)) = true
  · rw [if_pos hg] at h
    simp only [Bool.and_eq_true, decide_eq_true_eq] at hg
    obtain ⟨⟨⟨g0, g1⟩, g2⟩, g3⟩ := hg
    have e0 := canonB_eq g0
    have e1 := canonB_eq g1
    by_cases hB : valW l1_0 = 0
    · rw [if_pos hB] at h
      cases h
      exact nat_Nat_Div.calls_z P0_0_ A0_0 c0_0 l0_0 A1_0 c1_0 l1_0 w hs0_0 hr1_0 hc1_0 ((canonB_nil g1).1 hB)
    · rw [if_neg hB] at h
      cases h
      have hl : ¬ l1_0.length = 0 := fun e => hB ((canonB_nil g1).2 e)
      by_cases hlt : valW l0_0 < valW l1_0
      · have hc : nat_Nat_Cmp.f 0 l0_0 l1_0 = some (cmpN (valW l0_0) (valW l1_0)) := by
          have := Cmp_toW 0 (valW l0_0) (valW l1_0)
          rwa [e0, e1] at this
        have hcal := nat_Nat_Div.calls_l 0 _ P0_0_ A0_0 c0_0 l0_0 A1_0 c1_0 l1_0 w hs0_0 hr1_0 hc1_0 hl hc (cmpN_lt.2 hlt)
        rw [Nat.div_eq_of_lt hlt, Nat.mod_eq_of_lt hlt, toW_zero, e0]
        exact hcal
      · obtain ⟨K, hK⟩ := (g_ev (valW l0_0) (valW l1_0) (by omega) (by rw [e0]; exact g2) (by rw [e1]; exact g3)).rounds
        rw [e0, e1] at hK
        have hz : nat_Nat_Zero.f l1_0 = some false := by
          have := Zero_toW (valW l1_0)
          rw [e1] at this
          rw [this]
          simp [hB]
        have hn : ∀ t, nat_Nat_Cmp.f K l0_0 l1_0 = some t → ¬ t < 0 := by
          intro t ht hneg
          have := Cmp_toW K (valW l0_0) (valW l1_0)
          rw [e0, e1, ht] at this
          cases this
          exact hlt (cmpN_lt.1 hneg)
        have hr0 := Kd.V_reads' hs0_0
        by_cases h1 : (l1_0.length : Int) = 1
        · refine (nat_Nat_Div.calls_o K A0_0 c0_0 l0_0 A1_0 c1_0 l1_0 _ _ _ w hr0.2.2 hr0.2.1 hr1_0 hc1_0 hz hn h1 hK).mono ?_
          rintro e w' ⟨v0, v1, he, hv0, hv1, hb⟩
          exact ⟨v0, v1, he, Kd.V_mono hv0 (fun _ hk => .inr hk), Kd.V_mono hv1 (fun _ hk => .inr hk), hb⟩
        · refine (nat_Nat_Div.calls_k K A0_0 c0_0 l0_0 A1_0 c1_0 l1_0 _ _ _ w hr0.2.2 hr0.2.1 hr1_0 hc1_0 hz hn h1 hK).mono ?_
          rintro e w' ⟨v0, v1, he, hv0, hv1, hb⟩
          exact ⟨v0, v1, he, Kd.V_mono hv0 (fun _ hk => .inr hk), Kd.V_mono hv1 (fun _ hk => .inr hk), hb⟩
  · rw [if_neg hg] at h
    cases h
end Go.Proofs.Yteejcpbngnojkaa.P
end
section
namespace Go.Proofs.Yteejcpbngnojkaa.P
open Go.RowKit Go.Proofs.YteejcpbngnojkaaW.PrintWords Go.Proofs.YteejcpbngnojkaaW.PrintLast Go.Proofs.YteejcpbngnojkaaW.PrintMore
attribute [local go_sem] max2_int min2_int max_two min_two max_three min_three max_four min_four
set_option linter.unusedVariables false
set_option linter.unusedSimpArgs false
def sacristyref01_Small.l0 : Nat → Int → List Bool → Option (List Bool)
 |0,_,_ => none
 |k + 1,x0,x3 => if x0 > 0 then (if x3.length < 140737488355328 then (sacristyref01_Small.l0 k (IntKind.u64.wrap (Int.tdiv x0 2)) (x3 ++ [((Int.tmod x0 2) == 1)])) else (none)) else (some x3)
def sacristyref01_Small.f (k : Nat) (a0 : Int) : Option (List Bool):=sacristyref01_Small.l0 k a0 (([] : List Bool))
theorem sacristyref01_Small.mono_l : ∀ k,(∀ y0 y1,LeO (sacristyref01_Small.l0 k y0 y1) (sacristyref01_Small.l0 (k + 1) y0 y1))
 |0 => fun _ _ r h => by simp [sacristyref01_Small.l0] at h
 |k + 1 => by
  have ih0:=sacristyref01_Small.mono_l k
  ·intro y0 y1
   unfold sacristyref01_Small.l0
   repeat' first
   |(with_reducible exact ih0 _ _)
   |(with_reducible exact LeO.refl _)
   |(with_reducible exact LeO.none _)
   |(with_reducible refine LeO.ite ?_ ?_)
   |(with_reducible refine LeO.bind ?_ (fun _ => ?_))
   |exact ih0 _ _
   |exact LeO.none _
   |refine LeO.ite ?_ ?_
   |refine LeO.bind ?_ (fun _ => ?_)
theorem sacristyref01_Small.mono : ∀ a0 k,LeO (sacristyref01_Small.f k a0) (sacristyref01_Small.f (k + 1) a0):=by
 intro a0 k
 have ih0:=sacristyref01_Small.mono_l k
 unfold sacristyref01_Small.f
 repeat' first
   |(with_reducible exact ih0 _ _)
   |(with_reducible exact LeO.refl _)
   |(with_reducible exact LeO.none _)
   |(with_reducible refine LeO.ite ?_ ?_)
   |(with_reducible refine LeO.bind ?_ (fun _ => ?_))
   |exact ih0 _ _
   |exact LeO.none _
   |refine LeO.ite ?_ ?_
   |refine LeO.bind ?_ (fun _ => ?_)
set_option maxHeartbeats 8000000 in
set_option maxRecDepth 100000 in
theorem sacristyref01_Small.calls (k : Nat) (a0 : Int) (r : List Bool) (w : World) (h : sacristyref01_Small.f k a0 = some r) :
  Calls Try.prog 56 #[.int .u64 a0] w fun e w' => ∃ v0_ : Value,e = .returned (v0_) ∧ Kd.R Kd.bool 4 w' w.heap.size (fun _ => True) v0_ r ∧ Below w.heap.size w w':=by
 have HB:=Aside0.mk (Below.refl w.heap.size w)
 have H : (sacristyref01_Small.l0 k a0 (([] : List Bool))) = some r:=h
 clear h
 obtain ⟨y414,hy414⟩ : ∃ y_ : List Bool,y_ = (([] : List Bool)):=⟨_,rfl⟩
 replace H : (sacristyref01_Small.l0 k a0 y414) = some r:=by first|(rw [hy414];with_reducible exact H)|(have H2_:=(Option.bind_some _ _).symm.trans H;rw [hy414];with_reducible exact H2_)|(have H2_:=(Option.bind_some _ _).symm.trans H;with_reducible exact H2_)|with_reducible exact H|(rw [hy414];exact H)|exact H
 have Ny414:=Aside0.mk hy414
 clear hy414
 have H':=Aside0.mk H
 clear H
 go_enter Try.func56,Try.ntmps56
 go_wp2_with (first|((with_reducible refine gate_dst (N:=4) rfl ?_);refine Kd.R_lit Kd.bool _ 4 ?hg (N:=4) ?hd (xs:=([] : List Bool)) (inner:=[]) (ok:=fun _ => True) (okp:=fun _ => True) ?hr ?hp (fun _ hk => hk) trivial (Below.refl _ _) (Nat.le_refl _) (by simp) ?_;(case hd => rfl);(case hg => rfl);(case hr => first|(go_simp;done)|(go_simp;rfl));(case hp => exact (Reps.none _ _));intro v415 w2 ho3 hb hg_ hnew_;clear hg_ hnew_;(first|rw [← Ny414.out] at ho3|(simp only [Int.reduceToNat] at ho3;rw [← Ny414.out] at ho3));have HO416:=Aside0.mk (Kd.R_lower ho3 (below_size (qS HB)));replace HB:=qs HB hb;clear hb ho3))
 go_loopg [0,3] k (fun kq v0 v3 w' => ∃ (x0_1 : Int) (x3_1 : List Bool),v0 = .int .u64 x0_1 ∧ Aside0 (sacristyref01_Small.l0 kq x0_1 x3_1 = some r) ∧ Aside0 (kq ≤ k) ∧ Aside0 (Kd.R Kd.bool 4 w' w.heap.size (fun _ => True) v3 x3_1) ∧ Aside0 (Below w.heap.size w w'))
 case atStart => exact ⟨(a0),(y414),(by first|rfl|(simp;done)|(simp [*];done)),H',⟨Nat.le_refl _⟩,⟨qRm HO416⟩,⟨qS HB⟩⟩
 case round =>
  clear H'
  try clear p2
  obtain ⟨x0_1,x3_1,rfl,HA,HK1,HO_3,HB⟩:=hrel
  cases gk with
  |zero => exact absurd HA.out (by simp [sacristyref01_Small.l0])
  |succ k1 =>
   have H:=HA.out
   clear HA
   simp only [sacristyref01_Small.l0] at H
   by_cases c4 : x0_1 > 0
   ·rw [if_pos c4] at H
    have c4b0 : decide (0 < x0_1) = true:=decide_eq_true c4
    clear c4
    by_cases c5 : x3_1.length < 140737488355328
    ·rw [if_pos c5] at H
     have LMc5:=Aside0.mk c5
     clear c5
     obtain ⟨y417,hy417⟩ : ∃ y_ : List Bool,y_ = (x3_1 ++ [((Int.tmod x0_1 2) == 1)]):=⟨_,rfl⟩
     replace H : (sacristyref01_Small.l0 k1 (IntKind.u64.wrap (Int.tdiv x0_1 2)) y417) = some r:=by first|(rw [hy417];with_reducible exact H)|(have H2_:=(Option.bind_some _ _).symm.trans H;rw [hy417];with_reducible exact H2_)|(have H2_:=(Option.bind_some _ _).symm.trans H;with_reducible exact H2_)|with_reducible exact H|(rw [hy417];exact H)|exact H
     have Ny417:=Aside0.mk hy417
     clear hy417
     have H':=Aside0.mk H
     clear H
     go_wp2_with (first|((with_reducible refine gate_builtin (b:=.append) (xs:=#[.tmp 7,.tmp 11]) rfl ?_);at_builtin;refine Kd.R_append Kd.bool (w0:=w) w.heap.size rfl (.tmp 7) (.tmp 11) 42 4 (.bool false) 1 rfl Try.underlying42 info4 rfl (by decide) (by omega) u3 x3_1 ((Int.tmod x0_1 2) == 1) [.bool ((Int.tmod x0_1 2) == 1)] (fun _ => True) (fun _ => False) rfl rfl ?aP (fun _ hk => hk.elim) ?aF ?aO ?aB ?aS ?aL ?_;(case aP => exact rfl);(case aB => exact (qS HB));(case aF => exact (fun _ _ => trivial));(case aO => exact (qRm HO_3));(case aS => exact (below_size (qS HB)));(case aL => have:=LMc5.out;omega);intro v418 w6 ho hb hg hat;rw [← Ny417.out] at ho;replace HB:=Aside0.mk (hb);have HO419:=Aside0.mk (ho);(try clear HO_3);clear ho hb hg hat))
     go_roundg k1
     case measure => have:=HK1.out;omega
     case rel => exact ⟨(IntKind.u64.wrap (Int.tdiv x0_1 2)),(y417),(by first|rfl|(simp;done)|(simp [*];done)),H',⟨by have:=HK1.out;omega⟩,⟨qRm HO419⟩,⟨qS HB⟩⟩
    ·rw [if_neg c5] at H
     exact absurd H (by simp)
   ·rw [if_neg c4] at H
    have c4b0 : decide (0 < x0_1) = false:=decide_eq_false c4
    clear c4
    obtain rfl:=Option.some.inj H
    go_wp2
    (first|go_ret|(refine ⟨_,results_tmp rfl _ _ _,?_⟩))
    exact ⟨_,by first|rfl|(simp [errW_none,errW_some] <;> rfl)|(simp [*,errW_none,errW_some] <;> rfl),qRm HO_3,qS HB⟩
end Go.Proofs.Yteejcpbngnojkaa.P
end
section
namespace Go.Proofs.Yteejcpbngnojkaa.P
open Go.RowKit Go.Proofs.YteejcpbngnojkaaW.PrintWords Go.Proofs.YteejcpbngnojkaaW.PrintLast Go.Proofs.YteejcpbngnojkaaW.PrintMore
attribute [local go_sem] max2_int min2_int max_two min_two max_three min_three max_four min_four
set_option linter.unusedVariables false
set_option linter.unusedSimpArgs false
def sacristylaw01_lives.f (k : Nat)  : Option (Bool):=(nat_New.f k 7).bind fun t420 => ((nat_New.f k 2).bind fun t423 => ((nat_Nat_Div.f k t420 t423).bind fun bt426 => (if bt426.2.2 = 0 then ((sacristyref01_Small.f k 3).bind fun t435 => ((sacristylaw01_Same.f k bt426.1 t435).bind fun t438 => (if t438 = true then ((sacristyref01_Small.f k 1).bind fun t439 => ((sacristylaw01_Same.f k bt426.2.1 t439).bind fun t442 => (some t442))) else (some false)))) else (some false))))
theorem sacristylaw01_lives.mono : ∀ k,LeO (sacristylaw01_lives.f k ) (sacristylaw01_lives.f (k + 1) ):=by
 intro  k
 unfold sacristylaw01_lives.f
 repeat' first
   |(with_reducible exact nat_Nat_Div.mono _ _ _)
   |(with_reducible exact nat_New.mono _ _)
   |(with_reducible exact sacristylaw01_Same.mono _ _ _)
   |(with_reducible exact sacristyref01_Small.mono _ _)
   |(with_reducible exact LeO.refl _)
   |(with_reducible exact LeO.none _)
   |(with_reducible refine LeO.ite ?_ ?_)
   |(with_reducible refine LeO.bind ?_ (fun _ => ?_))
   |exact nat_Nat_Div.mono _ _ _
   |exact nat_New.mono _ _
   |exact sacristylaw01_Same.mono _ _ _
   |exact sacristyref01_Small.mono _ _
   |exact LeO.none _
   |refine LeO.ite ?_ ?_
   |refine LeO.bind ?_ (fun _ => ?_)
def sacristylaw01_lives.T2 : Bool × List (List Nat × List Nat):=(true,[([],[]),([0],[0]),([1],[1]),([2],[2]),([2,2],[2]),([3,4,4,2],[2,3,4]),([2,5],[2,5]),([6,5],[6]),([7],[7]),([7,7],[7]),([8,9,9,7],[7,8,9]),([7,10],[7,10]),([11,10,0,1,2,3,4,5,6,7,8,9,10,11],[11])])
def sacristylaw01_lives.B2 : List Nat:=[0,1,3,7,7,31,63,127,255,255,1023,2047,4095]
theorem sacristylaw01_lives.tab2 : rtab .any (opsOf Try.f34 2) = sacristylaw01_lives.T2:=by kernel_rfl
theorem sacristylaw01_lives.bits2 : waitsOk sacristylaw01_lives.T2.2 sacristylaw01_lives.B2 = true:=by kernel_rfl
set_option maxHeartbeats 8000000 in
set_option maxRecDepth 100000 in
theorem sacristylaw01_lives.calls (k : Nat)  (r : Bool) (w : World) (h : sacristylaw01_lives.f k  = some r) :
  Calls Try.prog 34 #[] w fun e w' => e = .returned (.bool r) ∧ Below w.heap.size w w':=by
 have hu38:=Try.underlying38
 have HB:=Aside0.mk (Below.refl w.heap.size w)
 have H : ((nat_New.f k 7).bind fun t420 => ((nat_New.f k 2).bind fun t423 => ((nat_Nat_Div.f k t420 t423).bind fun bt426 => (if bt426.2.2 = 0 then ((sacristyref01_Small.f k 3).bind fun t435 => ((sacristylaw01_Same.f k bt426.1 t435).bind fun t438 => (if t438 = true then ((sacristyref01_Small.f k 1).bind fun t439 => ((sacristylaw01_Same.f k bt426.2.1 t439).bind fun t442 => (some t442))) else (some false)))) else (some false))))) = some r:=h
 clear h
 obtain ⟨t420,A1,H⟩:=qH H
 obtain ⟨t423,A2,H⟩:=qH H
 obtain ⟨⟨t426,t429,t432⟩,A3,H⟩:=qH H
 dsimp only at H
 by_cases c4 : t432 = 0
 ·rw [if_pos c4] at H
  have c4b0 : (t432 == 0) = true:=beq_iff_eq.mpr c4
  have c4b1 : (t432 != 0) = false:=bne_eq_false_iff_eq.mpr c4
  clear c4
  obtain ⟨t435,A5,H⟩:=qH H
  obtain ⟨t438,A6,H⟩:=qH H
  by_cases c7 : t438 = true
  ·subst c7
   rw [if_pos rfl] at H
   obtain ⟨t439,A8,H⟩:=qH H
   obtain ⟨t442,A9,H⟩:=qH H
   obtain rfl:=Option.some.inj H
   go_enter Try.func34,Try.ntmps34
   try go_wp2_with (first|((with_reducible refine gate_callee (f:=54) rfl ?_);refine gL (some 5) Try.func54 #[.int .u64 7] ?_;(with_reducible refine (nat_New.calls k 7 t420 _ A1.out).mono ?_);rintro e w10 ⟨v421,rfl,ho0,hb⟩;refine ⟨_,rfl,?_⟩;have HO422:=Aside0.mk (Kd.V_lower (Kd.V_mono (ok':=fun k_ => True) ho0 (fun k_ hk_ => trivial)) (below_size (qS HB)));replace HB:=qs HB hb;clear hb ho0)|((with_reducible refine gate_callee (f:=54) rfl ?_);refine gL (some 6) Try.func54 #[.int .u64 2] ?_;(with_reducible refine (nat_New.calls k 2 t423 _ A2.out).mono ?_);rintro e w11 ⟨v424,rfl,ho0,hb⟩;refine ⟨_,rfl,?_⟩;replace HO422:=qVb HO422 hb;have HO425:=Aside0.mk (Kd.V_lower (Kd.V_mono (ok':=fun k_ => True) ho0 (fun k_ hk_ => trivial)) (below_size (qS HB)));replace HB:=qs HB hb;clear hb ho0;obtain ⟨Ao12,co12,eo12⟩:=Kd.V_slice HO422.out;subst eo12;obtain ⟨Ao13,co13,eo13⟩:=Kd.V_slice HO425.out;subst eo13)|((with_reducible refine gate_callee (f:=53) rfl ?_);refine gL (some 7) Try.func53 #[.agg #[.slice Ao12 t420.length co12],.agg #[.slice Ao13 t423.length co13]] ?_;(with_reducible refine (nat_Nat_Div.calls k (fun k_ => True) _ _ t420 _ _ t423 t426 t429 t432 _ ?side1 ?side2 ?side3 A3.out).mono ?_);(case side1 => first|exact HO422.out|exact qVm HO422);(case side2 => exact qCV HO425);(case side3 => exact qL HO425);rintro e w14 ⟨v427,v430,rfl,ho0,ho1,hb⟩;refine ⟨_,rfl,?_⟩;replace HO422:=qVb HO422 hb;replace HO425:=qVb HO425 hb;have HO428:=Aside0.mk (Kd.V_lower (Kd.V_mono (ok':=fun k_ => True) ho0 (fun k_ hk_ => trivial)) (below_size (qS HB)));have HO431:=Aside0.mk (Kd.V_lower (Kd.V_mono (ok':=fun k_ => True) ho1 (fun k_ hk_ => trivial)) (below_size (qS HB)));replace HB:=qs HB hb;clear hb ho0 ho1)|((with_reducible refine gate_dst (N:=1) rfl ?_);refine qX #[.slice none 0 0] 38 ?_;intro gb433 hg w15 hbox hb;replace HO422:=qVe HO422 hb hg;replace HO425:=qVe HO425 hb hg;replace HO428:=qVe HO428 hb hg;replace HO431:=qVe HO431 hb hg;have BK433:=Aside0.mk hbox;have GE433:=qh hg HB;replace HB:=qs HB hb;clear hb hbox hg)|((with_reducible refine gate_dst (N:=2) rfl ?_);refine qX #[.slice none 0 0] 38 ?_;intro gb434 hg w16 hbox hb;replace HO422:=qVe HO422 hb hg;replace HO425:=qVe HO425 hb hg;replace HO428:=qVe HO428 hb hg;replace HO431:=qVe HO431 hb hg;have BK434:=Aside0.mk hbox;have GE434:=qh hg HB;replace HB:=qs HB hb;have NB433_434:=ql hg BK433;have NB434_433:=qg hg BK433;replace BK433:=qb BK433 hb;clear hb hbox hg;obtain ⟨Ao17,co17,eo17⟩:=Kd.V_slice HO428.out;subst eo17;have hnb18:=NB433_434.out;have hnc18:=NB434_433.out;have hcz19_0:=bc BK433;have hfz19_0:=bz BK433;obtain ⟨Ao20,co20,eo20⟩:=Kd.V_slice HO431.out;subst eo20;have hcz21_0:=bc BK434;have hfz21_0:=bz BK434))
   generalize hw : ((w16.setCell ⟨gb433,0,none⟩ (.slice Ao17 t426.length co17)).setCell ⟨gb434,0,none⟩ (.slice Ao20 t429.length co20)) = w22
   replace hw:=hw.symm
   replace HO422:=qVh hw HO422
   replace HO425:=qVh hw HO425
   replace HO428:=qVh hw HO428
   replace HO431:=qVh hw HO431
   replace BK433:=qBp hw BK433
   replace BK434:=qBp hw BK434
   replace HB:=qSh hw HB
   clear hw
   replace HO422:=qVw HO422
   replace HO425:=qVw HO425
   replace HO428:=qVw HO428
   replace HO431:=qVw HO431
   replace BK433:=qbd BK433
   replace BK434:=qbd BK434
   replace HB:=qsd HB
   refine start_ (n:=13) (S:=fun w' => w'.cell? ⟨gb433,0,none⟩ = some (.slice Ao17 t426.length co17) ∧ w'.cell? ⟨gb434,0,none⟩ = some (.slice Ao20 t429.length co20)) (ds:=[]) #[false,false,false,false,false,false,false,false,false,false,false,false,false] (by kernel_rfl) rfl rfl ⟨bc BK433,bc BK434⟩ (fun hHeld => ?_);refine with_tabW sacristylaw01_lives.tab2 sacristylaw01_lives.bits2 (fun HT_ HW_ => ?_)
   generalize w22.drew = w23 at HO422 HO425 HO428 HO431 BK433 BK434 HB hHeld ⊢
   refine qP 0 11 HT_ ?_
   refine qP 1 12 HT_ ?_
   refine qP 2 13 HT_ ?_
   refine qT 3 14 HT_ HW_ hHeld ?_
   refine q1 4 (some 15) HT_ rfl (fun K hK => ?_)
   refine g_ Try.func56 #[.int .u64 3] ?_
   with_reducible refine (sacristyref01_Small.calls k 3 t435 _ A5.out).mono ?_
   rintro e w24 ⟨v436,rfl,ho0,hb⟩
   refine ⟨_,rfl,?_⟩
   replace HO422:=qVd HO422 ho0 hb
   replace HO425:=qVd HO425 ho0 hb
   replace HO428:=qVd HO428 ho0 hb
   replace HO431:=qVd HO431 ho0 hb
   have HO437:=Aside0.mk (Kd.R_lower ho0 (below_size (qS HB)))
   replace BK433:=qb BK433 hb
   replace BK434:=qb BK434 hb
   replace HB:=qs HB hb
   clear hb ho0
   obtain ⟨Ao25,co25,eo25⟩:=Kd.R_slice HO437.out
   (first|subst eo25|(injection eo25 with f1_ f2_ f3_;have f4_:=f1_.symm;have f5_:=f3_.symm;clear f1_ f2_ f3_;subst f4_;subst f5_))
   refine hK.out _ _ ⟨bc BK433,bc BK434⟩ (fun hHeld => ?_)
   clear hK K
   refine qO 15 ?_
   refine q1 5 (some 16) HT_ rfl (fun K hK => ?_)
   refine g_ Try.func37 #[.agg #[.slice Ao17 t426.length co17],.slice Ao25 t435.length co25] ?_
   with_reducible refine (sacristylaw01_Same.calls k _ _ t426 _ _ t435 true _ ?side1 ?side2 ?side3 ?side4 A6.out).mono ?_
   (case side1 => exact qCV HO428)
   (case side2 => exact qL HO428)
   (case side3 => exact qCR HO437)
   (case side4 => exact qLR HO437)
   rintro e w26 ⟨rfl,hb⟩
   refine ⟨_,rfl,?_⟩
   replace HO422:=qVb HO422 hb
   replace HO425:=qVb HO425 hb
   replace HO428:=qVb HO428 hb
   replace HO431:=qVb HO431 hb
   replace HO437:=qRb HO437 hb
   replace BK433:=qb BK433 hb
   replace BK434:=qb BK434 hb
   replace HB:=qs HB hb
   clear hb
   refine hK.out _ _ ⟨bc BK433,bc BK434⟩ (fun hHeld => ?_)
   clear hK K
   refine qO 16 ?_
   refine qP 6 17 HT_ ?_
   refine qP 7 18 HT_ ?_
   refine qT 8 19 HT_ HW_ hHeld ?_
   refine q1 9 (some 20) HT_ rfl (fun K hK => ?_)
   refine g_ Try.func56 #[.int .u64 1] ?_
   with_reducible refine (sacristyref01_Small.calls k 1 t439 _ A8.out).mono ?_
   rintro e w27 ⟨v440,rfl,ho0,hb⟩
   refine ⟨_,rfl,?_⟩
   replace HO422:=qVd HO422 ho0 hb
   replace HO425:=qVd HO425 ho0 hb
   replace HO428:=qVd HO428 ho0 hb
   replace HO431:=qVd HO431 ho0 hb
   have HO441:=Aside0.mk (Kd.R_lower (Kd.R_new' ho0 (Kd.R_lt (qRm HO437))) (below_size (qS HB)))
   replace HO437:=qRd HO437 ho0 hb
   replace BK433:=qb BK433 hb
   replace BK434:=qb BK434 hb
   replace HB:=qs HB hb
   clear hb ho0
   obtain ⟨Ao28,co28,eo28⟩:=Kd.R_slice HO441.out
   (first|subst eo28|(injection eo28 with f1_ f2_ f3_;have f4_:=f1_.symm;have f5_:=f3_.symm;clear f1_ f2_ f3_;subst f4_;subst f5_))
   refine hK.out _ _ ⟨bc BK433,bc BK434⟩ (fun hHeld => ?_)
   clear hK K
   refine qO 20 ?_
   refine q1 10 (some 21) HT_ rfl (fun K hK => ?_)
   refine g_ Try.func37 #[.agg #[.slice Ao20 t429.length co20],.slice Ao28 t439.length co28] ?_
   with_reducible refine (sacristylaw01_Same.calls k _ _ t429 _ _ t439 t442 _ ?side1 ?side2 ?side3 ?side4 A9.out).mono ?_
   (case side1 => exact qCV HO431)
   (case side2 => exact qL HO431)
   (case side3 => exact qCR HO441)
   (case side4 => exact qLR HO441)
   rintro e w29 ⟨rfl,hb⟩
   refine ⟨_,rfl,?_⟩
   replace HO422:=qVb HO422 hb
   replace HO425:=qVb HO425 hb
   replace HO428:=qVb HO428 hb
   replace HO431:=qVb HO431 hb
   replace HO437:=qRb HO437 hb
   replace HO441:=qRb HO441 hb
   replace BK433:=qb BK433 hb
   replace BK434:=qb BK434 hb
   replace HB:=qs HB hb
   clear hb
   refine hK.out _ _ ⟨bc BK433,bc BK434⟩ (fun hHeld => ?_)
   clear hK K
   refine qO 21 ?_
   refine qP 11 22 HT_ ?_
   refine qP 12 0 HT_ ?_
   refine qD HT_ ?_
   try go_wp2
   (first|go_ret|(refine ⟨_,results_tmp rfl _ _ _,?_⟩))
   exact ⟨by first|rfl|(simp [errW_none,errW_some] <;> rfl)|(simp [*,errW_none,errW_some] <;> rfl),qS HB⟩
  ·replace c7:=Bool.eq_false_iff.mpr c7
   subst c7
   rw [qFT] at H
   obtain rfl:=Option.some.inj H
   go_enter Try.func34,Try.ntmps34
   try go_wp2_with (first|((with_reducible refine gate_callee (f:=54) rfl ?_);refine gL (some 5) Try.func54 #[.int .u64 7] ?_;(with_reducible refine (nat_New.calls k 7 t420 _ A1.out).mono ?_);rintro e w30 ⟨v421,rfl,ho0,hb⟩;refine ⟨_,rfl,?_⟩;have HO422:=Aside0.mk (Kd.V_lower (Kd.V_mono (ok':=fun k_ => True) ho0 (fun k_ hk_ => trivial)) (below_size (qS HB)));replace HB:=qs HB hb;clear hb ho0)|((with_reducible refine gate_callee (f:=54) rfl ?_);refine gL (some 6) Try.func54 #[.int .u64 2] ?_;(with_reducible refine (nat_New.calls k 2 t423 _ A2.out).mono ?_);rintro e w31 ⟨v424,rfl,ho0,hb⟩;refine ⟨_,rfl,?_⟩;replace HO422:=qVb HO422 hb;have HO425:=Aside0.mk (Kd.V_lower (Kd.V_mono (ok':=fun k_ => True) ho0 (fun k_ hk_ => trivial)) (below_size (qS HB)));replace HB:=qs HB hb;clear hb ho0;obtain ⟨Ao32,co32,eo32⟩:=Kd.V_slice HO422.out;subst eo32;obtain ⟨Ao33,co33,eo33⟩:=Kd.V_slice HO425.out;subst eo33)|((with_reducible refine gate_callee (f:=53) rfl ?_);refine gL (some 7) Try.func53 #[.agg #[.slice Ao32 t420.length co32],.agg #[.slice Ao33 t423.length co33]] ?_;(with_reducible refine (nat_Nat_Div.calls k (fun k_ => True) _ _ t420 _ _ t423 t426 t429 t432 _ ?side1 ?side2 ?side3 A3.out).mono ?_);(case side1 => first|exact HO422.out|exact qVm HO422);(case side2 => exact qCV HO425);(case side3 => exact qL HO425);rintro e w34 ⟨v427,v430,rfl,ho0,ho1,hb⟩;refine ⟨_,rfl,?_⟩;replace HO422:=qVb HO422 hb;replace HO425:=qVb HO425 hb;have HO428:=Aside0.mk (Kd.V_lower (Kd.V_mono (ok':=fun k_ => True) ho0 (fun k_ hk_ => trivial)) (below_size (qS HB)));have HO431:=Aside0.mk (Kd.V_lower (Kd.V_mono (ok':=fun k_ => True) ho1 (fun k_ hk_ => trivial)) (below_size (qS HB)));replace HB:=qs HB hb;clear hb ho0 ho1)|((with_reducible refine gate_dst (N:=1) rfl ?_);refine qX #[.slice none 0 0] 38 ?_;intro gb433 hg w35 hbox hb;replace HO422:=qVe HO422 hb hg;replace HO425:=qVe HO425 hb hg;replace HO428:=qVe HO428 hb hg;replace HO431:=qVe HO431 hb hg;have BK433:=Aside0.mk hbox;have GE433:=qh hg HB;replace HB:=qs HB hb;clear hb hbox hg)|((with_reducible refine gate_dst (N:=2) rfl ?_);refine qX #[.slice none 0 0] 38 ?_;intro gb434 hg w36 hbox hb;replace HO422:=qVe HO422 hb hg;replace HO425:=qVe HO425 hb hg;replace HO428:=qVe HO428 hb hg;replace HO431:=qVe HO431 hb hg;have BK434:=Aside0.mk hbox;have GE434:=qh hg HB;replace HB:=qs HB hb;have NB433_434:=ql hg BK433;have NB434_433:=qg hg BK433;replace BK433:=qb BK433 hb;clear hb hbox hg;obtain ⟨Ao37,co37,eo37⟩:=Kd.V_slice HO428.out;subst eo37;have hnb38:=NB433_434.out;have hnc38:=NB434_433.out;have hcz39_0:=bc BK433;have hfz39_0:=bz BK433;obtain ⟨Ao40,co40,eo40⟩:=Kd.V_slice HO431.out;subst eo40;have hcz41_0:=bc BK434;have hfz41_0:=bz BK434))
   generalize hw : ((w36.setCell ⟨gb433,0,none⟩ (.slice Ao37 t426.length co37)).setCell ⟨gb434,0,none⟩ (.slice Ao40 t429.length co40)) = w42
   replace hw:=hw.symm
   replace HO422:=qVh hw HO422
   replace HO425:=qVh hw HO425
   replace HO428:=qVh hw HO428
   replace HO431:=qVh hw HO431
   replace BK433:=qBp hw BK433
   replace BK434:=qBp hw BK434
   replace HB:=qSh hw HB
   clear hw
   replace HO422:=qVw HO422
   replace HO425:=qVw HO425
   replace HO428:=qVw HO428
   replace HO431:=qVw HO431
   replace BK433:=qbd BK433
   replace BK434:=qbd BK434
   replace HB:=qsd HB
   refine start_ (n:=13) (S:=fun w' => w'.cell? ⟨gb433,0,none⟩ = some (.slice Ao37 t426.length co37)) (ds:=[]) #[false,false,false,false,false,false,false,false,false,false,false,false,false] (by kernel_rfl) rfl rfl (bc BK433) (fun hHeld => ?_);refine with_tabW sacristylaw01_lives.tab2 sacristylaw01_lives.bits2 (fun HT_ HW_ => ?_)
   generalize w42.drew = w43 at HO422 HO425 HO428 HO431 BK433 BK434 HB hHeld ⊢
   refine qP 0 11 HT_ ?_
   refine qP 1 12 HT_ ?_
   refine qP 2 13 HT_ ?_
   refine qT 3 14 HT_ HW_ hHeld ?_
   refine q1 4 (some 15) HT_ rfl (fun K hK => ?_)
   refine g_ Try.func56 #[.int .u64 3] ?_
   with_reducible refine (sacristyref01_Small.calls k 3 t435 _ A5.out).mono ?_
   rintro e w44 ⟨v436,rfl,ho0,hb⟩
   refine ⟨_,rfl,?_⟩
   replace HO422:=qVd HO422 ho0 hb
   replace HO425:=qVd HO425 ho0 hb
   replace HO428:=qVd HO428 ho0 hb
   replace HO431:=qVd HO431 ho0 hb
   have HO437:=Aside0.mk (Kd.R_lower ho0 (below_size (qS HB)))
   replace BK433:=qb BK433 hb
   replace BK434:=qb BK434 hb
   replace HB:=qs HB hb
   clear hb ho0
   obtain ⟨Ao45,co45,eo45⟩:=Kd.R_slice HO437.out
   (first|subst eo45|(injection eo45 with f1_ f2_ f3_;have f4_:=f1_.symm;have f5_:=f3_.symm;clear f1_ f2_ f3_;subst f4_;subst f5_))
   refine hK.out _ _ (bc BK433) (fun hHeld => ?_)
   clear hK K
   refine qO 15 ?_
   refine q1 5 (some 16) HT_ rfl (fun K hK => ?_)
   refine g_ Try.func37 #[.agg #[.slice Ao37 t426.length co37],.slice Ao45 t435.length co45] ?_
   with_reducible refine (sacristylaw01_Same.calls k _ _ t426 _ _ t435 false _ ?side1 ?side2 ?side3 ?side4 A6.out).mono ?_
   (case side1 => exact qCV HO428)
   (case side2 => exact qL HO428)
   (case side3 => exact qCR HO437)
   (case side4 => exact qLR HO437)
   rintro e w46 ⟨rfl,hb⟩
   refine ⟨_,rfl,?_⟩
   replace HO422:=qVb HO422 hb
   replace HO425:=qVb HO425 hb
   replace HO428:=qVb HO428 hb
   replace HO431:=qVb HO431 hb
   replace HO437:=qRb HO437 hb
   replace BK433:=qb BK433 hb
   replace BK434:=qb BK434 hb
   replace HB:=qs HB hb
   clear hb
   refine hK.out _ _ (bc BK433) (fun hHeld => ?_)
   clear hK K
   refine qO 16 ?_
   refine qP 6 17 HT_ ?_
   refine qP 7 18 HT_ ?_
   refine qU 8 19 HT_ ?_
   refine qU 9 20 HT_ ?_
   refine qU 10 21 HT_ ?_
   refine qP 11 22 HT_ ?_
   refine qP 12 0 HT_ ?_
   refine qD HT_ ?_
   try go_wp2
   (first|go_ret|(refine ⟨_,results_tmp rfl _ _ _,?_⟩))
   exact ⟨by first|rfl|(simp [errW_none,errW_some] <;> rfl)|(simp [*,errW_none,errW_some] <;> rfl),qS HB⟩
 ·rw [if_neg c4] at H
  have c4b0 : (t432 == 0) = false:=beq_eq_false_iff_ne.mpr c4
  have c4b1 : (t432 != 0) = true:=bne_iff_ne.mpr c4
  obtain rfl:=Option.some.inj H
  go_enter Try.func34,Try.ntmps34
  try go_wp2_with (first|((with_reducible refine gate_callee (f:=54) rfl ?_);refine gL (some 5) Try.func54 #[.int .u64 7] ?_;(with_reducible refine (nat_New.calls k 7 t420 _ A1.out).mono ?_);rintro e w47 ⟨v421,rfl,ho0,hb⟩;refine ⟨_,rfl,?_⟩;have HO422:=Aside0.mk (Kd.V_lower (Kd.V_mono (ok':=fun k_ => True) ho0 (fun k_ hk_ => trivial)) (below_size (qS HB)));replace HB:=qs HB hb;clear hb ho0)|((with_reducible refine gate_callee (f:=54) rfl ?_);refine gL (some 6) Try.func54 #[.int .u64 2] ?_;(with_reducible refine (nat_New.calls k 2 t423 _ A2.out).mono ?_);rintro e w48 ⟨v424,rfl,ho0,hb⟩;refine ⟨_,rfl,?_⟩;replace HO422:=qVb HO422 hb;have HO425:=Aside0.mk (Kd.V_lower (Kd.V_mono (ok':=fun k_ => True) ho0 (fun k_ hk_ => trivial)) (below_size (qS HB)));replace HB:=qs HB hb;clear hb ho0;obtain ⟨Ao49,co49,eo49⟩:=Kd.V_slice HO422.out;subst eo49;obtain ⟨Ao50,co50,eo50⟩:=Kd.V_slice HO425.out;subst eo50)|((with_reducible refine gate_callee (f:=53) rfl ?_);refine gL (some 7) Try.func53 #[.agg #[.slice Ao49 t420.length co49],.agg #[.slice Ao50 t423.length co50]] ?_;(with_reducible refine (nat_Nat_Div.calls k (fun k_ => True) _ _ t420 _ _ t423 t426 t429 t432 _ ?side1 ?side2 ?side3 A3.out).mono ?_);(case side1 => first|exact HO422.out|exact qVm HO422);(case side2 => exact qCV HO425);(case side3 => exact qL HO425);rintro e w51 ⟨v427,v430,rfl,ho0,ho1,hb⟩;refine ⟨_,rfl,?_⟩;replace HO422:=qVb HO422 hb;replace HO425:=qVb HO425 hb;have HO428:=Aside0.mk (Kd.V_lower (Kd.V_mono (ok':=fun k_ => True) ho0 (fun k_ hk_ => trivial)) (below_size (qS HB)));have HO431:=Aside0.mk (Kd.V_lower (Kd.V_mono (ok':=fun k_ => True) ho1 (fun k_ hk_ => trivial)) (below_size (qS HB)));replace HB:=qs HB hb;clear hb ho0 ho1)|((with_reducible refine gate_dst (N:=1) rfl ?_);refine qX #[.slice none 0 0] 38 ?_;intro gb433 hg w52 hbox hb;replace HO422:=qVe HO422 hb hg;replace HO425:=qVe HO425 hb hg;replace HO428:=qVe HO428 hb hg;replace HO431:=qVe HO431 hb hg;have BK433:=Aside0.mk hbox;have GE433:=qh hg HB;replace HB:=qs HB hb;clear hb hbox hg)|((with_reducible refine gate_dst (N:=2) rfl ?_);refine qX #[.slice none 0 0] 38 ?_;intro gb434 hg w53 hbox hb;replace HO422:=qVe HO422 hb hg;replace HO425:=qVe HO425 hb hg;replace HO428:=qVe HO428 hb hg;replace HO431:=qVe HO431 hb hg;have BK434:=Aside0.mk hbox;have GE434:=qh hg HB;replace HB:=qs HB hb;have NB433_434:=ql hg BK433;have NB434_433:=qg hg BK433;replace BK433:=qb BK433 hb;clear hb hbox hg;obtain ⟨Ao54,co54,eo54⟩:=Kd.V_slice HO428.out;subst eo54;have hnb55:=NB433_434.out;have hnc55:=NB434_433.out;have hcz56_0:=bc BK433;have hfz56_0:=bz BK433;obtain ⟨Ao57,co57,eo57⟩:=Kd.V_slice HO431.out;subst eo57;have hcz58_0:=bc BK434;have hfz58_0:=bz BK434))
  generalize hw : ((w53.setCell ⟨gb433,0,none⟩ (.slice Ao54 t426.length co54)).setCell ⟨gb434,0,none⟩ (.slice Ao57 t429.length co57)) = w59
  replace hw:=hw.symm
  replace HO422:=qVh hw HO422
  replace HO425:=qVh hw HO425
  replace HO428:=qVh hw HO428
  replace HO431:=qVh hw HO431
  replace BK433:=qBp hw BK433
  replace BK434:=qBp hw BK434
  replace HB:=qSh hw HB
  clear hw
  replace HO422:=qVw HO422
  replace HO425:=qVw HO425
  replace HO428:=qVw HO428
  replace HO431:=qVw HO431
  replace BK433:=qbd BK433
  replace BK434:=qbd BK434
  replace HB:=qsd HB
  refine start_ (n:=13) (S:=fun w' => True) (ds:=[]) #[false,false,false,false,false,false,false,false,false,false,false,false,false] (by kernel_rfl) rfl rfl trivial (fun hHeld => ?_);refine with_tabW sacristylaw01_lives.tab2 sacristylaw01_lives.bits2 (fun HT_ HW_ => ?_)
  generalize w59.drew = w60 at HO422 HO425 HO428 HO431 BK433 BK434 HB hHeld ⊢
  refine qP 0 11 HT_ ?_
  refine qP 1 12 HT_ ?_
  refine qP 2 13 HT_ ?_
  refine qU 3 14 HT_ ?_
  refine qU 4 15 HT_ ?_
  refine qU 5 16 HT_ ?_
  refine qP 6 17 HT_ ?_
  refine qP 7 18 HT_ ?_
  refine qU 8 19 HT_ ?_
  refine qU 9 20 HT_ ?_
  refine qU 10 21 HT_ ?_
  refine qP 11 22 HT_ ?_
  refine qP 12 0 HT_ ?_
  refine qD HT_ ?_
  try go_wp2
  (first|go_ret|(refine ⟨_,results_tmp rfl _ _ _,?_⟩))
  exact ⟨by first|rfl|(simp [errW_none,errW_some] <;> rfl)|(simp [*,errW_none,errW_some] <;> rfl),qS HB⟩
end Go.Proofs.Yteejcpbngnojkaa.P
end
section
namespace Go.Proofs.Yteejcpbngnojkaa.P
open Go.RowKit Go.Proofs.YteejcpbngnojkaaW.PrintWords Go.Proofs.YteejcpbngnojkaaW.PrintLast Go.Proofs.YteejcpbngnojkaaW.PrintMore
attribute [local go_sem] max2_int min2_int max_two min_two max_three min_three max_four min_four
set_option linter.unusedVariables false
set_option linter.unusedSimpArgs false
def nat_FromBytes.l0 : Nat → List Int → List Int → Int → Int → Option (List Int × Int)
 |0,_,_,_,_ => none
 |k + 1,x0,x4,x17,x18 => if x18 < x17 then (if 0 ≤ (wrap64 ((wrap64 ((x0.length : Int) - 1)) - x18)) then (if (wrap64 ((wrap64 ((x0.length : Int) - 1)) - x18)) < (x0.length : Int) then (if 0 ≤ (wrap64 (Int.tdiv x18 4)) then (if (wrap64 (Int.tdiv x18 4)) < (x4.length : Int) then (if 0 ≤ (wrap64 (8 * (Int.tmod x18 4))) then (nat_FromBytes.l0 k x0 (x4.set ((wrap64 (Int.tdiv x18 4)) : Int).toNat (Go.bits .or .u32 (rd x4 (wrap64 (Int.tdiv x18 4))) (shl .u32 ((rd x0 (wrap64 ((wrap64 ((x0.length : Int) - 1)) - x18))) % 4294967296) (wrap64 (8 * (Int.tmod x18 4)))))) x17 (wrap64 (x18 + 1))) else (none)) else (none)) else (none)) else (none)) else (none)) else ((nat_trim.f k x4).bind fun t450 => (some (t450,0)))
def nat_FromBytes.f (k : Nat) (l0 : List Int) : Option (List Int × Int):=if (l0.length : Int) > 128 then (some (([] : List Int),4)) else (if 0 ≤ (wrap64 (Int.tdiv (wrap64 ((l0.length : Int) + 3)) 4)) then (if (wrap64 (Int.tdiv (wrap64 ((l0.length : Int) + 3)) 4) : Int).toNat ≤ 70368744177664 then (nat_FromBytes.l0 k l0 (List.replicate (wrap64 (Int.tdiv (wrap64 ((l0.length : Int) + 3)) 4) : Int).toNat 0) (l0.length : Int) 0) else (none)) else (none))
theorem nat_FromBytes.mono_l : ∀ k,(∀ y0 y1 y2 y3,LeO (nat_FromBytes.l0 k y0 y1 y2 y3) (nat_FromBytes.l0 (k + 1) y0 y1 y2 y3))
 |0 => fun _ _ _ _ r h => by simp [nat_FromBytes.l0] at h
 |k + 1 => by
  have ih0:=nat_FromBytes.mono_l k
  ·intro y0 y1 y2 y3
   unfold nat_FromBytes.l0
   repeat' first
   |(with_reducible exact ih0 _ _ _ _)
   |(with_reducible exact nat_trim.mono _ _)
   |(with_reducible exact LeO.refl _)
   |(with_reducible exact LeO.none _)
   |(with_reducible refine LeO.ite ?_ ?_)
   |(with_reducible refine LeO.bind ?_ (fun _ => ?_))
   |exact ih0 _ _ _ _
   |exact nat_trim.mono _ _
   |exact LeO.none _
   |refine LeO.ite ?_ ?_
   |refine LeO.bind ?_ (fun _ => ?_)
theorem nat_FromBytes.mono : ∀ a0 k,LeO (nat_FromBytes.f k a0) (nat_FromBytes.f (k + 1) a0):=by
 intro a0 k
 have ih0:=nat_FromBytes.mono_l k
 unfold nat_FromBytes.f
 repeat' first
   |(with_reducible exact ih0 _ _ _ _)
   |(with_reducible exact nat_trim.mono _ _)
   |(with_reducible exact LeO.refl _)
   |(with_reducible exact LeO.none _)
   |(with_reducible refine LeO.ite ?_ ?_)
   |(with_reducible refine LeO.bind ?_ (fun _ => ?_))
   |exact ih0 _ _ _ _
   |exact nat_trim.mono _ _
   |exact LeO.none _
   |refine LeO.ite ?_ ?_
   |refine LeO.bind ?_ (fun _ => ?_)
def nat_FromBytes.T8 : Bool × List (List Nat × List Nat):=(true,[([],[]),([],[]),([1],[1]),([0,2],[0,2]),([3],[3]),([],[]),([5],[5]),([],[]),([7],[7]),([8],[8]),([6,9],[6,9]),([4,10],[4,10]),([0,2,0,1,2,3,4,5,6,7,8,9,10,11],[0,2]),([12,11,0,1,2,3,4,5,6,7,8,9,10,11],[11,12])])
def nat_FromBytes.B8 : List Nat:=[0,0,2,7,15,0,32,0,128,384,992,2047,4095,8191]
theorem nat_FromBytes.tab8 : rtab .any (opsOf Try.f35 8) = nat_FromBytes.T8:=by kernel_rfl
theorem nat_FromBytes.bits8 : waitsOk nat_FromBytes.T8.2 nat_FromBytes.B8 = true:=by kernel_rfl
set_option maxHeartbeats 8000000 in
set_option maxRecDepth 100000 in
theorem nat_FromBytes.calls (k : Nat) (A0 : Option Addr) (c0 : Nat) (l0 : List Int) (r1 : List Int) (r2 : Int) (w : World) (hr0 : Kd.C (Kd.int .u8) w A0 l0.length l0) (hc0 : l0.length ≤ c0) (h : nat_FromBytes.f k l0 = some (r1,r2)) :
  Calls Try.prog 35 #[.slice A0 l0.length c0] w fun e w' => ∃ v0_ : Value,e = .returned (.tuple #[.agg #[v0_],.int .i64 r2]) ∧ Kd.V (Kd.int .u32) 23 w' w.heap.size (fun k_ => (w.heap.size ≤ k_)) v0_ r1 ∧ Below w.heap.size w w':=by
 have hu38:=Try.underlying38
 have HR0:=Aside0.mk hr0
 have HC0:=Aside0.mk hc0
 clear hr0 hc0
 have HB:=Aside0.mk (Below.refl w.heap.size w)
 have H : (if (l0.length : Int) > 128 then (some (([] : List Int),4)) else (if 0 ≤ (wrap64 (Int.tdiv (wrap64 ((l0.length : Int) + 3)) 4)) then (if (wrap64 (Int.tdiv (wrap64 ((l0.length : Int) + 3)) 4) : Int).toNat ≤ 70368744177664 then (nat_FromBytes.l0 k l0 (List.replicate (wrap64 (Int.tdiv (wrap64 ((l0.length : Int) + 3)) 4) : Int).toNat 0) (l0.length : Int) 0) else (none)) else (none))) = some (r1,r2):=h
 clear h
 by_cases c2 : (l0.length : Int) > 128
 ·rw [if_pos c2] at H
  have c2b0 : decide (128 < (l0.length : Int)) = true:=decide_eq_true c2
  have c2b1 : decide (128 < l0.length) = true:=decide_eq_true (by omega)
  clear c2
  simp only [Option.some.injEq,Prod.mk.injEq] at H
  obtain ⟨rfl,rfl⟩:=H
  go_enter Try.func35,Try.ntmps35
  go_wp2_with (first|((with_reducible refine gate_dst (N:=2) rfl ?_);refine qX #[.slice none 0 0] 38 ?_;intro gb443 hg w3 hbox hb;have BK443:=Aside0.mk hbox;have GE443:=qh hg HB;replace HB:=qs HB hb;clear hb hbox hg;have hcz4_0:=bc BK443;have hfz4_0:=bz BK443))
  refine bodyPost_ret (results_ct rfl _ _ gb443 38 #[.slice none 0 0] (0,0) _ rfl (by (with_reducible repeat (first|refine blk_drewN ?_ _|refine blk_drew ?_|refine blk_alloc ?_ _));refine blk_put (cs:=#[.slice none 0 0]) ?_ 0 _ rfl;(with_reducible repeat (first|refine blk_drewN ?_ _|refine blk_drew ?_|refine blk_alloc ?_ _));exact BK443.out) Try.underlying38 rfl (by kernel_rfl)) rfl ?_
  exact ⟨_,by first|rfl|(simp [errW_none,errW_some] <;> rfl)|(simp [*,errW_none,errW_some] <;> rfl),Kd.V_nil _ _ _ _ _,qS HB⟩
 ·rw [if_neg c2] at H
  have c2b0 : decide (128 < (l0.length : Int)) = false:=decide_eq_false c2
  have c2b1 : decide (128 < l0.length) = false:=decide_eq_false (by omega)
  clear c2
  obtain ⟨ji5,hji5⟩ : ∃ j_ : Int,(wrap64 (Int.tdiv (wrap64 ((l0.length : Int) + 3)) 4)) = j_:=⟨_,rfl⟩
  (first|rw [hji5] at H|simp only [hji5] at H)
  have hji5w : (IntKind.i64.wrap (Int.tdiv (wrap64 ((l0.length : Int) + 3)) 4)) = ji5:=(i64_w _).trans hji5
  by_cases c6 : 0 ≤ (ji5)
  ·rw [if_pos c6] at H
   have c6b0:=eq_true c6
   have c6b1 : decide (0 ≤ (ji5)) = true:=decide_eq_true c6
   clear c6
   by_cases c7 : (ji5 : Int).toNat ≤ 70368744177664
   ·rw [if_pos c7] at H
    have c7b0:=eq_true c7
    have c7b1 : decide ((ji5 : Int).toNat ≤ 70368744177664) = true:=decide_eq_true c7
    clear c7
    obtain ⟨y444,hy444⟩ : ∃ y_ : List Int,y_ = (List.replicate (ji5 : Int).toNat 0):=⟨_,rfl⟩
    replace H : (nat_FromBytes.l0 k l0 y444 (l0.length : Int) 0) = some (r1,r2):=by first|(rw [hy444];with_reducible exact H)|(have H2_:=(Option.bind_some _ _).symm.trans H;rw [hy444];with_reducible exact H2_)|(have H2_:=(Option.bind_some _ _).symm.trans H;with_reducible exact H2_)|with_reducible exact H|(rw [hy444];exact H)|exact H
    have Ny444:=Aside0.mk hy444
    clear hy444
    have H':=Aside0.mk H
    clear H
    go_enter Try.func35,Try.ntmps35
    go_wp2_with (first|((with_reducible refine gate_dst (N:=2) rfl ?_);refine qX #[.slice none 0 0] 38 ?_;intro gb443 hg w8 hbox hb;have BK443:=Aside0.mk hbox;have GE443:=qh hg HB;replace HB:=qs HB hb;clear hb hbox hg)|((with_reducible refine gate_dst (N:=15) rfl ?_);refine Kd.R_make (Kd.int .u32) _ 23 rfl (N:=15) rfl 36 _ _ rfl ji5 rfl rfl Try.underlying36 (.int .u32 0) 4 info23 rfl (by decide) (by omega) 0 (ok:=fun _ => True) (okp:=fun _ => True) rfl (fun _ hk => hk) trivial (od) (Nat.le_trans (Nat.mul_le_mul_right _ (od : ji5.toNat ≤ 70368744177664)) (by omega)) (Below.refl _ _) (Nat.le_refl _) ?_;intro v445 w9 ho10 hb hg_ hnew_;clear hg_ hnew_;(first|rw [← Ny444.out] at ho10|(simp only [Int.reduceToNat] at ho10;rw [← Ny444.out] at ho10));have HO446:=Aside0.mk (Kd.R_lower (Kd.R_newM (M:=fun k_ => (w.heap.size ≤ k_)) ho10 (below_size (qS HB)) (fun k_ h_ => h_)) (below_size (qS HB)));replace BK443:=qb BK443 hb;replace HB:=qs HB hb;clear hb ho10))
    go_loopg [18] k (fun kq v18 w' => ∃ (x4_1 : List Int) (x18_1 : Int),v18 = .int .i64 x18_1 ∧ Aside0 (nat_FromBytes.l0 kq l0 x4_1 (l0.length : Int) x18_1 = some (r1,r2)) ∧ Aside0 (kq ≤ k) ∧ Aside0 (Kd.R (Kd.int .u32) 23 w' w.heap.size (fun k_ => (w.heap.size ≤ k_)) v445 x4_1) ∧ Aside0 (w'.heap[gb443]? = some (.cells #[(.slice none 0 0)] 38 (0,0))) ∧ Aside0 (Below w.heap.size w w'))
    case atStart => exact ⟨(y444),(0),(by first|rfl|(simp;done)|(simp [*];done)),H',⟨Nat.le_refl _⟩,⟨qRm HO446⟩,⟨qB BK443.out⟩,⟨qS HB⟩⟩
    case round =>
     clear H'
     try clear c2
     try clear c2b0
     try clear c2b1
     try clear p2
     try clear c3
     try clear c6
     try clear c6b0
     try clear c6b1
     try clear p6
     try clear c7
     try clear c7b0
     try clear c7b1
     try clear hcz4_0
     try clear hfz4_0
     obtain ⟨x4_1,x18_1,rfl,HA,HK1,HO_4,BK443,HB⟩:=hrel
     cases gk with
     |zero => exact absurd HA.out (by simp [nat_FromBytes.l0])
     |succ k1 =>
      have H:=HA.out
      clear HA
      simp only [nat_FromBytes.l0] at H
      by_cases c11 : x18_1 < (l0.length : Int)
      ·rw [if_pos c11] at H
       have c11b0 : decide (x18_1 < (l0.length : Int)) = true:=decide_eq_true c11
       clear c11
       obtain ⟨ji12,hji12⟩ : ∃ j_ : Int,(wrap64 ((wrap64 ((l0.length : Int) - 1)) - x18_1)) = j_:=⟨_,rfl⟩
       (first|rw [hji12] at H|simp only [hji12] at H)
       have hji12w : (IntKind.i64.wrap ((wrap64 ((l0.length : Int) - 1)) - x18_1)) = ji12:=(i64_w _).trans hji12
       by_cases c13 : 0 ≤ (ji12)
       ·rw [if_pos c13] at H
        have c13b0 : decide (0 ≤ (ji12)) = true:=decide_eq_true c13
        clear c13
        by_cases c14 : (ji12) < (l0.length : Int)
        ·rw [if_pos c14] at H
         have c14b0 : decide ((ji12) < (l0.length : Int)) = true:=decide_eq_true c14
         clear c14
         obtain ⟨ji15,hji15⟩ : ∃ j_ : Int,(wrap64 (Int.tdiv x18_1 4)) = j_:=⟨_,rfl⟩
         (first|rw [hji15] at H|simp only [hji15] at H)
         have hji15w : (IntKind.i64.wrap (Int.tdiv x18_1 4)) = ji15:=(i64_w _).trans hji15
         by_cases c16 : 0 ≤ (ji15)
         ·rw [if_pos c16] at H
          have c16b0 : decide (0 ≤ (ji15)) = true:=decide_eq_true c16
          clear c16
          by_cases c17 : (ji15) < (x4_1.length : Int)
          ·rw [if_pos c17] at H
           have c17b0 : decide ((ji15) < (x4_1.length : Int)) = true:=decide_eq_true c17
           clear c17
           obtain ⟨ji18,hji18⟩ : ∃ j_ : Int,(wrap64 (8 * (Int.tmod x18_1 4))) = j_:=⟨_,rfl⟩
           (first|rw [hji18] at H|simp only [hji18] at H)
           have hji18w : (IntKind.i64.wrap (8 * (Int.tmod x18_1 4))) = ji18:=(i64_w _).trans hji18
           by_cases c19 : 0 ≤ (ji18)
           ·rw [if_pos c19] at H
            have c19b0:=eq_true c19
            have c19b1 : decide (0 ≤ (ji18)) = true:=decide_eq_true c19
            clear c19
            obtain ⟨ji20,hji20⟩ : ∃ j_ : Int,(shl .u32 ((rd l0 (ji12)) % 4294967296) (ji18)) = j_:=⟨_,rfl⟩
            (first|rw [hji20] at H|simp only [hji20] at H)
            have hji20_ : (IntKind.u32.wrap (((rd l0 (ji12)) % 4294967296) * 2 ^ min (ji18).toNat 32)) = ji20:=hji20
            have hji20m : ((rd l0 (ji12)) % 4294967296) * 2 ^ min (ji18).toNat 32 % 4294967296 = ji20:=hji20_
            have hji20z : (ji18) ≤ 32 → (IntKind.u32.wrap (((rd l0 (ji12)) % 4294967296) * 2 ^ (ji18).toNat)) = ji20:=shl_small hji20
            obtain ⟨y449,hy449⟩ : ∃ y_ : List Int,y_ = (x4_1.set ((ji15) : Int).toNat (Go.bits .or .u32 (rd x4_1 (ji15)) (ji20))):=⟨_,rfl⟩
            replace H : (nat_FromBytes.l0 k1 l0 y449 (l0.length : Int) (wrap64 (x18_1 + 1))) = some (r1,r2):=by first|(rw [hy449];with_reducible exact H)|(have H2_:=(Option.bind_some _ _).symm.trans H;rw [hy449];with_reducible exact H2_)|(have H2_:=(Option.bind_some _ _).symm.trans H;with_reducible exact H2_)|with_reducible exact H|(rw [hy449];exact H)|exact H
            have Ny449:=Aside0.mk hy449
            clear hy449
            have H':=Aside0.mk H
            clear H
            have p447 : 0 ≤ ((ji12) : Int):=od
            have q447 : (ji12) < (l0.length : Int):=od
            obtain ⟨ad447,e447,hx447_0⟩:=Kd.at_int HR0.out (ji12) p447 q447
            cases e447
            replace hx447_0:=(HB.out.cell (World.block_lt_of_cell? w _ hx447_0)).trans hx447_0
            replace p447:=eq_true p447
            replace q447:=eq_true q447
            try go_wp2
            replace HO_4:=qRw HO_4
            replace BK443:=qbd BK443
            replace HB:=qsd HB
            obtain ⟨Ao23,co23,eo23⟩:=Kd.R_slice HO_4.out
            (first|subst eo23|(injection eo23 with f1_ f2_ f3_;have f4_:=f1_.symm;have f5_:=f3_.symm;clear f1_ f2_ f3_;subst f4_;subst f5_))
            have p448 : 0 ≤ ((ji15) : Int):=od
            have q448 : (ji15) < (x4_1.length : Int):=od
            obtain ⟨ad448,e448,hx448_0⟩:=Kd.at_int (Kd.R_reads' HO_4.out).2.2 (ji15) p448 q448
            cases e448
            replace p448:=eq_true p448
            replace q448:=eq_true q448
            have p21 : 0 ≤ ((ji15) : Int):=od
            have q21 : ((ji15) : Int) < ((x4_1.length : Int) : Int):=od
            obtain ⟨go21,co21,eo21,gb21,gl21,cl21,HG21⟩:=Kd.R_form HO_4.out (by omega)
            (first|cases eo21|(injection eo21 with ea_ en_ ec_;(first|subst ea_|(injection ea_ with ea_;subst ea_));subst ec_;clear en_))
            have GB21:=Aside0.mk gb21
            have GG21:=Aside0.mk HG21
            clear gb21 gl21 HG21
            (first|simp only [add_plain] at hx448_0|skip)
            obtain ⟨hx21_0,hf21_0⟩:=Kd.R_celln 0 HO_4.out ((ji15) : Int) p21 q21
            replace p21:=eq_true p21
            replace q21:=eq_true q21
            have HP24:=Kd.R_putn HO_4.out ((ji15) : Int) (Go.bits .or .u32 (rd x4_1 (ji15)) (ji20))
            rw [← Ny449.out] at HP24
            have HQ24:=Aside0.mk HP24
            clear HP24
            refine start_ (n:=14) (S:=fun w' => w'.cell? ⟨go21,((ji15)).toNat,none⟩ = some (.int .u32 (rd x4_1 (ji15)))) (ds:=[13]) #[false,false,false,false,false,false,false,false,false,false,false,false,false,false] (by kernel_rfl) rfl rfl (hx448_0) (fun hHeld => ?_);refine with_tabW nat_FromBytes.tab8 nat_FromBytes.bits8 (fun HT_ HW_ => ?_)
            generalize wr.drew = w22 at HO_4 BK443 HB GG21 HQ24 hf21_0 hx21_0 hx448_0 hHeld ⊢
            refine qP 0 29 HT_ ?_
            refine qP 1 30 HT_ ?_
            refine qP 2 31 HT_ ?_
            refine qP 3 32 HT_ ?_
            refine qP 5 34 HT_ ?_
            refine qP 6 35 HT_ ?_
            refine qP 7 36 HT_ ?_
            refine qP 8 37 HT_ ?_
            refine qP 9 38 HT_ ?_
            refine qP 10 39 HT_ ?_
            refine qT 4 33 HT_ HW_ hHeld ?_
            refine qP 11 40 HT_ ?_
            refine qP 12 41 HT_ ?_
            refine last_ (i:=13) (N:=none) #[true,true,true,true,true,true,true,true,true,true,true,true,true,true] rfl rfl (one_of HT_.out (by kernel_rfl)) (by decide) (fun K hK => ?_)
            refine skip_ (w1:=?_) (by rfl) rfl ?_ ?_
            rotate_left
            ·go_simp
             rfl
            refine hK.out _ _ ?_
            clear hK K
            refine qD HT_ ?_
            try go_wp2
            go_roundg k1
            case measure => have:=HK1.out;omega
            case rel => exact ⟨(y449),(wrap64 (x18_1 + 1)),(by first|rfl|(simp;done)|(simp [*];done)),H',⟨by have:=HK1.out;omega⟩,⟨by (with_reducible repeat (first|apply Kd.R_alloc|apply Kd.R_drewN|apply Kd.R_drew));(first|exact HQ24.out|(rw [hji20m];exact HQ24.out))⟩,⟨by (with_reducible repeat (first|refine blk_drewN ?_ _|refine blk_drew ?_|refine blk_alloc ?_ _));refine blk_far ?_ (by have h_:=Kd.R_ne HO_4.out BK443.out (by decide);intro e_;exact h_ (by rw [e_];rfl)) _;(with_reducible repeat (first|refine blk_drewN ?_ _|refine blk_drew ?_|refine blk_alloc ?_ _));exact BK443.out⟩,⟨qS HB⟩⟩
           ·rw [if_neg c19] at H
            exact absurd H (by simp)
          ·rw [if_neg c17] at H
           exact absurd H (by simp)
         ·rw [if_neg c16] at H
          exact absurd H (by simp)
        ·rw [if_neg c14] at H
         exact absurd H (by simp)
       ·rw [if_neg c13] at H
        exact absurd H (by simp)
      ·rw [if_neg c11] at H
       have c11b0 : decide (x18_1 < (l0.length : Int)) = false:=decide_eq_false c11
       clear c11
       obtain ⟨t450,A25,H⟩:=qH H
       simp only [Option.some.injEq,Prod.mk.injEq] at H
       obtain ⟨rfl,rfl⟩:=H
       obtain ⟨Ao26,co26,eo26⟩:=Kd.R_slice HO_4.out
       subst eo26
       go_wp2_with (first|((with_reducible refine gate_callee (f:=100) rfl ?_);refine gL (some 44) Try.func100 #[.slice Ao26 x4_1.length co26] ?_;(with_reducible refine (nat_trim.calls k1 (fun k_ => some k_ = (.slice Ao26 x4_1.length co26 : Value).ownBlock) _ _ x4_1 t450 _ ?side1 A25.out).mono ?_);(case side1 => exact Kd.R_V (Kd.R_tight rfl (Kd.R_types (HO_4.out) BK443.out (by decide))));rintro e w27 ⟨v451,rfl,ho0,hb⟩;refine ⟨_,rfl,?_⟩;have HO452:=Aside0.mk (Kd.V_lower (Kd.V_mono (ok':=fun k_ => (w.heap.size ≤ k_) ∧ k_ ≠ gb443) ho0 (fun k_ hk_ => ⟨Or.elim hk_ (fun hs_ => ((Kd.R_types (HO_4.out) BK443.out (by decide)).1 k_ hs_.symm).1) (fun hn_ => (Nat.le_trans (below_size (qS HB)) hn_)),Or.elim hk_ (fun hs_ => ((Kd.R_types (HO_4.out) BK443.out (by decide)).1 k_ hs_.symm).2) (fun hn_ => (Kd.freshB (qB BK443.out) k_ hn_))⟩)) (below_size (qS HB)));replace HO_4:=qRb HO_4 hb;replace BK443:=qb BK443 hb;replace HB:=qs HB hb;clear hb ho0;obtain ⟨Ao28,co28,eo28⟩:=Kd.V_slice HO452.out;subst eo28;have hcz29_0:=bc BK443;have hfz29_0:=bz BK443))
       refine bodyPost_ret (results_ct rfl _ _ gb443 38 #[.slice Ao28 t450.length co28] (0,0) _ rfl (by (with_reducible repeat (first|refine blk_drewN ?_ _|refine blk_drew ?_|refine blk_alloc ?_ _));refine blk_put (cs:=#[.slice none 0 0]) ?_ 0 _ rfl;(with_reducible repeat (first|refine blk_drewN ?_ _|refine blk_drew ?_|refine blk_alloc ?_ _));exact BK443.out) Try.underlying38 rfl (by kernel_rfl)) rfl ?_
       exact ⟨_,by first|rfl|(simp [errW_none,errW_some] <;> rfl)|(simp only [← hji5];first|rfl|(simp [errW_none,errW_some] <;> rfl))|(simp [*,errW_none,errW_some] <;> rfl),qVm HO452,qS HB⟩
   ·rw [if_neg c7] at H
    exact absurd H (by simp)
  ·rw [if_neg c6] at H
   exact absurd H (by simp)
end Go.Proofs.Yteejcpbngnojkaa.P
end
section
namespace Go.Proofs.Yteejcpbngnojkaa.P
open Go.RowKit Go.Proofs.YteejcpbngnojkaaW.PrintWords Go.Proofs.YteejcpbngnojkaaW.PrintLast Go.Proofs.YteejcpbngnojkaaW.PrintMore
attribute [local go_sem] max2_int min2_int max_two min_two max_three min_three max_four min_four
set_option linter.unusedVariables false
set_option linter.unusedSimpArgs false
def sacristylaw01_Num.f (k : Nat) (l0 : List Int) : Option (List Int):=if 0 ≤ (mn (l0.length : Int) 48) then (if (mn (l0.length : Int) 48) ≤ (l0.length : Int) then ((nat_FromBytes.f k (l0.take ((mn (l0.length : Int) 48) : Int).toNat)).bind fun bt506 => (some bt506.1)) else (none)) else (none)
theorem sacristylaw01_Num.mono : ∀ a0 k,LeO (sacristylaw01_Num.f k a0) (sacristylaw01_Num.f (k + 1) a0):=by
 intro a0 k
 unfold sacristylaw01_Num.f
 repeat' first
   |(with_reducible exact nat_FromBytes.mono _ _)
   |(with_reducible exact LeO.refl _)
   |(with_reducible exact LeO.none _)
   |(with_reducible refine LeO.ite ?_ ?_)
   |(with_reducible refine LeO.bind ?_ (fun _ => ?_))
   |exact nat_FromBytes.mono _ _
   |exact LeO.none _
   |refine LeO.ite ?_ ?_
   |refine LeO.bind ?_ (fun _ => ?_)
set_option maxHeartbeats 8000000 in
set_option maxRecDepth 100000 in
theorem sacristylaw01_Num.calls (k : Nat) (A0 : Option Addr) (c0 : Nat) (l0 : List Int) (r : List Int) (w : World) (hr0 : Kd.C (Kd.int .u8) w A0 l0.length l0) (hc0 : l0.length ≤ c0) (h : sacristylaw01_Num.f k l0 = some r) :
  Calls Try.prog 40 #[.slice A0 l0.length c0] w fun e w' => ∃ v0_ : Value,e = .returned (.agg #[v0_]) ∧ Kd.V (Kd.int .u32) 23 w' w.heap.size (fun k_ => (w.heap.size ≤ k_)) v0_ r ∧ Below w.heap.size w w':=by
 have hu38:=Try.underlying38
 have HR0:=Aside0.mk hr0
 have HC0:=Aside0.mk hc0
 clear hr0 hc0
 have HB:=Aside0.mk (Below.refl w.heap.size w)
 have H : (if 0 ≤ (mn (l0.length : Int) 48) then (if (mn (l0.length : Int) 48) ≤ (l0.length : Int) then ((nat_FromBytes.f k (l0.take ((mn (l0.length : Int) 48) : Int).toNat)).bind fun bt506 => (some bt506.1)) else (none)) else (none)) = some r:=h
 clear h
 obtain ⟨ji2,hji2⟩ : ∃ j_ : Int,(mn (l0.length : Int) 48) = j_:=⟨_,rfl⟩
 (first|rw [hji2] at H|simp only [hji2] at H)
 (try (have hji2h : ji2 ≤ 48:=by (rw [← hji2];unfold mn;(repeat' split) <;> omega)))
 (try (have hji2g : ji2 ≤ 64:=by omega))
 (try (have hji2l : 0 ≤ ji2:=by (rw [← hji2];unfold mn;(repeat' split) <;> omega)))
 (try (have hji2m : 0 ≤ ji2:=by omega))
 have hji2_ : (if 48 < (l0.length : Int) then 48 else (l0.length : Int)) = ji2:=hji2
 by_cases c3 : 0 ≤ (ji2)
 ·rw [if_pos c3] at H
  have c3b0:=eq_true c3
  have c3b1 : decide (0 ≤ (ji2)) = true:=decide_eq_true c3
  clear c3
  by_cases c4 : (ji2) ≤ (l0.length : Int)
  ·rw [if_pos c4] at H
   have c4b0:=eq_true c4
   have c4b1 : decide ((ji2) ≤ (l0.length : Int)) = true:=decide_eq_true c4
   clear c4
   obtain ⟨⟨t506,t509⟩,A5,H⟩:=qH H
   dsimp only at H
   obtain rfl:=Option.some.inj H
   go_enter Try.func40,Try.ntmps40
   go_wp2_with (first|((with_reducible refine gate_dst (N:=2) rfl ?_);refine qX #[.slice none 0 0] 38 ?_;intro gb504 hg w6 hbox hb;have BK504:=Aside0.mk hbox;have GE504:=qh hg HB;replace HB:=qs HB hb;clear hb hbox hg;obtain ⟨i07,hi07,_,hsz7,_⟩:=info_parts info5;obtain ⟨hcut7,hA7,hC7⟩:=print_take_of (P:=Try.prog) (Value.int .u8) 0 22 5 .i64 Try.underlying22 hi07 hsz7 A0 c0 l0 (ji2) (od) (od) HC0.out;have HR505:=Aside0.mk (Kd.C_of_reads (h1:=fun _ => rfl) (hA7 _ (Kd.reads_of_C HR0.out)));have HC505:=Aside0.mk hC7;clear hA7 hC7 hi07 hsz7)|((with_reducible refine gate_callee (f:=35) rfl ?_);refine goesL_ (some 11) rfl rfl Try.func35 (by kernel_rfl) rfl #[.slice A0 (l0.take ((ji2) : Int).toNat).length c0] rfl (by (try simp only [List.map_toArray,List.map_cons,List.map_nil]);first|done|(rw [show (l0.take ((ji2) : Int).toNat).length = (ji2).toNat from (by rw [List.length_take];have h_ : ((ji2) : Int) ≤ (l0.length : Int):=od;omega)] <;> rfl)|(simp only [hji2];rfl)|rfl|(simp only [List.length_drop,List.length_take];rfl)) ?_;(with_reducible refine (nat_FromBytes.calls k _ _ (l0.take ((ji2) : Int).toNat) t506 t509 _ ?side1 ?side2 A5.out).mono ?_);(case side1 => exact qCB HR505 HB);(case side2 => exact HC505.out);rintro e w8 ⟨v507,rfl,ho0,hb⟩;refine ⟨_,rfl,?_⟩;have HO508:=Aside0.mk (Kd.V_lower (Kd.V_mono (ok':=fun k_ => (w.heap.size ≤ k_) ∧ k_ ≠ gb504) ho0 (fun k_ hk_ => ⟨(Nat.le_trans (below_size (qS HB)) hk_),(Kd.freshB (qB BK504.out) k_ hk_)⟩)) (below_size (qS HB)));replace BK504:=qb BK504 hb;replace HB:=qs HB hb;clear hb ho0)|((with_reducible refine gate_dst (N:=3) rfl ?_);refine qX #[.slice none 0 0] 38 ?_;intro gb510 hg w9 hbox hb;replace HO508:=qVe HO508 hb hg;have BK510:=Aside0.mk hbox;have GE510:=qh hg HB;replace HB:=qs HB hb;have NB504_510:=ql hg BK504;have NB510_504:=qg hg BK504;replace BK504:=qb BK504 hb;clear hb hbox hg;obtain ⟨Ao10,co10,eo10⟩:=Kd.V_slice HO508.out;subst eo10;have hnb11:=NB510_504.out;have hnc11:=NB504_510.out;have hcz12_0:=bc BK510;have hfz12_0:=bz BK510;have hcz13_0:=bc BK504;have hfz13_0:=bz BK504))
   refine bodyPost_ret (results_cell_row rfl _ _ gb504 38 #[.slice Ao10 t506.length co10] (0,0) _ rfl (by (with_reducible repeat (first|refine blk_drewN ?_ _|refine blk_drew ?_|refine blk_alloc ?_ _));refine blk_put (cs:=#[.slice none 0 0]) ?_ 0 _ rfl;(with_reducible repeat (first|refine blk_drewN ?_ _|refine blk_drew ?_|refine blk_alloc ?_ _));refine blk_far ?_ NB504_510.out _;(with_reducible repeat (first|refine blk_drewN ?_ _|refine blk_drew ?_|refine blk_alloc ?_ _));exact BK504.out) Try.underlying38 rfl (by kernel_rfl)) rfl ?_
   exact ⟨_,by first|rfl|(simp [errW_none,errW_some] <;> rfl)|(simp only [← hji2];first|rfl|(simp [errW_none,errW_some] <;> rfl))|(simp [*,errW_none,errW_some] <;> rfl),qVm HO508,qS HB⟩
  ·rw [if_neg c4] at H
   exact absurd H (by simp)
 ·rw [if_neg c3] at H
  exact absurd H (by simp)
end Go.Proofs.Yteejcpbngnojkaa.P
end
section
namespace Go.Proofs.Yteejcpbngnojkaa.P
open Go.RowKit Go.Proofs.YteejcpbngnojkaaW.PrintWords Go.Proofs.YteejcpbngnojkaaW.PrintLast Go.Proofs.YteejcpbngnojkaaW.PrintMore
attribute [local go_sem] max2_int min2_int max_two min_two max_three min_three max_four min_four
set_option linter.unusedVariables false
set_option linter.unusedSimpArgs false
def sacristyref01_Trim.l0 : Nat → List Bool → Option (List Bool)
 |0,_ => none
 |k + 1,x0 => if (x0.length : Int) > 0 then (if 0 ≤ (wrap64 ((x0.length : Int) - 1)) then (if (wrap64 ((x0.length : Int) - 1)) < (x0.length : Int) then (if (rdOf false x0 (wrap64 ((x0.length : Int) - 1)) = true) then (some x0) else (if (wrap64 ((x0.length : Int) - 1)) ≤ (x0.length : Int) then (sacristyref01_Trim.l0 k (x0.take ((wrap64 ((x0.length : Int) - 1)) : Int).toNat)) else (none))) else (none)) else (none)) else (some x0)
def sacristyref01_Trim.f (k : Nat) (l0 : List Bool) : Option (List Bool):=sacristyref01_Trim.l0 k l0
theorem sacristyref01_Trim.mono_l : ∀ k,(∀ y0,LeO (sacristyref01_Trim.l0 k y0) (sacristyref01_Trim.l0 (k + 1) y0))
 |0 => fun _ r h => by simp [sacristyref01_Trim.l0] at h
 |k + 1 => by
  have ih0:=sacristyref01_Trim.mono_l k
  ·intro y0
   unfold sacristyref01_Trim.l0
   repeat' first
   |(with_reducible exact ih0 _)
   |(with_reducible exact LeO.refl _)
   |(with_reducible exact LeO.none _)
   |(with_reducible refine LeO.ite ?_ ?_)
   |(with_reducible refine LeO.bind ?_ (fun _ => ?_))
   |exact ih0 _
   |exact LeO.none _
   |refine LeO.ite ?_ ?_
   |refine LeO.bind ?_ (fun _ => ?_)
theorem sacristyref01_Trim.mono : ∀ a0 k,LeO (sacristyref01_Trim.f k a0) (sacristyref01_Trim.f (k + 1) a0):=by
 intro a0 k
 have ih0:=sacristyref01_Trim.mono_l k
 unfold sacristyref01_Trim.f
 repeat' first
   |(with_reducible exact ih0 _)
   |(with_reducible exact LeO.refl _)
   |(with_reducible exact LeO.none _)
   |(with_reducible refine LeO.ite ?_ ?_)
   |(with_reducible refine LeO.bind ?_ (fun _ => ?_))
   |exact ih0 _
   |exact LeO.none _
   |refine LeO.ite ?_ ?_
   |refine LeO.bind ?_ (fun _ => ?_)
set_option maxHeartbeats 8000000 in
set_option maxRecDepth 100000 in
theorem sacristyref01_Trim.calls (k : Nat) (P0_ : Nat → Prop) (A0 : Option Addr) (c0 : Nat) (l0 : List Bool) (r : List Bool) (w : World) (hs0 : Kd.V Kd.bool 4 w w.heap.size (fun k_ => P0_ k_) (.slice A0 l0.length c0) l0) (h : sacristyref01_Trim.f k l0 = some r) :
  Calls Try.prog 111 #[.slice A0 l0.length c0] w fun e w' => ∃ v0_ : Value,e = .returned (v0_) ∧ Kd.V Kd.bool 4 w' w.heap.size (fun k_ => (P0_ k_ ∨ w.heap.size ≤ k_)) v0_ r ∧ Below w.heap.size w w':=by
 have HO0:=Aside0.mk (show Kd.V Kd.bool 4 w w.heap.size (fun k_ => (P0_ k_ ∨ w.heap.size ≤ k_)) (.slice A0 l0.length c0) l0 from Kd.V_mono hs0 (fun k_ hk => .inl hk))
 have HB:=Aside0.mk (Below.refl w.heap.size w)
 have H : (sacristyref01_Trim.l0 k l0) = some r:=h
 clear h
 have H':=Aside0.mk H
 clear H
 go_enter Try.func111,Try.ntmps111
 go_wp2
 go_loopg [0] k (fun kq v0 w' => ∃ (x0_1 : List Bool),Aside0 (sacristyref01_Trim.l0 kq x0_1 = some r) ∧ Aside0 (kq ≤ k) ∧ Aside0 (Kd.V Kd.bool 4 w' w.heap.size (fun k_ => (P0_ k_ ∨ w.heap.size ≤ k_)) v0 x0_1) ∧ Aside0 (Below w.heap.size w w'))
 case atStart => exact ⟨(l0),H',⟨Nat.le_refl _⟩,⟨qVm HO0⟩,⟨qS HB⟩⟩
 case round =>
  clear H'
  try clear c1
  obtain ⟨x0_1,HA,HK1,HO_0,HB⟩:=hrel
  cases gk with
  |zero => exact absurd HA.out (by simp [sacristyref01_Trim.l0])
  |succ k1 =>
   have H:=HA.out
   clear HA
   simp only [sacristyref01_Trim.l0] at H
   by_cases c2 : (x0_1.length : Int) > 0
   ·rw [if_pos c2] at H
    have c2b0 : decide (0 < (x0_1.length : Int)) = true:=decide_eq_true c2
    have c2b1 : decide (0 < x0_1.length) = true:=decide_eq_true (by omega)
    clear c2
    obtain ⟨ji3,hji3⟩ : ∃ j_ : Int,(wrap64 ((x0_1.length : Int) - 1)) = j_:=⟨_,rfl⟩
    (first|rw [hji3] at H|simp only [hji3] at H)
    have hji3w : (IntKind.i64.wrap ((x0_1.length : Int) - 1)) = ji3:=(i64_w _).trans hji3
    by_cases c4 : 0 ≤ (ji3)
    ·rw [if_pos c4] at H
     have c4b0 : decide (0 ≤ (ji3)) = true:=decide_eq_true c4
     clear c4
     by_cases c5 : (ji3) < (x0_1.length : Int)
     ·rw [if_pos c5] at H
      have c5b0 : decide ((ji3) < (x0_1.length : Int)) = true:=decide_eq_true c5
      clear c5
      obtain ⟨bq6,hbq6⟩ : ∃ b_ : Bool,b_ = (rdOf false x0_1 (ji3)):=⟨_,rfl⟩
      replace H : (if (bq6 = true) then (some x0_1) else (if (ji3) ≤ (x0_1.length : Int) then (sacristyref01_Trim.l0 k1 (x0_1.take ((ji3) : Int).toNat)) else (none))) = some r:=by rw [← hbq6] at H;exact H
      have Nbq6:=Aside0.mk hbq6
      clear hbq6
      by_cases c7 : (bq6 = true)
      ·subst c7
       rw [if_pos rfl] at H
       obtain rfl:=Option.some.inj H
       obtain ⟨Ao8,co8,eo8⟩:=Kd.V_slice HO_0.out
       subst eo8
       have p453 : 0 ≤ ((ji3) : Int):=od
       have q453 : (ji3) < (x0_1.length : Int):=od
       obtain ⟨ad453,e453,hx453_0⟩:=Kd.at_bool (Kd.V_reads' HO_0.out).2.2 (ji3) p453 q453
       (try rw [← Nbq6.out] at hx453_0)
       cases e453
       replace p453:=eq_true p453
       replace q453:=eq_true q453
       go_wp2
       (first|go_ret|(refine ⟨_,results_tmp rfl _ _ _,?_⟩))
       exact ⟨_,by first|rfl|(simp [errW_none,errW_some] <;> rfl)|(simp only [← hji3];first|rfl|(simp [errW_none,errW_some] <;> rfl))|(simp [*,errW_none,errW_some] <;> rfl),qVm HO_0,qS HB⟩
      ·replace c7:=Bool.eq_false_iff.mpr c7
       subst c7
       rw [qFT] at H
       have c9b0:=eq_true (od : 0 ≤ (ji3))
       by_cases c10 : (ji3) ≤ (x0_1.length : Int)
       ·rw [if_pos c10] at H
        have c10b0:=eq_true c10
        have c10b1 : decide ((ji3) ≤ (x0_1.length : Int)) = true:=decide_eq_true c10
        clear c10
        obtain ⟨y454,hy454⟩ : ∃ y_ : List Bool,y_ = (x0_1.take ((ji3) : Int).toNat):=⟨_,rfl⟩
        replace H : (sacristyref01_Trim.l0 k1 y454) = some r:=by first|(rw [hy454];with_reducible exact H)|(have H2_:=(Option.bind_some _ _).symm.trans H;rw [hy454];with_reducible exact H2_)|(have H2_:=(Option.bind_some _ _).symm.trans H;with_reducible exact H2_)|with_reducible exact H|(rw [hy454];exact H)|exact H
        have Ny454:=Aside0.mk hy454
        clear hy454
        have H':=Aside0.mk H
        clear H
        obtain ⟨Ao11,co11,eo11⟩:=Kd.V_slice HO_0.out
        subst eo11
        have p453 : 0 ≤ ((ji3) : Int):=od
        have q453 : (ji3) < (x0_1.length : Int):=od
        obtain ⟨ad453,e453,hx453_0⟩:=Kd.at_bool (Kd.V_reads' HO_0.out).2.2 (ji3) p453 q453
        (try rw [← Nbq6.out] at hx453_0)
        cases e453
        replace p453:=eq_true p453
        replace q453:=eq_true q453
        have q12 : ((ji3) : Int) ≤ ((x0_1.length : Int) : Int):=od
        obtain ⟨i012,hi012,_,hsz12,_⟩:=info_parts info4
        have hroom12 : x0_1.length ≤ co11:=(Kd.V_reads' HO_0.out).2.1
        have hC12 : Kd.F Kd.bool _ _ (some ad453) x0_1.length x0_1:=(Kd.V_at (base:=w.heap.size) HO_0.out).2.2
        have hcut12:=cut_to (P:=Try.prog) 42 4 .i64 Try.underlying42 hi012 (some ad453) x0_1.length co11 (ji3) (od) q12 hroom12
        have hr12:=Kd.F_take (m:=((ji3) : Int).toNat) hC12 (by omega)
        have hy12 : y454.length = ((ji3) : Int).toNat:=(by rw [Ny454.out,List.length_take];omega)
        rw [← Ny454.out] at hr12
        rw [← hy12] at hcut12
        have HO458:=Aside0.mk (show Kd.V Kd.bool 4 _ w.heap.size _ (.slice (some ad453) y454.length co11) y454 from Kd.V_mk (by omega) hr12)
        have HC458:=Aside0.mk (show y454.length ≤ co11 from by omega)
        clear hr12 hC12 hroom12 hi012 hsz12
        have KY12:=Aside0.mk hy12
        clear hy12
        replace q12:=eq_true q12
        go_wp2
        go_roundg k1
        case measure => have:=HK1.out;omega
        case rel => exact ⟨(y454),H',⟨by have:=HK1.out;omega⟩,⟨qVm HO458⟩,⟨qS HB⟩⟩
       ·rw [if_neg c10] at H
        exact absurd H (by simp)
     ·rw [if_neg c5] at H
      exact absurd H (by simp)
    ·rw [if_neg c4] at H
     exact absurd H (by simp)
   ·rw [if_neg c2] at H
    have c2b0 : decide (0 < (x0_1.length : Int)) = false:=decide_eq_false c2
    have c2b1 : decide (0 < x0_1.length) = false:=decide_eq_false (by omega)
    clear c2
    obtain rfl:=Option.some.inj H
    obtain ⟨Ao13,co13,eo13⟩:=Kd.V_slice HO_0.out
    subst eo13
    go_wp2
    (first|go_ret|(refine ⟨_,results_tmp rfl _ _ _,?_⟩))
    exact ⟨_,by first|rfl|(simp [errW_none,errW_some] <;> rfl)|(simp [*,errW_none,errW_some] <;> rfl),qVm HO_0,qS HB⟩
end Go.Proofs.Yteejcpbngnojkaa.P
end
section
namespace Go.Proofs.Yteejcpbngnojkaa.P
open Go.RowKit Go.Proofs.YteejcpbngnojkaaW.PrintWords Go.Proofs.YteejcpbngnojkaaW.PrintLast Go.Proofs.YteejcpbngnojkaaW.PrintMore
attribute [local go_sem] max2_int min2_int max_two min_two max_three min_three max_four min_four
set_option linter.unusedVariables false
set_option linter.unusedSimpArgs false
mutual
def sacristyref01_Of.l0 : Nat → List Int → List Bool → Int → Option (List Bool)
 |0,_,_,_ => none
 |k + 1,x0,x3,x4 => if x4 ≥ 0 then (sacristyref01_Of.l1 k x0 x3 x4 0) else ((sacristyref01_Trim.f k x3).bind fun t462 => (some t462))
def sacristyref01_Of.l1 : Nat → List Int → List Bool → Int → Int → Option (List Bool)
 |0,_,_,_,_ => none
 |k + 1,x0,x3,x4,x5 => if x5 < 8 then (if 0 ≤ x4 then (if x4 < (x0.length : Int) then (if 0 ≤ x5 then (if x3.length < 140737488355328 then (sacristyref01_Of.l1 k x0 (x3 ++ [((Int.tmod (shr .u8 (rd x0 x4) x5) 2) == 1)]) x4 (wrap64 (x5 + 1))) else (none)) else (none)) else (none)) else (none)) else (sacristyref01_Of.l0 k x0 x3 (wrap64 (x4 - 1)))
end
def sacristyref01_Of.f (k : Nat) (l0 : List Int) : Option (List Bool):=sacristyref01_Of.l0 k l0 (([] : List Bool)) (wrap64 ((l0.length : Int) - 1))
theorem sacristyref01_Of.mono_l : ∀ k,(∀ y0 y1 y2,LeO (sacristyref01_Of.l0 k y0 y1 y2) (sacristyref01_Of.l0 (k + 1) y0 y1 y2)) ∧ (∀ y0 y1 y2 y3,LeO (sacristyref01_Of.l1 k y0 y1 y2 y3) (sacristyref01_Of.l1 (k + 1) y0 y1 y2 y3))
 |0 => ⟨fun _ _ _ r h => by simp [sacristyref01_Of.l0] at h,fun _ _ _ _ r h => by simp [sacristyref01_Of.l1] at h⟩
 |k + 1 => by
  obtain ⟨ih0,ih1⟩:=sacristyref01_Of.mono_l k
  refine ⟨?_,?_⟩
  ·intro y0 y1 y2
   unfold sacristyref01_Of.l0
   repeat' first
   |(with_reducible exact ih0 _ _ _)
   |(with_reducible exact ih1 _ _ _ _)
   |(with_reducible exact sacristyref01_Trim.mono _ _)
   |(with_reducible exact LeO.refl _)
   |(with_reducible exact LeO.none _)
   |(with_reducible refine LeO.ite ?_ ?_)
   |(with_reducible refine LeO.bind ?_ (fun _ => ?_))
   |exact ih0 _ _ _
   |exact ih1 _ _ _ _
   |exact sacristyref01_Trim.mono _ _
   |exact LeO.none _
   |refine LeO.ite ?_ ?_
   |refine LeO.bind ?_ (fun _ => ?_)
  ·intro y0 y1 y2 y3
   unfold sacristyref01_Of.l1
   repeat' first
   |(with_reducible exact ih0 _ _ _)
   |(with_reducible exact ih1 _ _ _ _)
   |(with_reducible exact sacristyref01_Trim.mono _ _)
   |(with_reducible exact LeO.refl _)
   |(with_reducible exact LeO.none _)
   |(with_reducible refine LeO.ite ?_ ?_)
   |(with_reducible refine LeO.bind ?_ (fun _ => ?_))
   |exact ih0 _ _ _
   |exact ih1 _ _ _ _
   |exact sacristyref01_Trim.mono _ _
   |exact LeO.none _
   |refine LeO.ite ?_ ?_
   |refine LeO.bind ?_ (fun _ => ?_)
theorem sacristyref01_Of.mono : ∀ a0 k,LeO (sacristyref01_Of.f k a0) (sacristyref01_Of.f (k + 1) a0):=by
 intro a0 k
 obtain ⟨ih0,ih1⟩:=sacristyref01_Of.mono_l k
 unfold sacristyref01_Of.f
 repeat' first
   |(with_reducible exact ih0 _ _ _)
   |(with_reducible exact ih1 _ _ _ _)
   |(with_reducible exact sacristyref01_Trim.mono _ _)
   |(with_reducible exact LeO.refl _)
   |(with_reducible exact LeO.none _)
   |(with_reducible refine LeO.ite ?_ ?_)
   |(with_reducible refine LeO.bind ?_ (fun _ => ?_))
   |exact ih0 _ _ _
   |exact ih1 _ _ _ _
   |exact sacristyref01_Trim.mono _ _
   |exact LeO.none _
   |refine LeO.ite ?_ ?_
   |refine LeO.bind ?_ (fun _ => ?_)
set_option maxHeartbeats 8000000 in
set_option maxRecDepth 100000 in
theorem sacristyref01_Of.calls (k : Nat) (A0 : Option Addr) (c0 : Nat) (l0 : List Int) (r : List Bool) (w : World) (hr0 : Kd.C (Kd.int .u8) w A0 l0.length l0) (hc0 : l0.length ≤ c0) (h : sacristyref01_Of.f k l0 = some r) :
  Calls Try.prog 101 #[.slice A0 l0.length c0] w fun e w' => ∃ v0_ : Value,e = .returned (v0_) ∧ Kd.V Kd.bool 4 w' w.heap.size (fun k_ => (w.heap.size ≤ k_)) v0_ r ∧ Below w.heap.size w w':=by
 have HR0:=Aside0.mk hr0
 have HC0:=Aside0.mk hc0
 clear hr0 hc0
 have HB:=Aside0.mk (Below.refl w.heap.size w)
 have H : (sacristyref01_Of.l0 k l0 (([] : List Bool)) (wrap64 ((l0.length : Int) - 1))) = some r:=h
 clear h
 obtain ⟨y459,hy459⟩ : ∃ y_ : List Bool,y_ = (([] : List Bool)):=⟨_,rfl⟩
 replace H : (sacristyref01_Of.l0 k l0 y459 (wrap64 ((l0.length : Int) - 1))) = some r:=by first|(rw [hy459];with_reducible exact H)|(have H2_:=(Option.bind_some _ _).symm.trans H;rw [hy459];with_reducible exact H2_)|(have H2_:=(Option.bind_some _ _).symm.trans H;with_reducible exact H2_)|with_reducible exact H|(rw [hy459];exact H)|exact H
 have Ny459:=Aside0.mk hy459
 clear hy459
 have H':=Aside0.mk H
 clear H
 go_enter Try.func101,Try.ntmps101
 go_wp2_with (first|((with_reducible refine gate_dst (N:=6) rfl ?_);refine Kd.R_lit Kd.bool _ 4 ?hg (N:=6) ?hd (xs:=([] : List Bool)) (inner:=[]) (ok:=fun _ => True) (okp:=fun _ => True) ?hr ?hp (fun _ hk => hk) trivial (Below.refl _ _) (Nat.le_refl _) (by simp) ?_;(case hd => rfl);(case hg => rfl);(case hr => first|(go_simp;done)|(go_simp;rfl));(case hp => exact (Reps.none _ _));intro v460 w2 ho3 hb hg_ hnew_;clear hg_ hnew_;(first|rw [← Ny459.out] at ho3|(simp only [Int.reduceToNat] at ho3;rw [← Ny459.out] at ho3));have HO461:=Aside0.mk (Kd.R_lower (Kd.R_newM (M:=fun k_ => (w.heap.size ≤ k_)) ho3 (below_size (qS HB)) (fun k_ h_ => h_)) (below_size (qS HB)));replace HB:=qs HB hb;clear hb ho3))
 go_loopg [3,4] k (fun kq v3 v4 w' => ∃ (x3_1 : List Bool) (x4_1 : Int),v4 = .int .i64 x4_1 ∧ Aside0 (sacristyref01_Of.l0 kq l0 x3_1 x4_1 = some r) ∧ Aside0 (kq ≤ k) ∧ Aside0 (Kd.R Kd.bool 4 w' w.heap.size (fun k_ => (w.heap.size ≤ k_)) v3 x3_1) ∧ Aside0 (Below w.heap.size w w'))
 case atStart => exact ⟨(y459),(wrap64 ((l0.length : Int) - 1)),(by first|rfl|(simp;done)|(simp [*];done)),H',⟨Nat.le_refl _⟩,⟨qRm HO461⟩,⟨qS HB⟩⟩
 case round =>
  clear H'
  try clear c1
  try clear p2
  obtain ⟨x3_1,x4_1,rfl,HA,HK1,HO_3,HB⟩:=hrel
  cases gk with
  |zero => exact absurd HA.out (by simp [sacristyref01_Of.l0])
  |succ k1 =>
   have H:=HA.out
   clear HA
   simp only [sacristyref01_Of.l0] at H
   by_cases c4 : x4_1 ≥ 0
   ·rw [if_pos c4] at H
    have c4b0 : decide (0 ≤ x4_1) = true:=decide_eq_true c4
    clear c4
    have H':=Aside0.mk H
    clear H
    go_wp2
    go_loopg [3,5] k1 (fun kq v3 v5 w' => ∃ (x3_2 : List Bool) (x5_2 : Int),v5 = .int .i64 x5_2 ∧ Aside0 (sacristyref01_Of.l1 kq l0 x3_2 x4_1 x5_2 = some r) ∧ Aside0 (kq ≤ k1) ∧ Aside0 (Kd.R Kd.bool 4 w' w.heap.size (fun k_ => (w.heap.size ≤ k_)) v3 x3_2) ∧ Aside0 (Below w.heap.size w w'))
    case atStart => exact ⟨(x3_1),(0),(by first|rfl|(simp;done)|(simp [*];done)),H',⟨Nat.le_refl _⟩,⟨qRm HO_3⟩,⟨qS HB⟩⟩
    case round =>
     clear H'
     try clear c1
     try clear p2
     try clear c4
     try clear c4b0
     try clear p2
     obtain ⟨x3_2,x5_2,rfl,HA,HK2,HO_3,HB⟩:=hrel
     cases gk with
     |zero => exact absurd HA.out (by simp [sacristyref01_Of.l1])
     |succ k2 =>
      have H:=HA.out
      clear HA
      simp only [sacristyref01_Of.l1] at H
      by_cases c5 : x5_2 < 8
      ·rw [if_pos c5] at H
       have c5b0 : decide (x5_2 < 8) = true:=decide_eq_true c5
       clear c5
       by_cases c6 : 0 ≤ x4_1
       ·rw [if_pos c6] at H
        have c6b0 : decide (0 ≤ x4_1) = true:=decide_eq_true c6
        clear c6
        by_cases c7 : x4_1 < (l0.length : Int)
        ·rw [if_pos c7] at H
         have c7b0 : decide (x4_1 < (l0.length : Int)) = true:=decide_eq_true c7
         clear c7
         by_cases c8 : 0 ≤ x5_2
         ·rw [if_pos c8] at H
          have c8b0:=eq_true c8
          have c8b1 : decide (0 ≤ x5_2) = true:=decide_eq_true c8
          clear c8
          obtain ⟨ji9,hji9⟩ : ∃ j_ : Int,(shr .u8 (rd l0 x4_1) x5_2) = j_:=⟨_,rfl⟩
          (first|rw [hji9] at H|simp only [hji9] at H)
          have hji9_ : ((rd l0 x4_1) / 2 ^ min x5_2.toNat 8) = ji9:=hji9
          have hji9z : x5_2 ≤ 8 → ((rd l0 x4_1) / 2 ^ x5_2.toNat) = ji9:=shr_small hji9
          by_cases c10 : x3_2.length < 140737488355328
          ·rw [if_pos c10] at H
           have LMc10:=Aside0.mk c10
           clear c10
           obtain ⟨y466,hy466⟩ : ∃ y_ : List Bool,y_ = (x3_2 ++ [((Int.tmod (ji9) 2) == 1)]):=⟨_,rfl⟩
           replace H : (sacristyref01_Of.l1 k2 l0 y466 x4_1 (wrap64 (x5_2 + 1))) = some r:=by first|(rw [hy466];with_reducible exact H)|(have H2_:=(Option.bind_some _ _).symm.trans H;rw [hy466];with_reducible exact H2_)|(have H2_:=(Option.bind_some _ _).symm.trans H;with_reducible exact H2_)|with_reducible exact H|(rw [hy466];exact H)|exact H
           have Ny466:=Aside0.mk hy466
           clear hy466
           have H':=Aside0.mk H
           clear H
           have p465 : 0 ≤ (x4_1 : Int):=od
           have q465 : x4_1 < (l0.length : Int):=od
           obtain ⟨ad465,e465,hx465_0⟩:=Kd.at_int HR0.out x4_1 p465 q465
           cases e465
           replace hx465_0:=(HB.out.cell (World.block_lt_of_cell? w _ hx465_0)).trans hx465_0
           replace p465:=eq_true p465
           replace q465:=eq_true q465
           go_wp2_with (first|((with_reducible refine gate_builtin (b:=.append) (xs:=#[.tmp 18,.tmp 27]) rfl ?_);at_builtin;refine Kd.R_append Kd.bool (w0:=w) w.heap.size rfl (.tmp 18) (.tmp 27) 42 4 (.bool false) 1 rfl Try.underlying42 info4 rfl (by decide) (by omega) u3 x3_2 ((Int.tmod (ji9) 2) == 1) [.bool ((Int.tmod (ji9) 2) == 1)] (fun k_ => (w.heap.size ≤ k_)) (fun _ => False) rfl rfl ?aP (fun _ hk => hk.elim) ?aF ?aO ?aB ?aS ?aL ?_;(case aP => exact rfl);(case aB => exact (qS HB));(case aF => exact (fun k_ hk => (Nat.le_trans (below_size (qS HB)) hk)));(case aO => exact (qRm HO_3));(case aS => exact (below_size (qS HB)));(case aL => have:=LMc10.out;omega);intro v467 w11 ho hb hg hat;rw [← Ny466.out] at ho;replace HB:=Aside0.mk (hb);have HO468:=Aside0.mk (ho);(try clear HO_3);clear ho hb hg hat))
           go_roundg k2
           case measure => have:=HK1.out;have:=HK2.out;omega
           case rel => exact ⟨(y466),(wrap64 (x5_2 + 1)),(by first|rfl|(simp;done)|(simp [*];done)),H',⟨by have:=HK1.out;have:=HK2.out;omega⟩,⟨qRm HO468⟩,⟨qS HB⟩⟩
          ·rw [if_neg c10] at H
           exact absurd H (by simp)
         ·rw [if_neg c8] at H
          exact absurd H (by simp)
        ·rw [if_neg c7] at H
         exact absurd H (by simp)
       ·rw [if_neg c6] at H
        exact absurd H (by simp)
      ·rw [if_neg c5] at H
       have c5b0 : decide (x5_2 < 8) = false:=decide_eq_false c5
       clear c5
       have H':=Aside0.mk H
       clear H
       go_wp2
       go_roundg k2
       case measure => have:=HK1.out;have:=HK2.out;omega
       case rel => exact ⟨(x3_2),(wrap64 (x4_1 - 1)),(by first|rfl|(simp;done)|(simp [*];done)),H',⟨by have:=HK1.out;have:=HK2.out;omega⟩,⟨qRm HO_3⟩,⟨qS HB⟩⟩
   ·rw [if_neg c4] at H
    have c4b0 : decide (0 ≤ x4_1) = false:=decide_eq_false c4
    clear c4
    obtain ⟨t462,A12,H⟩:=qH H
    obtain rfl:=Option.some.inj H
    obtain ⟨Ao13,co13,eo13⟩:=Kd.R_slice HO_3.out
    subst eo13
    go_wp2_with (first|((with_reducible refine gate_callee (f:=111) rfl ?_);refine gL (some 30) Try.func111 #[.slice Ao13 x3_1.length co13] ?_;(with_reducible refine (sacristyref01_Trim.calls k1 (fun k_ => some k_ = (.slice Ao13 x3_1.length co13 : Value).ownBlock) _ _ x3_1 t462 _ ?side1 A12.out).mono ?_);(case side1 => exact Kd.R_V (Kd.R_tight rfl (HO_3.out)));rintro e w14 ⟨v463,rfl,ho0,hb⟩;refine ⟨_,rfl,?_⟩;have HO464:=Aside0.mk (Kd.V_lower (Kd.V_mono (ok':=fun k_ => (w.heap.size ≤ k_)) ho0 (fun k_ hk_ => Or.elim hk_ (fun hs_ => ((HO_3.out).1 k_ hs_.symm)) (fun hn_ => (Nat.le_trans (below_size (qS HB)) hn_)))) (below_size (qS HB)));replace HO_3:=qRb HO_3 hb;replace HB:=qs HB hb;clear hb ho0))
    (first|go_ret|(refine ⟨_,results_tmp rfl _ _ _,?_⟩))
    exact ⟨_,by first|rfl|(simp [errW_none,errW_some] <;> rfl)|(simp [*,errW_none,errW_some] <;> rfl),qVm HO464,qS HB⟩
end Go.Proofs.Yteejcpbngnojkaa.P
end
section
namespace Go.Proofs.Yteejcpbngnojkaa.P
open Go.RowKit Go.Proofs.YteejcpbngnojkaaW.PrintWords Go.Proofs.YteejcpbngnojkaaW.PrintLast Go.Proofs.YteejcpbngnojkaaW.PrintMore
attribute [local go_sem] max2_int min2_int max_two min_two max_three min_three max_four min_four
set_option linter.unusedVariables false
set_option linter.unusedSimpArgs false
def sacristylaw01_ref.f (k : Nat) (l0 : List Int) : Option (List Bool):=if 0 ≤ (mn (l0.length : Int) 48) then (if (mn (l0.length : Int) 48) ≤ (l0.length : Int) then ((sacristyref01_Of.f k (l0.take ((mn (l0.length : Int) 48) : Int).toNat)).bind fun t512 => (some t512)) else (none)) else (none)
theorem sacristylaw01_ref.mono : ∀ a0 k,LeO (sacristylaw01_ref.f k a0) (sacristylaw01_ref.f (k + 1) a0):=by
 intro a0 k
 unfold sacristylaw01_ref.f
 repeat' first
   |(with_reducible exact sacristyref01_Of.mono _ _)
   |(with_reducible exact LeO.refl _)
   |(with_reducible exact LeO.none _)
   |(with_reducible refine LeO.ite ?_ ?_)
   |(with_reducible refine LeO.bind ?_ (fun _ => ?_))
   |exact sacristyref01_Of.mono _ _
   |exact LeO.none _
   |refine LeO.ite ?_ ?_
   |refine LeO.bind ?_ (fun _ => ?_)
set_option maxHeartbeats 8000000 in
set_option maxRecDepth 100000 in
theorem sacristylaw01_ref.calls (k : Nat) (A0 : Option Addr) (c0 : Nat) (l0 : List Int) (r : List Bool) (w : World) (hr0 : Kd.C (Kd.int .u8) w A0 l0.length l0) (hc0 : l0.length ≤ c0) (h : sacristylaw01_ref.f k l0 = some r) :
  Calls Try.prog 41 #[.slice A0 l0.length c0] w fun e w' => ∃ v0_ : Value,e = .returned (v0_) ∧ Kd.V Kd.bool 4 w' w.heap.size (fun k_ => (w.heap.size ≤ k_)) v0_ r ∧ Below w.heap.size w w':=by
 have HR0:=Aside0.mk hr0
 have HC0:=Aside0.mk hc0
 clear hr0 hc0
 have HB:=Aside0.mk (Below.refl w.heap.size w)
 have H : (if 0 ≤ (mn (l0.length : Int) 48) then (if (mn (l0.length : Int) 48) ≤ (l0.length : Int) then ((sacristyref01_Of.f k (l0.take ((mn (l0.length : Int) 48) : Int).toNat)).bind fun t512 => (some t512)) else (none)) else (none)) = some r:=h
 clear h
 obtain ⟨ji2,hji2⟩ : ∃ j_ : Int,(mn (l0.length : Int) 48) = j_:=⟨_,rfl⟩
 (first|rw [hji2] at H|simp only [hji2] at H)
 (try (have hji2h : ji2 ≤ 48:=by (rw [← hji2];unfold mn;(repeat' split) <;> omega)))
 (try (have hji2g : ji2 ≤ 64:=by omega))
 (try (have hji2l : 0 ≤ ji2:=by (rw [← hji2];unfold mn;(repeat' split) <;> omega)))
 (try (have hji2m : 0 ≤ ji2:=by omega))
 have hji2_ : (if 48 < (l0.length : Int) then 48 else (l0.length : Int)) = ji2:=hji2
 by_cases c3 : 0 ≤ (ji2)
 ·rw [if_pos c3] at H
  have c3b0:=eq_true c3
  have c3b1 : decide (0 ≤ (ji2)) = true:=decide_eq_true c3
  clear c3
  by_cases c4 : (ji2) ≤ (l0.length : Int)
  ·rw [if_pos c4] at H
   have c4b0:=eq_true c4
   have c4b1 : decide ((ji2) ≤ (l0.length : Int)) = true:=decide_eq_true c4
   clear c4
   obtain ⟨t512,A5,H⟩:=qH H
   obtain rfl:=Option.some.inj H
   obtain ⟨i06,hi06,_,hsz6,_⟩:=info_parts info5
   obtain ⟨hcut6,hA6,hC6⟩:=print_take_of (P:=Try.prog) (Value.int .u8) 0 22 5 .i64 Try.underlying22 hi06 hsz6 A0 c0 l0 (ji2) (od) (od) HC0.out
   have HR511:=Aside0.mk (Kd.C_of_reads (h1:=fun _ => rfl) (hA6 _ (Kd.reads_of_C HR0.out)))
   have HC511:=Aside0.mk hC6
   clear hA6 hC6 hi06 hsz6
   go_enter Try.func41,Try.ntmps41
   go_wp2_with (first|((with_reducible refine gate_callee (f:=101) rfl ?_);refine goesL_ (some 8) rfl rfl Try.func101 (by kernel_rfl) rfl #[.slice A0 (l0.take ((ji2) : Int).toNat).length c0] rfl (by (try simp only [List.map_toArray,List.map_cons,List.map_nil]);first|done|(rw [show (l0.take ((ji2) : Int).toNat).length = (ji2).toNat from (by rw [List.length_take];have h_ : ((ji2) : Int) ≤ (l0.length : Int):=od;omega)] <;> rfl)|(simp only [hji2];rfl)|rfl|(simp only [List.length_drop,List.length_take];rfl)) ?_;(with_reducible refine (sacristyref01_Of.calls k _ _ (l0.take ((ji2) : Int).toNat) t512 _ ?side1 ?side2 A5.out).mono ?_);(case side1 => exact qC HR511);(case side2 => exact HC511.out);rintro e w7 ⟨v513,rfl,ho0,hb⟩;refine ⟨_,rfl,?_⟩;have HO514:=Aside0.mk (Kd.V_lower (Kd.V_mono (ok':=fun k_ => (w.heap.size ≤ k_)) ho0 (fun k_ hk_ => (Nat.le_trans (below_size (qS HB)) hk_))) (below_size (qS HB)));replace HB:=qs HB hb;clear hb ho0))
   (first|go_ret|(refine ⟨_,results_tmp rfl _ _ _,?_⟩))
   exact ⟨_,by first|rfl|(simp [errW_none,errW_some] <;> rfl)|(simp only [← hji2];first|rfl|(simp [errW_none,errW_some] <;> rfl))|(simp [*,errW_none,errW_some] <;> rfl),qVm HO514,qS HB⟩
  ·rw [if_neg c4] at H
   exact absurd H (by simp)
 ·rw [if_neg c3] at H
  exact absurd H (by simp)
end Go.Proofs.Yteejcpbngnojkaa.P
end
section
namespace Go.Proofs.Yteejcpbngnojkaa.P
open Go.RowKit Go.Proofs.YteejcpbngnojkaaW.PrintWords Go.Proofs.YteejcpbngnojkaaW.PrintLast Go.Proofs.YteejcpbngnojkaaW.PrintMore
attribute [local go_sem] max2_int min2_int max_two min_two max_three min_three max_four min_four
set_option linter.unusedVariables false
set_option linter.unusedSimpArgs false
mutual
def nat_Nat_Mul.l0 : Nat → List Int → List Int → Int → Int → List Int → Option (List Int)
 |0,_,_,_,_,_ => none
 |k + 1,x5,x20,x21,x22,x565000 => if x22 < x21 then (if 0 ≤ x22 then (if x22 < (x20.length : Int) then (nat_Nat_Mul.l1 k x5 x22 (rd x20 x22) 0 x20 x21 x22 x565000 (x565000.length : Int) 0 x565000) else (none)) else (none)) else ((nat_trim.f k x5).bind fun t569 => (some t569))
def nat_Nat_Mul.l1 : Nat → List Int → Int → Int → Int → List Int → Int → Int → List Int → Int → Int → List Int → Option (List Int)
 |0,_,_,_,_,_,_,_,_,_,_,_ => none
 |k + 1,x5,x6,x7,x8,x20,x21,x22,x28,x29,x30,x565000 => if x30 < x29 then (if 0 ≤ x30 then (if x30 < (x28.length : Int) then (if 0 ≤ (wrap64 (x6 + x30)) then (if (wrap64 (x6 + x30)) < (x5.length : Int) then (nat_Nat_Mul.l1 k (x5.set ((wrap64 (x6 + x30)) : Int).toNat ((IntKind.u64.wrap (x8 + (IntKind.u64.wrap ((IntKind.u64.wrap ((IntKind.u64.wrap (x7)) * (IntKind.u64.wrap (rd x28 x30)))) + (IntKind.u64.wrap (rd x5 (wrap64 (x6 + x30)))))))) % 4294967296)) x6 x7 ((IntKind.u64.wrap (x8 + (IntKind.u64.wrap ((IntKind.u64.wrap ((IntKind.u64.wrap (x7)) * (IntKind.u64.wrap (rd x28 x30)))) + (IntKind.u64.wrap (rd x5 (wrap64 (x6 + x30)))))))) / 4294967296) x20 x21 x22 x28 x29 (wrap64 (x30 + 1)) x565000) else (none)) else (none)) else (none)) else (none)) else (if 0 ≤ (wrap64 (x6 + (x565000.length : Int))) then (if (wrap64 (x6 + (x565000.length : Int))) < (x5.length : Int) then (nat_Nat_Mul.l0 k (x5.set ((wrap64 (x6 + (x565000.length : Int))) : Int).toNat ((x8) % 4294967296)) x20 x21 (wrap64 (x22 + 1)) x565000) else (none)) else (none))
end
def nat_Nat_Mul.f (k : Nat) (l0_0 : List Int) (l1_0 : List Int) : Option (List Int):=if 0 ≤ (wrap64 ((l0_0.length : Int) + (l1_0.length : Int))) then (if (wrap64 ((l0_0.length : Int) + (l1_0.length : Int)) : Int).toNat ≤ 70368744177664 then (nat_Nat_Mul.l0 k (List.replicate (wrap64 ((l0_0.length : Int) + (l1_0.length : Int)) : Int).toNat 0) l0_0 (l0_0.length : Int) 0 l1_0) else (none)) else (none)
theorem nat_Nat_Mul.mono_l : ∀ k,(∀ y0 y1 y2 y3 y4,LeO (nat_Nat_Mul.l0 k y0 y1 y2 y3 y4) (nat_Nat_Mul.l0 (k + 1) y0 y1 y2 y3 y4)) ∧ (∀ y0 y1 y2 y3 y4 y5 y6 y7 y8 y9 y10,LeO (nat_Nat_Mul.l1 k y0 y1 y2 y3 y4 y5 y6 y7 y8 y9 y10) (nat_Nat_Mul.l1 (k + 1) y0 y1 y2 y3 y4 y5 y6 y7 y8 y9 y10))
 |0 => ⟨fun _ _ _ _ _ r h => by simp [nat_Nat_Mul.l0] at h,fun _ _ _ _ _ _ _ _ _ _ _ r h => by simp [nat_Nat_Mul.l1] at h⟩
 |k + 1 => by
  obtain ⟨ih0,ih1⟩:=nat_Nat_Mul.mono_l k
  refine ⟨?_,?_⟩
  ·intro y0 y1 y2 y3 y4
   unfold nat_Nat_Mul.l0
   repeat' first
   |(with_reducible exact ih0 _ _ _ _ _)
   |(with_reducible exact ih1 _ _ _ _ _ _ _ _ _ _ _)
   |(with_reducible exact nat_trim.mono _ _)
   |(with_reducible exact LeO.refl _)
   |(with_reducible exact LeO.none _)
   |(with_reducible refine LeO.ite ?_ ?_)
   |(with_reducible refine LeO.bind ?_ (fun _ => ?_))
   |exact ih0 _ _ _ _ _
   |exact ih1 _ _ _ _ _ _ _ _ _ _ _
   |exact nat_trim.mono _ _
   |exact LeO.none _
   |refine LeO.ite ?_ ?_
   |refine LeO.bind ?_ (fun _ => ?_)
  ·intro y0 y1 y2 y3 y4 y5 y6 y7 y8 y9 y10
   unfold nat_Nat_Mul.l1
   repeat' first
   |(with_reducible exact ih0 _ _ _ _ _)
   |(with_reducible exact ih1 _ _ _ _ _ _ _ _ _ _ _)
   |(with_reducible exact nat_trim.mono _ _)
   |(with_reducible exact LeO.refl _)
   |(with_reducible exact LeO.none _)
   |(with_reducible refine LeO.ite ?_ ?_)
   |(with_reducible refine LeO.bind ?_ (fun _ => ?_))
   |exact ih0 _ _ _ _ _
   |exact ih1 _ _ _ _ _ _ _ _ _ _ _
   |exact nat_trim.mono _ _
   |exact LeO.none _
   |refine LeO.ite ?_ ?_
   |refine LeO.bind ?_ (fun _ => ?_)
theorem nat_Nat_Mul.mono : ∀ a0 a1 k,LeO (nat_Nat_Mul.f k a0 a1) (nat_Nat_Mul.f (k + 1) a0 a1):=by
 intro a0 a1 k
 obtain ⟨ih0,ih1⟩:=nat_Nat_Mul.mono_l k
 unfold nat_Nat_Mul.f
 repeat' first
   |(with_reducible exact ih0 _ _ _ _ _)
   |(with_reducible exact ih1 _ _ _ _ _ _ _ _ _ _ _)
   |(with_reducible exact nat_trim.mono _ _)
   |(with_reducible exact LeO.refl _)
   |(with_reducible exact LeO.none _)
   |(with_reducible refine LeO.ite ?_ ?_)
   |(with_reducible refine LeO.bind ?_ (fun _ => ?_))
   |exact ih0 _ _ _ _ _
   |exact ih1 _ _ _ _ _ _ _ _ _ _ _
   |exact nat_trim.mono _ _
   |exact LeO.none _
   |refine LeO.ite ?_ ?_
   |refine LeO.bind ?_ (fun _ => ?_)
set_option maxHeartbeats 8000000 in
set_option maxRecDepth 100000 in
theorem nat_Nat_Mul.calls (k : Nat) (A0_0 : Option Addr) (c0_0 : Nat) (l0_0 : List Int) (A1_0 : Option Addr) (c1_0 : Nat) (l1_0 : List Int) (r : List Int) (w : World) (hr0_0 : Kd.C (Kd.int .u32) w A0_0 l0_0.length l0_0) (hc0_0 : l0_0.length ≤ c0_0) (hr1_0 : Kd.C (Kd.int .u32) w A1_0 l1_0.length l1_0) (hc1_0 : l1_0.length ≤ c1_0) (h : nat_Nat_Mul.f k l0_0 l1_0 = some r) :
  Calls Try.prog 57 #[.agg #[.slice A0_0 l0_0.length c0_0],.agg #[.slice A1_0 l1_0.length c1_0]] w fun e w' => ∃ v0_ : Value,e = .returned (.agg #[v0_]) ∧ Kd.V (Kd.int .u32) 23 w' w.heap.size (fun k_ => (w.heap.size ≤ k_)) v0_ r ∧ Below w.heap.size w w':=by
 have hu38:=Try.underlying38
 have HR0_0:=Aside0.mk hr0_0
 have HC0_0:=Aside0.mk hc0_0
 clear hr0_0 hc0_0
 have HR1_0:=Aside0.mk hr1_0
 have HC1_0:=Aside0.mk hc1_0
 clear hr1_0 hc1_0
 have HB:=Aside0.mk (Below.refl w.heap.size w)
 have H : (if 0 ≤ (wrap64 ((l0_0.length : Int) + (l1_0.length : Int))) then (if (wrap64 ((l0_0.length : Int) + (l1_0.length : Int)) : Int).toNat ≤ 70368744177664 then (nat_Nat_Mul.l0 k (List.replicate (wrap64 ((l0_0.length : Int) + (l1_0.length : Int)) : Int).toNat 0) l0_0 (l0_0.length : Int) 0 l1_0) else (none)) else (none)) = some r:=h
 clear h
 obtain ⟨ji3,hji3⟩ : ∃ j_ : Int,(wrap64 ((l0_0.length : Int) + (l1_0.length : Int))) = j_:=⟨_,rfl⟩
 (first|rw [hji3] at H|simp only [hji3] at H)
 have hji3w : (IntKind.i64.wrap ((l0_0.length : Int) + (l1_0.length : Int))) = ji3:=(i64_w _).trans hji3
 by_cases c4 : 0 ≤ (ji3)
 ·rw [if_pos c4] at H
  have c4b0:=eq_true c4
  have c4b1 : decide (0 ≤ (ji3)) = true:=decide_eq_true c4
  clear c4
  by_cases c5 : (ji3 : Int).toNat ≤ 70368744177664
  ·rw [if_pos c5] at H
   have c5b0:=eq_true c5
   have c5b1 : decide ((ji3 : Int).toNat ≤ 70368744177664) = true:=decide_eq_true c5
   clear c5
   obtain ⟨y566,hy566⟩ : ∃ y_ : List Int,y_ = (List.replicate (ji3 : Int).toNat 0):=⟨_,rfl⟩
   replace H : (nat_Nat_Mul.l0 k y566 l0_0 (l0_0.length : Int) 0 l1_0) = some r:=by first|(rw [hy566];with_reducible exact H)|(have H2_:=(Option.bind_some _ _).symm.trans H;rw [hy566];with_reducible exact H2_)|(have H2_:=(Option.bind_some _ _).symm.trans H;with_reducible exact H2_)|with_reducible exact H|(rw [hy566];exact H)|exact H
   have Ny566:=Aside0.mk hy566
   clear hy566
   have H':=Aside0.mk H
   clear H
   go_enter Try.func57,Try.ntmps57
   go_wp2_with (first|((with_reducible refine gate_dst (N:=2) rfl ?_);refine qX #[.slice A0_0 l0_0.length c0_0] 38 ?_;intro gb563 hg w6 hbox hb;have BK563:=Aside0.mk hbox;have GE563:=qh hg HB;replace HB:=qs HB hb;clear hb hbox hg)|((with_reducible refine gate_dst (N:=3) rfl ?_);refine qX #[.slice A1_0 l1_0.length c1_0] 38 ?_;intro gb564 hg w7 hbox hb;have BK564:=Aside0.mk hbox;have GE564:=qh hg HB;replace HB:=qs HB hb;have NB563_564:=ql hg BK563;have NB564_563:=qg hg BK563;replace BK563:=qb BK563 hb;clear hb hbox hg)|((with_reducible refine gate_dst (N:=4) rfl ?_);refine qX #[.slice none 0 0] 38 ?_;intro gb565 hg w8 hbox hb;have BK565:=Aside0.mk hbox;have GE565:=qh hg HB;replace HB:=qs HB hb;have NB563_565:=ql hg BK563;have NB565_563:=qg hg BK563;replace BK563:=qb BK563 hb;have NB564_565:=ql hg BK564;have NB565_564:=qg hg BK564;replace BK564:=qb BK564 hb;clear hb hbox hg;have hnb9:=NB563_564.out;have hnc9:=NB564_563.out;have hnb10:=NB563_565.out;have hnc10:=NB565_563.out;have hcz11_0:=bc BK563;have hfz11_0:=bz BK563;have hnb12:=NB564_565.out;have hnc12:=NB565_564.out;have hcz13_0:=bc BK564;have hfz13_0:=bz BK564)|((with_reducible refine gate_dst (N:=18) rfl ?_);refine Kd.R_make (Kd.int .u32) _ 23 rfl (N:=18) rfl 36 _ _ rfl ji3 rfl rfl Try.underlying36 (.int .u32 0) 4 info23 rfl (by decide) (by omega) 0 (ok:=fun _ => True) (okp:=fun _ => True) rfl (fun _ hk => hk) trivial (od) (Nat.le_trans (Nat.mul_le_mul_right _ (od : ji3.toNat ≤ 70368744177664)) (by omega)) (Below.refl _ _) (Nat.le_refl _) ?_;intro v567 w14 ho15 hb hg_ hnew_;clear hg_ hnew_;(first|rw [← Ny566.out] at ho15|(simp only [Int.reduceToNat] at ho15;rw [← Ny566.out] at ho15));have HO568:=Aside0.mk (Kd.R_lower (Kd.R_newM (M:=fun k_ => (w.heap.size ≤ k_)) ho15 (below_size (qS HB)) (fun k_ h_ => h_)) (below_size (qS HB)));replace BK563:=qb BK563 hb;replace BK564:=qb BK564 hb;replace BK565:=qb BK565 hb;replace HB:=qs HB hb;clear hb ho15;have hcz16_0:=bc BK563;have hfz16_0:=bz BK563))
   go_loopg [22] k (fun kq v22 w' => ∃ (x5_1 : List Int) (x22_1 : Int),v22 = .int .i64 x22_1 ∧ Aside0 (nat_Nat_Mul.l0 kq x5_1 l0_0 (l0_0.length : Int) x22_1 l1_0 = some r) ∧ Aside0 (kq ≤ k) ∧ Aside0 (Kd.R (Kd.int .u32) 23 w' w.heap.size (fun k_ => (w.heap.size ≤ k_)) v567 x5_1) ∧ Aside0 (w'.heap[gb563]? = some (.cells #[(.slice A0_0 l0_0.length c0_0)] 38 (0,0))) ∧ Aside0 (w'.heap[gb564]? = some (.cells #[(.slice A1_0 l1_0.length c1_0)] 38 (0,0))) ∧ Aside0 (w'.heap[gb565]? = some (.cells #[(.slice none 0 0)] 38 (0,0))) ∧ Aside0 (Below w.heap.size w w'))
   case atStart => exact ⟨(y566),(0),(by first|rfl|(simp;done)|(simp [*];done)),H',⟨Nat.le_refl _⟩,⟨qRm HO568⟩,⟨qB BK563.out⟩,⟨qB BK564.out⟩,⟨qB BK565.out⟩,⟨qS HB⟩⟩
   case round =>
    clear H'
    try clear c1
    try clear p2
    try clear c4
    try clear c4b0
    try clear c4b1
    try clear c5
    try clear c5b0
    try clear c5b1
    try clear p6
    try clear c9
    try clear c10
    try clear c12
    try clear hcz11_0
    try clear hcz13_0
    try clear hcz16_0
    try clear hfz11_0
    try clear hfz13_0
    try clear hfz16_0
    obtain ⟨x5_1,x22_1,rfl,HA,HK1,HO_5,BK563,BK564,BK565,HB⟩:=hrel
    cases gk with
    |zero => exact absurd HA.out (by simp [nat_Nat_Mul.l0])
    |succ k1 =>
     have H:=HA.out
     clear HA
     simp only [nat_Nat_Mul.l0] at H
     by_cases c17 : x22_1 < (l0_0.length : Int)
     ·rw [if_pos c17] at H
      have c17b0 : decide (x22_1 < (l0_0.length : Int)) = true:=decide_eq_true c17
      clear c17
      by_cases c18 : 0 ≤ x22_1
      ·rw [if_pos c18] at H
       have c18b0 : decide (0 ≤ x22_1) = true:=decide_eq_true c18
       clear c18
       by_cases c19 : x22_1 < (l0_0.length : Int)
       ·rw [if_pos c19] at H
        have c19b0 : decide (x22_1 < (l0_0.length : Int)) = true:=decide_eq_true c19
        clear c19
        have H':=Aside0.mk H
        clear H
        have p572 : 0 ≤ (x22_1 : Int):=od
        have q572 : x22_1 < (l0_0.length : Int):=od
        obtain ⟨ad572,e572,hx572_0⟩:=Kd.at_int HR0_0.out x22_1 p572 q572
        cases e572
        replace hx572_0:=(HB.out.cell (World.block_lt_of_cell? w _ hx572_0)).trans hx572_0
        replace p572:=eq_true p572
        replace q572:=eq_true q572
        have hnb20:=NB564_563.out
        have hnc20:=NB563_564.out
        have hnb21:=NB564_565.out
        have hnc21:=NB565_564.out
        have hcz22_0 : wr.cell? ⟨gb564,0,none⟩ = some (.slice A1_0 l1_0.length c1_0):=bc BK564
        have hfz22_0:=bz BK564
        go_wp2
        go_loopg [8,30] k1 (fun kq v8 v30 w' => ∃ (x5_2 : List Int) (x8_2 : Int) (x30_2 : Int),v8 = .int .u64 x8_2 ∧ v30 = .int .i64 x30_2 ∧ Aside0 (nat_Nat_Mul.l1 kq x5_2 x22_1 (rd l0_0 x22_1) x8_2 l0_0 (l0_0.length : Int) x22_1 l1_0 (l1_0.length : Int) x30_2 l1_0 = some r) ∧ Aside0 (kq ≤ k1) ∧ Aside0 (Kd.R (Kd.int .u32) 23 w' w.heap.size (fun k_ => (w.heap.size ≤ k_)) v567 x5_2) ∧ Aside0 (w'.heap[gb563]? = some (.cells #[(.slice (some ad572) l0_0.length c0_0)] 38 (0,0))) ∧ Aside0 (w'.heap[gb564]? = some (.cells #[(.slice A1_0 l1_0.length c1_0)] 38 (0,0))) ∧ Aside0 (w'.heap[gb565]? = some (.cells #[(.slice none 0 0)] 38 (0,0))) ∧ Aside0 (Below w.heap.size w w'))
        case atStart => exact ⟨(x5_1),(0),(0),(by first|rfl|(simp;done)|(simp [*];done)),(by first|rfl|(simp;done)|(simp [*];done)),H',⟨Nat.le_refl _⟩,⟨qRm HO_5⟩,⟨qB BK563.out⟩,⟨qB BK564.out⟩,⟨qB BK565.out⟩,⟨qS HB⟩⟩
        case round =>
         clear H'
         try clear c1
         try clear c2
         try clear p2
         try clear c4
         try clear c4b0
         try clear c4b1
         try clear c5
         try clear c5b0
         try clear c5b1
         try clear p5
         try clear q5
         try clear hx5
         try clear p6
         try clear c9
         try clear c10
         try clear c12
         try clear c17
         try clear c17b0
         try clear c18
         try clear c18b0
         try clear c19
         try clear c19b0
         try clear c20
         try clear c21
         try clear hcz11_0
         try clear hcz13_0
         try clear hcz16_0
         try clear hcz22_0
         try clear hfz11_0
         try clear hfz13_0
         try clear hfz16_0
         try clear hfz22_0
         try clear hx572_0
         try clear p2
         try clear p572
         try clear p6
         try clear q572
         obtain ⟨x5_2,x8_2,x30_2,rfl,rfl,HA,HK2,HO_5,BK563,BK564,BK565,HB⟩:=hrel
         cases gk with
         |zero => exact absurd HA.out (by simp [nat_Nat_Mul.l1])
         |succ k2 =>
          have H:=HA.out
          clear HA
          simp only [nat_Nat_Mul.l1] at H
          by_cases c23 : x30_2 < (l1_0.length : Int)
          ·rw [if_pos c23] at H
           have c23b0 : decide (x30_2 < (l1_0.length : Int)) = true:=decide_eq_true c23
           clear c23
           by_cases c24 : 0 ≤ x30_2
           ·rw [if_pos c24] at H
            have c24b0 : decide (0 ≤ x30_2) = true:=decide_eq_true c24
            clear c24
            by_cases c25 : x30_2 < (l1_0.length : Int)
            ·rw [if_pos c25] at H
             have c25b0 : decide (x30_2 < (l1_0.length : Int)) = true:=decide_eq_true c25
             clear c25
             obtain ⟨ji26,hji26⟩ : ∃ j_ : Int,(wrap64 (x22_1 + x30_2)) = j_:=⟨_,rfl⟩
             (first|rw [hji26] at H|simp only [hji26] at H)
             have hji26w : (IntKind.i64.wrap (x22_1 + x30_2)) = ji26:=(i64_w _).trans hji26
             by_cases c27 : 0 ≤ (ji26)
             ·rw [if_pos c27] at H
              have c27b0 : decide (0 ≤ (ji26)) = true:=decide_eq_true c27
              clear c27
              by_cases c28 : (ji26) < (x5_2.length : Int)
              ·rw [if_pos c28] at H
               have c28b0 : decide ((ji26) < (x5_2.length : Int)) = true:=decide_eq_true c28
               clear c28
               obtain ⟨y575,hy575⟩ : ∃ y_ : List Int,y_ = (x5_2.set ((ji26) : Int).toNat ((IntKind.u64.wrap (x8_2 + (IntKind.u64.wrap ((IntKind.u64.wrap ((IntKind.u64.wrap ((rd l0_0 x22_1))) * (IntKind.u64.wrap (rd l1_0 x30_2)))) + (IntKind.u64.wrap (rd x5_2 (ji26))))))) % 4294967296)):=⟨_,rfl⟩
               replace H : (nat_Nat_Mul.l1 k2 y575 x22_1 (rd l0_0 x22_1) ((IntKind.u64.wrap (x8_2 + (IntKind.u64.wrap ((IntKind.u64.wrap ((IntKind.u64.wrap ((rd l0_0 x22_1))) * (IntKind.u64.wrap (rd l1_0 x30_2)))) + (IntKind.u64.wrap (rd x5_2 (ji26))))))) / 4294967296) l0_0 (l0_0.length : Int) x22_1 l1_0 (l1_0.length : Int) (wrap64 (x30_2 + 1)) l1_0) = some r:=by first|(rw [hy575];with_reducible exact H)|(have H2_:=(Option.bind_some _ _).symm.trans H;rw [hy575];with_reducible exact H2_)|(have H2_:=(Option.bind_some _ _).symm.trans H;with_reducible exact H2_)|with_reducible exact H|(rw [hy575];exact H)|exact H
               have Ny575:=Aside0.mk hy575
               clear hy575
               have H':=Aside0.mk H
               clear H
               have p573 : 0 ≤ (x30_2 : Int):=od
               have q573 : x30_2 < (l1_0.length : Int):=od
               obtain ⟨ad573,e573,hx573_0⟩:=Kd.at_int HR1_0.out x30_2 p573 q573
               cases e573
               replace hx573_0:=(HB.out.cell (World.block_lt_of_cell? w _ hx573_0)).trans hx573_0
               replace p573:=eq_true p573
               replace q573:=eq_true q573
               obtain ⟨Ao30,co30,eo30⟩:=Kd.R_slice HO_5.out
               subst eo30
               have p574 : 0 ≤ ((ji26) : Int):=od
               have q574 : (ji26) < (x5_2.length : Int):=od
               obtain ⟨ad574,e574,hx574_0⟩:=Kd.at_int (Kd.R_reads' HO_5.out).2.2 (ji26) p574 q574
               cases e574
               replace p574:=eq_true p574
               replace q574:=eq_true q574
               have p29 : 0 ≤ ((ji26) : Int):=od
               have q29 : ((ji26) : Int) < ((x5_2.length : Int) : Int):=od
               obtain ⟨go29,co29,eo29,gb29,gl29,cl29,HG29⟩:=Kd.R_form HO_5.out (by omega)
               (first|cases eo29|(injection eo29 with ea_ en_ ec_;(first|subst ea_|(injection ea_ with ea_;subst ea_));subst ec_;clear en_))
               have GB29:=Aside0.mk gb29
               have GG29:=Aside0.mk HG29
               clear gb29 gl29 HG29
               (first|simp only [add_plain] at hx574_0|skip)
               obtain ⟨hx29_0,hf29_0⟩:=Kd.R_celln 0 HO_5.out ((ji26) : Int) p29 q29
               replace p29:=eq_true p29
               replace q29:=eq_true q29
               have HP31:=Kd.R_putg HO_5.out ((ji26) : Int) ((IntKind.u64.wrap (x8_2 + (IntKind.u64.wrap ((IntKind.u64.wrap ((IntKind.u64.wrap ((rd l0_0 x22_1))) * (IntKind.u64.wrap (rd l1_0 x30_2)))) + (IntKind.u64.wrap (rd x5_2 (ji26))))))) % 4294967296)
               go_wp2_with (first|((with_reducible refine gate_store (t:=23) (p:=56) rfl ?_);refine qSt (wr.setCell ⟨go29,((ji26) : Int).toNat,none⟩ (.int .u32 ((IntKind.u64.wrap (x8_2 + (IntKind.u64.wrap ((IntKind.u64.wrap ((IntKind.u64.wrap ((rd l0_0 x22_1))) * (IntKind.u64.wrap (rd l1_0 x30_2)))) + (IntKind.u64.wrap (rd x5_2 (ji26))))))) % 4294967296))) ?_;intro w32 hw;have hg : wr.grownBy w32 (some go29):=(by rw [hw];exact HP31.2);have hp_ : Kd.R (Kd.int .u32) 23 w32 w.heap.size (fun k_ => (w.heap.size ≤ k_)) (.slice (some ⟨go29,0,none⟩) x5_2.length co30) y575:=(by rw [hw,Ny575.out];exact HP31.1);clear HP31;replace BK563:=Aside0.mk (blk_grown (g:=gb563) (o:=.cells #[.slice (some ad572) l0_0.length c0_0] 38 (0,0)) (qB BK563.out) hg (Kd.R_ne HO_5.out BK563.out (by decide)));replace BK564:=Aside0.mk (blk_grown (g:=gb564) (o:=.cells #[.slice (some ad573) l1_0.length c1_0] 38 (0,0)) (qB BK564.out) hg (Kd.R_ne HO_5.out BK564.out (by decide)));replace BK565:=Aside0.mk (blk_grown (g:=gb565) (o:=.cells #[.slice none 0 0] 38 (0,0)) (qB BK565.out) hg (Kd.R_ne HO_5.out BK565.out (by decide)));replace HO_5:=Aside0.mk (hp_);replace HB:=Aside0.mk ((by rw [hw];exact below_set (HB.out) GB29.out : Below w.heap.size w w32));clear hg hw hp_))
               go_roundg k2
               case measure => have:=HK1.out;have:=HK2.out;omega
               case rel => exact ⟨(y575),((IntKind.u64.wrap (x8_2 + (IntKind.u64.wrap ((IntKind.u64.wrap ((IntKind.u64.wrap ((rd l0_0 x22_1))) * (IntKind.u64.wrap (rd l1_0 x30_2)))) + (IntKind.u64.wrap (rd x5_2 (ji26))))))) / 4294967296),(wrap64 (x30_2 + 1)),(by first|rfl|(simp;done)|(simp only [← hji26] <;> (first|rfl|simp))|(simp [*];done)),(by first|rfl|(simp;done)|(simp [*];done)),H',⟨by have:=HK1.out;have:=HK2.out;omega⟩,⟨qRm HO_5⟩,⟨qB BK563.out⟩,⟨qB BK564.out⟩,⟨qB BK565.out⟩,⟨qS HB⟩⟩
              ·rw [if_neg c28] at H
               exact absurd H (by simp)
             ·rw [if_neg c27] at H
              exact absurd H (by simp)
            ·rw [if_neg c25] at H
             exact absurd H (by simp)
           ·rw [if_neg c24] at H
            exact absurd H (by simp)
          ·rw [if_neg c23] at H
           have c23b0 : decide (x30_2 < (l1_0.length : Int)) = false:=decide_eq_false c23
           clear c23
           obtain ⟨ji33,hji33⟩ : ∃ j_ : Int,(wrap64 (x22_1 + (l1_0.length : Int))) = j_:=⟨_,rfl⟩
           (first|rw [hji33] at H|simp only [hji33] at H)
           have hji33w : (IntKind.i64.wrap (x22_1 + (l1_0.length : Int))) = ji33:=(i64_w _).trans hji33
           by_cases c34 : 0 ≤ (ji33)
           ·rw [if_pos c34] at H
            have c34b0 : decide (0 ≤ (ji33)) = true:=decide_eq_true c34
            clear c34
            by_cases c35 : (ji33) < (x5_2.length : Int)
            ·rw [if_pos c35] at H
             have c35b0 : decide ((ji33) < (x5_2.length : Int)) = true:=decide_eq_true c35
             clear c35
             obtain ⟨y576,hy576⟩ : ∃ y_ : List Int,y_ = (x5_2.set ((ji33) : Int).toNat ((x8_2) % 4294967296)):=⟨_,rfl⟩
             replace H : (nat_Nat_Mul.l0 k2 y576 l0_0 (l0_0.length : Int) (wrap64 (x22_1 + 1)) l1_0) = some r:=by first|(rw [hy576];with_reducible exact H)|(have H2_:=(Option.bind_some _ _).symm.trans H;rw [hy576];with_reducible exact H2_)|(have H2_:=(Option.bind_some _ _).symm.trans H;with_reducible exact H2_)|with_reducible exact H|(rw [hy576];exact H)|exact H
             have Ny576:=Aside0.mk hy576
             clear hy576
             have H':=Aside0.mk H
             clear H
             have hnb37:=NB564_563.out
             have hnc37:=NB563_564.out
             have hnb38:=NB564_565.out
             have hnc38:=NB565_564.out
             have hcz39_0 : wr.cell? ⟨gb564,0,none⟩ = some (.slice A1_0 l1_0.length c1_0):=bc BK564
             have hfz39_0:=bz BK564
             have p36 : 0 ≤ ((ji33) : Int):=od
             have q36 : ((ji33) : Int) < ((x5_2.length : Int) : Int):=od
             obtain ⟨go36,co36,eo36,gb36,gl36,cl36,HG36⟩:=Kd.R_form HO_5.out (by omega)
             (first|cases eo36|(injection eo36 with ea_ en_ ec_;(first|subst ea_|(injection ea_ with ea_;subst ea_));subst ec_;clear en_))
             have GB36:=Aside0.mk gb36
             have GG36:=Aside0.mk HG36
             clear gb36 gl36 HG36
             obtain ⟨hx36_0,hf36_0⟩:=Kd.R_celln 0 HO_5.out ((ji33) : Int) p36 q36
             replace p36:=eq_true p36
             replace q36:=eq_true q36
             have HP40:=Kd.R_putg HO_5.out ((ji33) : Int) ((x8_2) % 4294967296)
             go_wp2_with (first|((with_reducible refine gate_store (t:=23) (p:=68) rfl ?_);refine qSt (wr.setCell ⟨go36,((ji33) : Int).toNat,none⟩ (.int .u32 ((x8_2) % 4294967296))) ?_;intro w41 hw;have hg : wr.grownBy w41 (some go36):=(by rw [hw];exact HP40.2);have hp_ : Kd.R (Kd.int .u32) 23 w41 w.heap.size (fun k_ => (w.heap.size ≤ k_)) (.slice (some ⟨go36,0,none⟩) x5_2.length co36) y576:=(by rw [hw,Ny576.out];exact HP40.1);clear HP40;replace BK563:=Aside0.mk (blk_grown (g:=gb563) (o:=.cells #[.slice (some ad572) l0_0.length c0_0] 38 (0,0)) (qB BK563.out) hg (Kd.R_ne HO_5.out BK563.out (by decide)));replace BK564:=Aside0.mk (blk_grown (g:=gb564) (o:=.cells #[.slice A1_0 l1_0.length c1_0] 38 (0,0)) (qB BK564.out) hg (Kd.R_ne HO_5.out BK564.out (by decide)));replace BK565:=Aside0.mk (blk_grown (g:=gb565) (o:=.cells #[.slice none 0 0] 38 (0,0)) (qB BK565.out) hg (Kd.R_ne HO_5.out BK565.out (by decide)));replace HO_5:=Aside0.mk (hp_);replace HB:=Aside0.mk ((by rw [hw];exact below_set (HB.out) GB36.out : Below w.heap.size w w41));clear hg hw hp_))
             go_roundg k2
             case measure => have:=HK1.out;have:=HK2.out;omega
             case rel => exact ⟨(y576),(wrap64 (x22_1 + 1)),(by first|rfl|(simp;done)|(simp [*];done)),H',⟨by have:=HK1.out;have:=HK2.out;omega⟩,⟨qRm HO_5⟩,⟨qB BK563.out⟩,⟨qB BK564.out⟩,⟨qB BK565.out⟩,⟨qS HB⟩⟩
            ·rw [if_neg c35] at H
             exact absurd H (by simp)
           ·rw [if_neg c34] at H
            exact absurd H (by simp)
       ·rw [if_neg c19] at H
        exact absurd H (by simp)
      ·rw [if_neg c18] at H
       exact absurd H (by simp)
     ·rw [if_neg c17] at H
      have c17b0 : decide (x22_1 < (l0_0.length : Int)) = false:=decide_eq_false c17
      clear c17
      obtain ⟨t569,A42,H⟩:=qH H
      obtain rfl:=Option.some.inj H
      obtain ⟨Ao43,co43,eo43⟩:=Kd.R_slice HO_5.out
      subst eo43
      go_wp2_with (first|((with_reducible refine gate_callee (f:=100) rfl ?_);refine gL (some 71) Try.func100 #[.slice Ao43 x5_1.length co43] ?_;(with_reducible refine (nat_trim.calls k1 (fun k_ => some k_ = (.slice Ao43 x5_1.length co43 : Value).ownBlock) _ _ x5_1 t569 _ ?side1 A42.out).mono ?_);(case side1 => exact Kd.R_V (Kd.R_tight rfl (Kd.R_types (Kd.R_types (Kd.R_types (HO_5.out) BK563.out (by decide)) BK564.out (by decide)) BK565.out (by decide))));rintro e w44 ⟨v570,rfl,ho0,hb⟩;refine ⟨_,rfl,?_⟩;have HO571:=Aside0.mk (Kd.V_lower (Kd.V_mono (ok':=fun k_ => (w.heap.size ≤ k_) ∧ k_ ≠ gb563 ∧ k_ ≠ gb564 ∧ k_ ≠ gb565) ho0 (fun k_ hk_ => ⟨Or.elim hk_ (fun hs_ => ((Kd.R_types (Kd.R_types (Kd.R_types (HO_5.out) BK563.out (by decide)) BK564.out (by decide)) BK565.out (by decide)).1 k_ hs_.symm).1.1.1) (fun hn_ => (Nat.le_trans (below_size (qS HB)) hn_)),Or.elim hk_ (fun hs_ => ((Kd.R_types (Kd.R_types (Kd.R_types (HO_5.out) BK563.out (by decide)) BK564.out (by decide)) BK565.out (by decide)).1 k_ hs_.symm).1.1.2) (fun hn_ => (Kd.freshB (qB BK563.out) k_ hn_)),Or.elim hk_ (fun hs_ => ((Kd.R_types (Kd.R_types (Kd.R_types (HO_5.out) BK563.out (by decide)) BK564.out (by decide)) BK565.out (by decide)).1 k_ hs_.symm).1.2) (fun hn_ => (Kd.freshB (qB BK564.out) k_ hn_)),Or.elim hk_ (fun hs_ => ((Kd.R_types (Kd.R_types (Kd.R_types (HO_5.out) BK563.out (by decide)) BK564.out (by decide)) BK565.out (by decide)).1 k_ hs_.symm).2) (fun hn_ => (Kd.freshB (qB BK565.out) k_ hn_))⟩)) (below_size (qS HB)));replace HO_5:=qRb HO_5 hb;replace BK563:=qb BK563 hb;replace BK564:=qb BK564 hb;replace BK565:=qb BK565 hb;replace HB:=qs HB hb;clear hb ho0;obtain ⟨Ao45,co45,eo45⟩:=Kd.V_slice HO571.out;subst eo45;have hnb46:=NB565_563.out;have hnc46:=NB563_565.out;have hnb47:=NB565_564.out;have hnc47:=NB564_565.out;have hcz48_0:=bc BK565;have hfz48_0:=bz BK565))
      refine bodyPost_ret (results_cell_row rfl _ _ gb565 38 #[.slice Ao45 t569.length co45] (0,0) _ rfl (by (with_reducible repeat (first|refine blk_drewN ?_ _|refine blk_drew ?_|refine blk_alloc ?_ _));refine blk_put (cs:=#[.slice none 0 0]) ?_ 0 _ rfl;(with_reducible repeat (first|refine blk_drewN ?_ _|refine blk_drew ?_|refine blk_alloc ?_ _));exact BK565.out) Try.underlying38 rfl (by kernel_rfl)) rfl ?_
      exact ⟨_,by first|rfl|(simp [errW_none,errW_some] <;> rfl)|(simp only [← hji3];first|rfl|(simp [errW_none,errW_some] <;> rfl))|(simp [*,errW_none,errW_some] <;> rfl),qVm HO571,qS HB⟩
  ·rw [if_neg c5] at H
   exact absurd H (by simp)
 ·rw [if_neg c4] at H
  exact absurd H (by simp)
end Go.Proofs.Yteejcpbngnojkaa.P
end
section
namespace Go.Proofs.Yteejcpbngnojkaa.P
open Go.RowKit Go.Proofs.YteejcpbngnojkaaW.PrintWords Go.Proofs.YteejcpbngnojkaaW.PrintLast Go.Proofs.YteejcpbngnojkaaW.PrintMore
attribute [local go_sem] max2_int min2_int max_two min_two max_three min_three max_four min_four
set_option linter.unusedVariables false
set_option linter.unusedSimpArgs false
def sacristyref01_Cmp.l0 : Nat → List Bool → List Bool → Int → Option (Int)
 |0,_,_,_ => none
 |k + 1,x0,x1,x5 => if x5 ≥ 0 then (if 0 ≤ x5 then (if x5 < (x0.length : Int) then (if x5 < (x1.length : Int) then (if ((rdOf false x0 x5) != (rdOf false x1 x5)) = true then (if rdOf false x1 x5 = true then (some (-1)) else (some 1)) else (sacristyref01_Cmp.l0 k x0 x1 (wrap64 (x5 - 1)))) else (none)) else (none)) else (none)) else (some 0)
def sacristyref01_Cmp.f (k : Nat) (l0 : List Bool) (l1 : List Bool) : Option (Int):=if (l0.length : Int) < (l1.length : Int) then (some (-1)) else (if (l0.length : Int) > (l1.length : Int) then (some 1) else (sacristyref01_Cmp.l0 k l0 l1 (wrap64 ((l0.length : Int) - 1))))
theorem sacristyref01_Cmp.mono_l : ∀ k,(∀ y0 y1 y2,LeO (sacristyref01_Cmp.l0 k y0 y1 y2) (sacristyref01_Cmp.l0 (k + 1) y0 y1 y2))
 |0 => fun _ _ _ r h => by simp [sacristyref01_Cmp.l0] at h
 |k + 1 => by
  have ih0:=sacristyref01_Cmp.mono_l k
  ·intro y0 y1 y2
   unfold sacristyref01_Cmp.l0
   repeat' first
   |(with_reducible exact ih0 _ _ _)
   |(with_reducible exact LeO.refl _)
   |(with_reducible exact LeO.none _)
   |(with_reducible refine LeO.ite ?_ ?_)
   |(with_reducible refine LeO.bind ?_ (fun _ => ?_))
   |exact ih0 _ _ _
   |exact LeO.none _
   |refine LeO.ite ?_ ?_
   |refine LeO.bind ?_ (fun _ => ?_)
theorem sacristyref01_Cmp.mono : ∀ a0 a1 k,LeO (sacristyref01_Cmp.f k a0 a1) (sacristyref01_Cmp.f (k + 1) a0 a1):=by
 intro a0 a1 k
 have ih0:=sacristyref01_Cmp.mono_l k
 unfold sacristyref01_Cmp.f
 repeat' first
   |(with_reducible exact ih0 _ _ _)
   |(with_reducible exact LeO.refl _)
   |(with_reducible exact LeO.none _)
   |(with_reducible refine LeO.ite ?_ ?_)
   |(with_reducible refine LeO.bind ?_ (fun _ => ?_))
   |exact ih0 _ _ _
   |exact LeO.none _
   |refine LeO.ite ?_ ?_
   |refine LeO.bind ?_ (fun _ => ?_)
set_option maxHeartbeats 8000000 in
set_option maxRecDepth 100000 in
theorem sacristyref01_Cmp.calls (k : Nat) (A0 : Option Addr) (c0 : Nat) (l0 : List Bool) (A1 : Option Addr) (c1 : Nat) (l1 : List Bool) (r : Int) (w : World) (hr0 : Kd.C Kd.bool w A0 l0.length l0) (hc0 : l0.length ≤ c0) (hr1 : Kd.C Kd.bool w A1 l1.length l1) (hc1 : l1.length ≤ c1) (h : sacristyref01_Cmp.f k l0 l1 = some r) :
  Calls Try.prog 46 #[.slice A0 l0.length c0,.slice A1 l1.length c1] w fun e w' => e = .returned (.int .i64 r) ∧ Drawn0 w w':=by
 have HR0:=Aside0.mk hr0
 have HC0:=Aside0.mk hc0
 clear hr0 hc0
 have HR1:=Aside0.mk hr1
 have HC1:=Aside0.mk hc1
 clear hr1 hc1
 have H : (if (l0.length : Int) < (l1.length : Int) then (some (-1)) else (if (l0.length : Int) > (l1.length : Int) then (some 1) else (sacristyref01_Cmp.l0 k l0 l1 (wrap64 ((l0.length : Int) - 1))))) = some r:=h
 clear h
 by_cases c3 : (l0.length : Int) < (l1.length : Int)
 ·rw [if_pos c3] at H
  have c3b0 : decide ((l0.length : Int) < (l1.length : Int)) = true:=decide_eq_true c3
  have c3b1 : decide (l0.length < l1.length) = true:=decide_eq_true (Int.ofNat_lt.mp c3)
  clear c3
  obtain rfl:=Option.some.inj H
  go_enter Try.func46,Try.ntmps46
  go_wp2
  repeat (go_quiet (fail);try go_wp2)
  (first|go_ret|(refine ⟨_,results_tmp rfl _ _ _,?_⟩))
  exact ⟨by first|rfl|(simp;done)|(simp [*];done),by repeat (first|exact Drawn0.refl _|apply Drawn0.step)⟩
 ·rw [if_neg c3] at H
  have c3b0 : decide ((l0.length : Int) < (l1.length : Int)) = false:=decide_eq_false c3
  have c3b1 : decide (l0.length < l1.length) = false:=decide_eq_false (fun h => c3 (Int.ofNat_lt.mpr h))
  clear c3
  by_cases c4 : (l0.length : Int) > (l1.length : Int)
  ·rw [if_pos c4] at H
   have c4b0 : decide ((l1.length : Int) < (l0.length : Int)) = true:=decide_eq_true c4
   have c4b1 : decide (l1.length < l0.length) = true:=decide_eq_true (Int.ofNat_lt.mp c4)
   clear c4
   obtain rfl:=Option.some.inj H
   go_enter Try.func46,Try.ntmps46
   go_wp2
   repeat (go_quiet (fail);try go_wp2)
   (first|go_ret|(refine ⟨_,results_tmp rfl _ _ _,?_⟩))
   exact ⟨by first|rfl|(simp;done)|(simp [*];done),by repeat (first|exact Drawn0.refl _|apply Drawn0.step)⟩
  ·rw [if_neg c4] at H
   have c4b0 : decide ((l1.length : Int) < (l0.length : Int)) = false:=decide_eq_false c4
   have c4b1 : decide (l1.length < l0.length) = false:=decide_eq_false (fun h => c4 (Int.ofNat_lt.mpr h))
   clear c4
   have H':=Aside0.mk H
   clear H
   go_enter Try.func46,Try.ntmps46
   go_wp2
   repeat (go_quiet (fail);try go_wp2)
   go_loopg [5] k (fun kq v5 w' => ∃ (x5_1 : Int),v5 = .int .i64 x5_1 ∧ Aside0 (sacristyref01_Cmp.l0 kq l0 l1 x5_1 = some r) ∧ Aside0 (kq ≤ k) ∧ Drawn0 w w')
   case atStart => exact ⟨(wrap64 ((l0.length : Int) - 1)),(by first|rfl|(simp;done)|(simp [*];done)),H',⟨Nat.le_refl _⟩,by repeat (first|exact Drawn0.refl _|apply Drawn0.step)⟩
   case round =>
    clear H'
    try clear c1
    try clear p2
    try clear c3
    try clear c3b0
    try clear c3b1
    try clear c4
    try clear c4b0
    try clear c4b1
    obtain ⟨x5_1,rfl,HA,HK1,⟨m1,rfl⟩⟩:=hrel
    cases gk with
    |zero => exact absurd HA.out (by simp [sacristyref01_Cmp.l0])
    |succ k1 =>
     have H:=HA.out
     clear HA
     simp only [sacristyref01_Cmp.l0] at H
     by_cases c5 : x5_1 ≥ 0
     ·rw [if_pos c5] at H
      have c5b0 : decide (0 ≤ x5_1) = true:=decide_eq_true c5
      clear c5
      by_cases c6 : 0 ≤ x5_1
      ·rw [if_pos c6] at H
       have c6b0 : decide (0 ≤ x5_1) = true:=decide_eq_true c6
       clear c6
       by_cases c7 : x5_1 < (l0.length : Int)
       ·rw [if_pos c7] at H
        have c7b0 : decide (x5_1 < (l0.length : Int)) = true:=decide_eq_true c7
        clear c7
        by_cases c8 : x5_1 < (l1.length : Int)
        ·rw [if_pos c8] at H
         have c8b0 : decide (x5_1 < (l1.length : Int)) = true:=decide_eq_true c8
         clear c8
         by_cases c9 : ((rdOf false l0 x5_1) != (rdOf false l1 x5_1)) = true
         ·rw [if_pos c9] at H
          have c9b0 : ((rdOf false l0 x5_1) != (rdOf false l1 x5_1)) = true:=c9
          (try (have c9b1 : decide ((rdOf false l0 x5_1) = (rdOf false l1 x5_1)) = false:=by simpa using c9))
          (try (have c9b2 : ((rdOf false l0 x5_1) == (rdOf false l1 x5_1)) = false:=by simpa using c9))
          (try (have c9b3 : ¬ ((rdOf false l0 x5_1) = (rdOf false l1 x5_1)):=by simpa using c9))
          clear c9
          obtain ⟨bq10,hbq10⟩ : ∃ b_ : Bool,b_ = (rdOf false l1 x5_1):=⟨_,rfl⟩
          replace H : (if bq10 = true then (some (-1)) else (some 1)) = some r:=by rw [← hbq10] at H;exact H
          have Nbq10:=Aside0.mk hbq10
          clear hbq10
          by_cases c11 : bq10 = true
          ·subst c11
           rw [if_pos rfl] at H
           obtain rfl:=Option.some.inj H
           have p517 : 0 ≤ (x5_1 : Int):=od
           have q517 : x5_1 < (l0.length : Int):=od
           obtain ⟨ad517,e517,hx517_0⟩:=Kd.at_bool HR0.out x5_1 p517 q517
           (try rw [← Nbq10.out] at hx517_0)
           cases e517
           replace p517:=eq_true p517
           replace q517:=eq_true q517
           have p518 : 0 ≤ (x5_1 : Int):=od
           have q518 : x5_1 < (l1.length : Int):=od
           obtain ⟨ad518,e518,hx518_0⟩:=Kd.at_bool HR1.out x5_1 p518 q518
           (try rw [← Nbq10.out] at hx518_0)
           cases e518
           replace p518:=eq_true p518
           replace q518:=eq_true q518
           have p519 : 0 ≤ (x5_1 : Int):=od
           have q519 : x5_1 < (l1.length : Int):=od
           obtain ⟨ad519,e519,hx519_0⟩:=Kd.at_bool HR1.out x5_1 p519 q519
           (try rw [← Nbq10.out] at hx519_0)
           obtain rfl : ad518 = ad519:=(by injection e519)
           replace p519:=eq_true p519
           replace q519:=eq_true q519
           have hz:=c9b0
           rw [← Nbq10.out] at hz
           have hz2 : rdOf false l0 x5_1 = false:=by simpa using hz
           rw [hz2] at hx517_0
           clear hz hz2 c9b0 c9b1 c9b2 c9b3
           go_wp2
           repeat (go_quiet (fail);try go_wp2)
           (first|go_ret|(refine ⟨_,results_tmp rfl _ _ _,?_⟩))
           exact ⟨by first|rfl|(simp;done)|(simp [*];done),by repeat (first|exact Drawn0.refl _|apply Drawn0.step)⟩
          ·replace c11:=Bool.eq_false_iff.mpr c11
           subst c11
           rw [qFT] at H
           obtain rfl:=Option.some.inj H
           have p517 : 0 ≤ (x5_1 : Int):=od
           have q517 : x5_1 < (l0.length : Int):=od
           obtain ⟨ad517,e517,hx517_0⟩:=Kd.at_bool HR0.out x5_1 p517 q517
           (try rw [← Nbq10.out] at hx517_0)
           cases e517
           replace p517:=eq_true p517
           replace q517:=eq_true q517
           have p518 : 0 ≤ (x5_1 : Int):=od
           have q518 : x5_1 < (l1.length : Int):=od
           obtain ⟨ad518,e518,hx518_0⟩:=Kd.at_bool HR1.out x5_1 p518 q518
           (try rw [← Nbq10.out] at hx518_0)
           cases e518
           replace p518:=eq_true p518
           replace q518:=eq_true q518
           have p519 : 0 ≤ (x5_1 : Int):=od
           have q519 : x5_1 < (l1.length : Int):=od
           obtain ⟨ad519,e519,hx519_0⟩:=Kd.at_bool HR1.out x5_1 p519 q519
           (try rw [← Nbq10.out] at hx519_0)
           obtain rfl : ad518 = ad519:=(by injection e519)
           replace p519:=eq_true p519
           replace q519:=eq_true q519
           have hz:=c9b0
           rw [← Nbq10.out] at hz
           have hz2 : rdOf false l0 x5_1 = true:=by simpa using hz
           rw [hz2] at hx517_0
           clear hz hz2 c9b0 c9b1 c9b2 c9b3
           go_wp2
           repeat (go_quiet (fail);try go_wp2)
           (first|go_ret|(refine ⟨_,results_tmp rfl _ _ _,?_⟩))
           exact ⟨by first|rfl|(simp;done)|(simp [*];done),by repeat (first|exact Drawn0.refl _|apply Drawn0.step)⟩
         ·rw [if_neg c9] at H
          have c9b0 : ((rdOf false l0 x5_1) != (rdOf false l1 x5_1)) = false:=by simpa using c9
          (try (have c9b1 : decide ((rdOf false l0 x5_1) = (rdOf false l1 x5_1)) = true:=by simpa using c9))
          (try (have c9b2 : ((rdOf false l0 x5_1) == (rdOf false l1 x5_1)) = true:=by simpa using c9))
          clear c9
          have H':=Aside0.mk H
          clear H
          have p517 : 0 ≤ (x5_1 : Int):=od
          have q517 : x5_1 < (l0.length : Int):=od
          obtain ⟨ad517,e517,hx517_0⟩:=Kd.at_bool HR0.out x5_1 p517 q517
          cases e517
          replace p517:=eq_true p517
          replace q517:=eq_true q517
          have p518 : 0 ≤ (x5_1 : Int):=od
          have q518 : x5_1 < (l1.length : Int):=od
          obtain ⟨ad518,e518,hx518_0⟩:=Kd.at_bool HR1.out x5_1 p518 q518
          cases e518
          replace p518:=eq_true p518
          replace q518:=eq_true q518
          go_wp2
          repeat (go_quiet (fail);try go_wp2)
          go_roundg k1
          case measure => have:=HK1.out;omega
          case rel => exact ⟨(wrap64 (x5_1 - 1)),(by first|rfl|(simp;done)|(simp [*];done)),H',⟨by have:=HK1.out;omega⟩,by repeat (first|exact Drawn0.refl _|apply Drawn0.step)⟩
        ·rw [if_neg c8] at H
         exact absurd H (by simp)
       ·rw [if_neg c7] at H
        exact absurd H (by simp)
      ·rw [if_neg c6] at H
       exact absurd H (by simp)
     ·rw [if_neg c5] at H
      have c5b0 : decide (0 ≤ x5_1) = false:=decide_eq_false c5
      clear c5
      obtain rfl:=Option.some.inj H
      go_wp2
      repeat (go_quiet (fail);try go_wp2)
      (first|go_ret|(refine ⟨_,results_tmp rfl _ _ _,?_⟩))
      exact ⟨by first|rfl|(simp;done)|(simp [*];done),by repeat (first|exact Drawn0.refl _|apply Drawn0.step)⟩
end Go.Proofs.Yteejcpbngnojkaa.P
end
section
namespace Go.Proofs.Yteejcpbngnojkaa.P
open Go.RowKit Go.Proofs.YteejcpbngnojkaaW.PrintWords Go.Proofs.YteejcpbngnojkaaW.PrintLast Go.Proofs.YteejcpbngnojkaaW.PrintMore
attribute [local go_sem] max2_int min2_int max_two min_two max_three min_three max_four min_four
set_option linter.unusedVariables false
set_option linter.unusedSimpArgs false
def sacristyref01_at.f (l0 : List Bool) (a1 : Int) : Option (Int):=if a1 ≥ 0 then (if a1 < (l0.length : Int) then (if 0 ≤ a1 then (if rdOf false l0 a1 = true then (some 1) else (some 0)) else (none)) else (some 0)) else (some 0)
set_option maxHeartbeats 8000000 in
set_option maxRecDepth 100000 in
theorem sacristyref01_at.calls (A0 : Option Addr) (c0 : Nat) (l0 : List Bool) (a1 : Int) (r : Int) (w : World) (hr0 : Kd.C Kd.bool w A0 l0.length l0) (hc0 : l0.length ≤ c0) (h : sacristyref01_at.f l0 a1 = some r) :
  Calls Try.prog 112 #[.slice A0 l0.length c0,.int .i64 a1] w fun e w' => e = .returned (.int .i64 r) ∧ Drawn0 w w':=by
 have HR0:=Aside0.mk hr0
 have HC0:=Aside0.mk hc0
 clear hr0 hc0
 have H : (if a1 ≥ 0 then (if a1 < (l0.length : Int) then (if 0 ≤ a1 then (if rdOf false l0 a1 = true then (some 1) else (some 0)) else (none)) else (some 0)) else (some 0)) = some r:=h
 clear h
 by_cases c3 : a1 ≥ 0
 ·rw [if_pos c3] at H
  have c3b0 : decide (0 ≤ a1) = true:=decide_eq_true c3
  clear c3
  by_cases c4 : a1 < (l0.length : Int)
  ·rw [if_pos c4] at H
   have c4b0 : decide (a1 < (l0.length : Int)) = true:=decide_eq_true c4
   clear c4
   by_cases c5 : 0 ≤ a1
   ·rw [if_pos c5] at H
    have c5b0 : decide (0 ≤ a1) = true:=decide_eq_true c5
    clear c5
    obtain ⟨bq6,hbq6⟩ : ∃ b_ : Bool,b_ = (rdOf false l0 a1):=⟨_,rfl⟩
    replace H : (if bq6 = true then (some 1) else (some 0)) = some r:=by rw [← hbq6] at H;exact H
    have Nbq6:=Aside0.mk hbq6
    clear hbq6
    by_cases c7 : bq6 = true
    ·subst c7
     rw [if_pos rfl] at H
     obtain rfl:=Option.some.inj H
     have p731 : 0 ≤ (a1 : Int):=od
     have q731 : a1 < (l0.length : Int):=od
     obtain ⟨ad731,e731,hx731_0⟩:=Kd.at_bool HR0.out a1 p731 q731
     (try rw [← Nbq6.out] at hx731_0)
     cases e731
     replace p731:=eq_true p731
     replace q731:=eq_true q731
     go_enter Try.func112,Try.ntmps112
     go_wp2
     (first|go_ret|(refine ⟨_,results_tmp rfl _ _ _,?_⟩))
     exact ⟨by first|rfl|(simp;done)|(simp [*];done),by repeat (first|exact Drawn0.refl _|apply Drawn0.step)⟩
    ·replace c7:=Bool.eq_false_iff.mpr c7
     subst c7
     rw [qFT] at H
     obtain rfl:=Option.some.inj H
     have p731 : 0 ≤ (a1 : Int):=od
     have q731 : a1 < (l0.length : Int):=od
     obtain ⟨ad731,e731,hx731_0⟩:=Kd.at_bool HR0.out a1 p731 q731
     (try rw [← Nbq6.out] at hx731_0)
     cases e731
     replace p731:=eq_true p731
     replace q731:=eq_true q731
     go_enter Try.func112,Try.ntmps112
     go_wp2
     (first|go_ret|(refine ⟨_,results_tmp rfl _ _ _,?_⟩))
     exact ⟨by first|rfl|(simp;done)|(simp [*];done),by repeat (first|exact Drawn0.refl _|apply Drawn0.step)⟩
   ·rw [if_neg c5] at H
    exact absurd H (by simp)
  ·rw [if_neg c4] at H
   have c4b0 : decide (a1 < (l0.length : Int)) = false:=decide_eq_false c4
   clear c4
   obtain rfl:=Option.some.inj H
   go_enter Try.func112,Try.ntmps112
   go_wp2
   (first|go_ret|(refine ⟨_,results_tmp rfl _ _ _,?_⟩))
   exact ⟨by first|rfl|(simp;done)|(simp [*];done),by repeat (first|exact Drawn0.refl _|apply Drawn0.step)⟩
 ·rw [if_neg c3] at H
  have c3b0 : decide (0 ≤ a1) = false:=decide_eq_false c3
  clear c3
  obtain rfl:=Option.some.inj H
  go_enter Try.func112,Try.ntmps112
  go_wp2
  (first|go_ret|(refine ⟨_,results_tmp rfl _ _ _,?_⟩))
  exact ⟨by first|rfl|(simp;done)|(simp [*];done),by repeat (first|exact Drawn0.refl _|apply Drawn0.step)⟩
end Go.Proofs.Yteejcpbngnojkaa.P
end
section
namespace Go.Proofs.Yteejcpbngnojkaa.P
open Go.RowKit Go.Proofs.YteejcpbngnojkaaW.PrintWords Go.Proofs.YteejcpbngnojkaaW.PrintLast Go.Proofs.YteejcpbngnojkaaW.PrintMore
attribute [local go_sem] max2_int min2_int max_two min_two max_three min_three max_four min_four
set_option linter.unusedVariables false
set_option linter.unusedSimpArgs false
def sacristyref01_Sub.l0 : Nat → List Bool → List Bool → List Bool → Int → Int → Option (List Bool)
 |0,_,_,_,_,_ => none
 |k + 1,x0,x1,x5,x6,x7 => if x7 < (x0.length : Int) then ((sacristyref01_at.f x0 x7).bind fun t738 => ((sacristyref01_at.f x1 x7).bind fun t739 => (if (wrap64 ((wrap64 (t738 - t739)) - x6)) < 0 then (if x5.length < 140737488355328 then (sacristyref01_Sub.l0 k x0 x1 (x5 ++ [((wrap64 ((wrap64 ((wrap64 (t738 - t739)) - x6)) + 2)) == 1)]) 1 (wrap64 (x7 + 1))) else (none)) else (if x5.length < 140737488355328 then (sacristyref01_Sub.l0 k x0 x1 (x5 ++ [((wrap64 ((wrap64 (t738 - t739)) - x6)) == 1)]) 0 (wrap64 (x7 + 1))) else (none))))) else ((sacristyref01_Trim.f k x5).bind fun t735 => (some t735))
def sacristyref01_Sub.f (k : Nat) (l0 : List Bool) (l1 : List Bool) : Option (List Bool):=sacristyref01_Sub.l0 k l0 l1 (([] : List Bool)) 0 0
theorem sacristyref01_Sub.mono_l : ∀ k,(∀ y0 y1 y2 y3 y4,LeO (sacristyref01_Sub.l0 k y0 y1 y2 y3 y4) (sacristyref01_Sub.l0 (k + 1) y0 y1 y2 y3 y4))
 |0 => fun _ _ _ _ _ r h => by simp [sacristyref01_Sub.l0] at h
 |k + 1 => by
  have ih0:=sacristyref01_Sub.mono_l k
  ·intro y0 y1 y2 y3 y4
   unfold sacristyref01_Sub.l0
   repeat' first
   |(with_reducible exact ih0 _ _ _ _ _)
   |(with_reducible exact sacristyref01_Trim.mono _ _)
   |(with_reducible exact LeO.refl _)
   |(with_reducible exact LeO.none _)
   |(with_reducible refine LeO.ite ?_ ?_)
   |(with_reducible refine LeO.bind ?_ (fun _ => ?_))
   |exact ih0 _ _ _ _ _
   |exact sacristyref01_Trim.mono _ _
   |exact LeO.none _
   |refine LeO.ite ?_ ?_
   |refine LeO.bind ?_ (fun _ => ?_)
theorem sacristyref01_Sub.mono : ∀ a0 a1 k,LeO (sacristyref01_Sub.f k a0 a1) (sacristyref01_Sub.f (k + 1) a0 a1):=by
 intro a0 a1 k
 have ih0:=sacristyref01_Sub.mono_l k
 unfold sacristyref01_Sub.f
 repeat' first
   |(with_reducible exact ih0 _ _ _ _ _)
   |(with_reducible exact sacristyref01_Trim.mono _ _)
   |(with_reducible exact LeO.refl _)
   |(with_reducible exact LeO.none _)
   |(with_reducible refine LeO.ite ?_ ?_)
   |(with_reducible refine LeO.bind ?_ (fun _ => ?_))
   |exact ih0 _ _ _ _ _
   |exact sacristyref01_Trim.mono _ _
   |exact LeO.none _
   |refine LeO.ite ?_ ?_
   |refine LeO.bind ?_ (fun _ => ?_)
set_option maxHeartbeats 8000000 in
set_option maxRecDepth 100000 in
theorem sacristyref01_Sub.calls (k : Nat) (A0 : Option Addr) (c0 : Nat) (l0 : List Bool) (A1 : Option Addr) (c1 : Nat) (l1 : List Bool) (r : List Bool) (w : World) (hr0 : Kd.C Kd.bool w A0 l0.length l0) (hc0 : l0.length ≤ c0) (hr1 : Kd.C Kd.bool w A1 l1.length l1) (hc1 : l1.length ≤ c1) (h : sacristyref01_Sub.f k l0 l1 = some r) :
  Calls Try.prog 63 #[.slice A0 l0.length c0,.slice A1 l1.length c1] w fun e w' => ∃ v0_ : Value,e = .returned (v0_) ∧ Kd.V Kd.bool 4 w' w.heap.size (fun k_ => (w.heap.size ≤ k_)) v0_ r ∧ Below w.heap.size w w':=by
 have HR0:=Aside0.mk hr0
 have HC0:=Aside0.mk hc0
 clear hr0 hc0
 have HR1:=Aside0.mk hr1
 have HC1:=Aside0.mk hc1
 clear hr1 hc1
 have HB:=Aside0.mk (Below.refl w.heap.size w)
 have H : (sacristyref01_Sub.l0 k l0 l1 (([] : List Bool)) 0 0) = some r:=h
 clear h
 obtain ⟨y732,hy732⟩ : ∃ y_ : List Bool,y_ = (([] : List Bool)):=⟨_,rfl⟩
 replace H : (sacristyref01_Sub.l0 k l0 l1 y732 0 0) = some r:=by first|(rw [hy732];with_reducible exact H)|(have H2_:=(Option.bind_some _ _).symm.trans H;rw [hy732];with_reducible exact H2_)|(have H2_:=(Option.bind_some _ _).symm.trans H;with_reducible exact H2_)|with_reducible exact H|(rw [hy732];exact H)|exact H
 have Ny732:=Aside0.mk hy732
 clear hy732
 have H':=Aside0.mk H
 clear H
 go_enter Try.func63,Try.ntmps63
 go_wp2_with (first|((with_reducible refine gate_dst (N:=9) rfl ?_);refine Kd.R_lit Kd.bool _ 4 ?hg (N:=9) ?hd (xs:=([] : List Bool)) (inner:=[]) (ok:=fun _ => True) (okp:=fun _ => True) ?hr ?hp (fun _ hk => hk) trivial (Below.refl _ _) (Nat.le_refl _) (by simp) ?_;(case hd => rfl);(case hg => rfl);(case hr => first|(go_simp;done)|(go_simp;rfl));(case hp => exact (Reps.none _ _));intro v733 w3 ho4 hb hg_ hnew_;clear hg_ hnew_;(first|rw [← Ny732.out] at ho4|(simp only [Int.reduceToNat] at ho4;rw [← Ny732.out] at ho4));have HO734:=Aside0.mk (Kd.R_lower (Kd.R_newM (M:=fun k_ => (w.heap.size ≤ k_)) ho4 (below_size (qS HB)) (fun k_ h_ => h_)) (below_size (qS HB)));replace HB:=qs HB hb;clear hb ho4))
 go_loopg [5,6,7] k (fun kq v5 v6 v7 w' => ∃ (x5_1 : List Bool) (x6_1 : Int) (x7_1 : Int),v6 = .int .i64 x6_1 ∧ v7 = .int .i64 x7_1 ∧ Aside0 (sacristyref01_Sub.l0 kq l0 l1 x5_1 x6_1 x7_1 = some r) ∧ Aside0 (kq ≤ k) ∧ Aside0 (Kd.R Kd.bool 4 w' w.heap.size (fun k_ => (w.heap.size ≤ k_)) v5 x5_1) ∧ Aside0 (Below w.heap.size w w'))
 case atStart => exact ⟨(y732),(0),(0),(by first|rfl|(simp;done)|(simp [*];done)),(by first|rfl|(simp;done)|(simp [*];done)),H',⟨Nat.le_refl _⟩,⟨qRm HO734⟩,⟨qS HB⟩⟩
 case round =>
  clear H'
  try clear c1
  try clear p2
  obtain ⟨x5_1,x6_1,x7_1,rfl,rfl,HA,HK1,HO_5,HB⟩:=hrel
  cases gk with
  |zero => exact absurd HA.out (by simp [sacristyref01_Sub.l0])
  |succ k1 =>
   have H:=HA.out
   clear HA
   simp only [sacristyref01_Sub.l0] at H
   by_cases c5 : x7_1 < (l0.length : Int)
   ·rw [if_pos c5] at H
    have c5b0 : decide (x7_1 < (l0.length : Int)) = true:=decide_eq_true c5
    clear c5
    obtain ⟨t738,A6,H⟩:=qH H
    obtain ⟨t739,A7,H⟩:=qH H
    by_cases c8 : (wrap64 ((wrap64 (t738 - t739)) - x6_1)) < 0
    ·rw [if_pos c8] at H
     have c8b0 : decide ((wrap64 ((wrap64 (t738 - t739)) - x6_1)) < 0) = true:=decide_eq_true c8
     clear c8
     by_cases c9 : x5_1.length < 140737488355328
     ·rw [if_pos c9] at H
      have LMc9:=Aside0.mk c9
      clear c9
      obtain ⟨y740,hy740⟩ : ∃ y_ : List Bool,y_ = (x5_1 ++ [((wrap64 ((wrap64 ((wrap64 (t738 - t739)) - x6_1)) + 2)) == 1)]):=⟨_,rfl⟩
      replace H : (sacristyref01_Sub.l0 k1 l0 l1 y740 1 (wrap64 (x7_1 + 1))) = some r:=by first|(rw [hy740];with_reducible exact H)|(have H2_:=(Option.bind_some _ _).symm.trans H;rw [hy740];with_reducible exact H2_)|(have H2_:=(Option.bind_some _ _).symm.trans H;with_reducible exact H2_)|with_reducible exact H|(rw [hy740];exact H)|exact H
      have Ny740:=Aside0.mk hy740
      clear hy740
      have H':=Aside0.mk H
      clear H
      go_wp2_with (first|((with_reducible refine gate_callee (f:=112) rfl ?_);refine gL (some 18) Try.func112 #[.slice A0 l0.length c0,.int .i64 x7_1] ?_;(with_reducible refine (sacristyref01_at.calls _ _ l0 x7_1 t738 _ ?side1 ?side2 A6.out).mono ?_);(case side1 => exact qCB HR0 HB);(case side2 => exact HC0.out);rintro e w' ⟨rfl,⟨nd,rfl⟩⟩;refine ⟨_,rfl,?_⟩)|((with_reducible refine gate_callee (f:=112) rfl ?_);refine gL (some 21) Try.func112 #[.slice A1 l1.length c1,.int .i64 x7_1] ?_;(with_reducible refine (sacristyref01_at.calls _ _ l1 x7_1 t739 _ ?side1 ?side2 A7.out).mono ?_);(case side1 => repeat (first|exact (Kd.C_below HR1.out (qS HB))|(with_reducible refine Kd.C_alloc ?_ _)|(with_reducible refine Kd.C_drewN ?_ _)|(with_reducible refine Kd.C_drew ?_)));(case side2 => exact HC1.out);rintro e w' ⟨rfl,⟨nd,rfl⟩⟩;refine ⟨_,rfl,?_⟩)|((with_reducible refine gate_builtin (b:=.append) (xs:=#[.tmp 29,.tmp 32]) rfl ?_);at_builtin;refine Kd.R_append Kd.bool (w0:=w) w.heap.size rfl (.tmp 29) (.tmp 32) 42 4 (.bool false) 1 rfl Try.underlying42 info4 rfl (by decide) (by omega) u5 x5_1 ((wrap64 ((wrap64 ((wrap64 (t738 - t739)) - x6_1)) + 2)) == 1) [.bool ((wrap64 ((wrap64 ((wrap64 (t738 - t739)) - x6_1)) + 2)) == 1)] (fun k_ => (w.heap.size ≤ k_)) (fun _ => False) rfl rfl ?aP (fun _ hk => hk.elim) ?aF ?aO ?aB ?aS ?aL ?_;(case aP => exact rfl);(case aB => exact (qS HB));(case aF => exact (fun k_ hk => (Nat.le_trans (below_size (qS HB)) hk)));(case aO => exact (qRm HO_5));(case aS => exact (below_size (qS HB)));(case aL => have:=LMc9.out;omega);intro v741 w10 ho hb hg hat;rw [← Ny740.out] at ho;replace HB:=Aside0.mk (hb);have HO742:=Aside0.mk (ho);(try clear HO_5);clear ho hb hg hat))
      go_roundg k1
      case measure => have:=HK1.out;omega
      case rel => exact ⟨(y740),(1),(wrap64 (x7_1 + 1)),(by first|rfl|(simp;done)|(simp [*];done)),(by first|rfl|(simp;done)|(simp [*];done)),H',⟨by have:=HK1.out;omega⟩,⟨qRm HO742⟩,⟨qS HB⟩⟩
     ·rw [if_neg c9] at H
      exact absurd H (by simp)
    ·rw [if_neg c8] at H
     have c8b0 : decide ((wrap64 ((wrap64 (t738 - t739)) - x6_1)) < 0) = false:=decide_eq_false c8
     clear c8
     by_cases c11 : x5_1.length < 140737488355328
     ·rw [if_pos c11] at H
      have LMc11:=Aside0.mk c11
      clear c11
      obtain ⟨y743,hy743⟩ : ∃ y_ : List Bool,y_ = (x5_1 ++ [((wrap64 ((wrap64 (t738 - t739)) - x6_1)) == 1)]):=⟨_,rfl⟩
      replace H : (sacristyref01_Sub.l0 k1 l0 l1 y743 0 (wrap64 (x7_1 + 1))) = some r:=by first|(rw [hy743];with_reducible exact H)|(have H2_:=(Option.bind_some _ _).symm.trans H;rw [hy743];with_reducible exact H2_)|(have H2_:=(Option.bind_some _ _).symm.trans H;with_reducible exact H2_)|with_reducible exact H|(rw [hy743];exact H)|exact H
      have Ny743:=Aside0.mk hy743
      clear hy743
      have H':=Aside0.mk H
      clear H
      go_wp2_with (first|((with_reducible refine gate_callee (f:=112) rfl ?_);refine gL (some 18) Try.func112 #[.slice A0 l0.length c0,.int .i64 x7_1] ?_;(with_reducible refine (sacristyref01_at.calls _ _ l0 x7_1 t738 _ ?side1 ?side2 A6.out).mono ?_);(case side1 => exact qCB HR0 HB);(case side2 => exact HC0.out);rintro e w' ⟨rfl,⟨nd,rfl⟩⟩;refine ⟨_,rfl,?_⟩)|((with_reducible refine gate_callee (f:=112) rfl ?_);refine gL (some 21) Try.func112 #[.slice A1 l1.length c1,.int .i64 x7_1] ?_;(with_reducible refine (sacristyref01_at.calls _ _ l1 x7_1 t739 _ ?side1 ?side2 A7.out).mono ?_);(case side1 => repeat (first|exact (Kd.C_below HR1.out (qS HB))|(with_reducible refine Kd.C_alloc ?_ _)|(with_reducible refine Kd.C_drewN ?_ _)|(with_reducible refine Kd.C_drew ?_)));(case side2 => exact HC1.out);rintro e w' ⟨rfl,⟨nd,rfl⟩⟩;refine ⟨_,rfl,?_⟩)|((with_reducible refine gate_builtin (b:=.append) (xs:=#[.tmp 29,.tmp 32]) rfl ?_);at_builtin;refine Kd.R_append Kd.bool (w0:=w) w.heap.size rfl (.tmp 29) (.tmp 32) 42 4 (.bool false) 1 rfl Try.underlying42 info4 rfl (by decide) (by omega) u5 x5_1 ((wrap64 ((wrap64 (t738 - t739)) - x6_1)) == 1) [.bool ((wrap64 ((wrap64 (t738 - t739)) - x6_1)) == 1)] (fun k_ => (w.heap.size ≤ k_)) (fun _ => False) rfl rfl ?aP (fun _ hk => hk.elim) ?aF ?aO ?aB ?aS ?aL ?_;(case aP => exact rfl);(case aB => exact (qS HB));(case aF => exact (fun k_ hk => (Nat.le_trans (below_size (qS HB)) hk)));(case aO => exact (qRm HO_5));(case aS => exact (below_size (qS HB)));(case aL => have:=LMc11.out;omega);intro v744 w12 ho hb hg hat;rw [← Ny743.out] at ho;replace HB:=Aside0.mk (hb);have HO745:=Aside0.mk (ho);(try clear HO_5);clear ho hb hg hat))
      go_roundg k1
      case measure => have:=HK1.out;omega
      case rel => exact ⟨(y743),(0),(wrap64 (x7_1 + 1)),(by first|rfl|(simp;done)|(simp [*];done)),(by first|rfl|(simp;done)|(simp [*];done)),H',⟨by have:=HK1.out;omega⟩,⟨qRm HO745⟩,⟨qS HB⟩⟩
     ·rw [if_neg c11] at H
      exact absurd H (by simp)
   ·rw [if_neg c5] at H
    have c5b0 : decide (x7_1 < (l0.length : Int)) = false:=decide_eq_false c5
    clear c5
    obtain ⟨t735,A13,H⟩:=qH H
    obtain rfl:=Option.some.inj H
    obtain ⟨Ao14,co14,eo14⟩:=Kd.R_slice HO_5.out
    subst eo14
    go_wp2_with (first|((with_reducible refine gate_callee (f:=111) rfl ?_);refine gL (some 35) Try.func111 #[.slice Ao14 x5_1.length co14] ?_;(with_reducible refine (sacristyref01_Trim.calls k1 (fun k_ => some k_ = (.slice Ao14 x5_1.length co14 : Value).ownBlock) _ _ x5_1 t735 _ ?side1 A13.out).mono ?_);(case side1 => exact Kd.R_V (Kd.R_tight rfl (HO_5.out)));rintro e w15 ⟨v736,rfl,ho0,hb⟩;refine ⟨_,rfl,?_⟩;have HO737:=Aside0.mk (Kd.V_lower (Kd.V_mono (ok':=fun k_ => (w.heap.size ≤ k_)) ho0 (fun k_ hk_ => Or.elim hk_ (fun hs_ => ((HO_5.out).1 k_ hs_.symm)) (fun hn_ => (Nat.le_trans (below_size (qS HB)) hn_)))) (below_size (qS HB)));replace HO_5:=qRb HO_5 hb;replace HB:=qs HB hb;clear hb ho0))
    (first|go_ret|(refine ⟨_,results_tmp rfl _ _ _,?_⟩))
    exact ⟨_,by first|rfl|(simp [errW_none,errW_some] <;> rfl)|(simp [*,errW_none,errW_some] <;> rfl),qVm HO737,qS HB⟩
end Go.Proofs.Yteejcpbngnojkaa.P
end
section
namespace Go.Proofs.Yteejcpbngnojkaa.P
open Go.RowKit Go.Proofs.YteejcpbngnojkaaW.PrintWords Go.Proofs.YteejcpbngnojkaaW.PrintLast Go.Proofs.YteejcpbngnojkaaW.PrintMore
attribute [local go_sem] max2_int min2_int max_two min_two max_three min_three max_four min_four
set_option linter.unusedVariables false
set_option linter.unusedSimpArgs false
def sacristyref01_Div.l0 : Nat → List Bool → List Bool → List Bool → List Bool → Int → Option (List Bool × List Bool)
 |0,_,_,_,_,_ => none
 |k + 1,x0,x1,x6,x7,x8 => if x8 ≥ 0 then (if 0 ≤ x8 then (if x8 < (x0.length : Int) then ((some (([rdOf false x0 x8] : List Bool) : List Bool)).bind fun y756 => (if y756.length + x7.length < 140737488355328 then ((sacristyref01_Trim.f k (y756 ++ x7)).bind fun t762 => ((sacristyref01_Cmp.f k t762 x1).bind fun t765 => (if t765 ≥ 0 then ((sacristyref01_Sub.f k t762 x1).bind fun t766 => (if x8 < (x6.length : Int) then (sacristyref01_Div.l0 k x0 x1 (x6.set (x8 : Int).toNat true) t766 (wrap64 (x8 - 1))) else (none))) else (sacristyref01_Div.l0 k x0 x1 x6 t762 (wrap64 (x8 - 1)))))) else (none))) else (none)) else (none)) else ((sacristyref01_Trim.f k x6).bind fun t752 => (some (t752,x7)))
def sacristyref01_Div.f (k : Nat) (l0 : List Bool) (l1 : List Bool) : Option (List Bool × List Bool):=if 0 ≤ (l0.length : Int) then (if ((l0.length : Int) : Int).toNat ≤ 281474976710656 then (sacristyref01_Div.l0 k l0 l1 (List.replicate ((l0.length : Int) : Int).toNat false) (([] : List Bool)) (wrap64 ((l0.length : Int) - 1))) else (none)) else (none)
theorem sacristyref01_Div.mono_l : ∀ k,(∀ y0 y1 y2 y3 y4,LeO (sacristyref01_Div.l0 k y0 y1 y2 y3 y4) (sacristyref01_Div.l0 (k + 1) y0 y1 y2 y3 y4))
 |0 => fun _ _ _ _ _ r h => by simp [sacristyref01_Div.l0] at h
 |k + 1 => by
  have ih0:=sacristyref01_Div.mono_l k
  ·intro y0 y1 y2 y3 y4
   unfold sacristyref01_Div.l0
   repeat' first
   |(with_reducible exact ih0 _ _ _ _ _)
   |(with_reducible exact sacristyref01_Cmp.mono _ _ _)
   |(with_reducible exact sacristyref01_Sub.mono _ _ _)
   |(with_reducible exact sacristyref01_Trim.mono _ _)
   |(with_reducible exact LeO.refl _)
   |(with_reducible exact LeO.none _)
   |(with_reducible refine LeO.ite ?_ ?_)
   |(with_reducible refine LeO.bind ?_ (fun _ => ?_))
   |exact ih0 _ _ _ _ _
   |exact sacristyref01_Cmp.mono _ _ _
   |exact sacristyref01_Sub.mono _ _ _
   |exact sacristyref01_Trim.mono _ _
   |exact LeO.none _
   |refine LeO.ite ?_ ?_
   |refine LeO.bind ?_ (fun _ => ?_)
theorem sacristyref01_Div.mono : ∀ a0 a1 k,LeO (sacristyref01_Div.f k a0 a1) (sacristyref01_Div.f (k + 1) a0 a1):=by
 intro a0 a1 k
 have ih0:=sacristyref01_Div.mono_l k
 unfold sacristyref01_Div.f
 repeat' first
   |(with_reducible exact ih0 _ _ _ _ _)
   |(with_reducible exact sacristyref01_Cmp.mono _ _ _)
   |(with_reducible exact sacristyref01_Sub.mono _ _ _)
   |(with_reducible exact sacristyref01_Trim.mono _ _)
   |(with_reducible exact LeO.refl _)
   |(with_reducible exact LeO.none _)
   |(with_reducible refine LeO.ite ?_ ?_)
   |(with_reducible refine LeO.bind ?_ (fun _ => ?_))
   |exact ih0 _ _ _ _ _
   |exact sacristyref01_Cmp.mono _ _ _
   |exact sacristyref01_Sub.mono _ _ _
   |exact sacristyref01_Trim.mono _ _
   |exact LeO.none _
   |refine LeO.ite ?_ ?_
   |refine LeO.bind ?_ (fun _ => ?_)
set_option maxHeartbeats 8000000 in
set_option maxRecDepth 100000 in
theorem sacristyref01_Div.calls (k : Nat) (A0 : Option Addr) (c0 : Nat) (l0 : List Bool) (A1 : Option Addr) (c1 : Nat) (l1 : List Bool) (r1 : List Bool) (r2 : List Bool) (w : World) (hr0 : Kd.C Kd.bool w A0 l0.length l0) (hc0 : l0.length ≤ c0) (hr1 : Kd.C Kd.bool w A1 l1.length l1) (hc1 : l1.length ≤ c1) (h : sacristyref01_Div.f k l0 l1 = some (r1,r2)) :
  Calls Try.prog 59 #[.slice A0 l0.length c0,.slice A1 l1.length c1] w fun e w' => ∃ v0_ v1_ : Value,e = .returned (.tuple #[v0_,v1_]) ∧ Kd.V Kd.bool 4 w' w.heap.size (fun k_ => (w.heap.size ≤ k_)) v0_ r1 ∧ Kd.V Kd.bool 4 w' w.heap.size (fun k_ => (w.heap.size ≤ k_)) v1_ r2 ∧ Below w.heap.size w w':=by
 have HR0:=Aside0.mk hr0
 have HC0:=Aside0.mk hc0
 clear hr0 hc0
 have HR1:=Aside0.mk hr1
 have HC1:=Aside0.mk hc1
 clear hr1 hc1
 have HB:=Aside0.mk (Below.refl w.heap.size w)
 have H : (if 0 ≤ (l0.length : Int) then (if ((l0.length : Int) : Int).toNat ≤ 281474976710656 then (sacristyref01_Div.l0 k l0 l1 (List.replicate ((l0.length : Int) : Int).toNat false) (([] : List Bool)) (wrap64 ((l0.length : Int) - 1))) else (none)) else (none)) = some (r1,r2):=h
 clear h
 by_cases c3 : 0 ≤ (l0.length : Int)
 ·rw [if_pos c3] at H
  have c3b0:=eq_true c3
  have c3b1 : decide (0 ≤ (l0.length : Int)) = true:=decide_eq_true c3
  clear c3
  by_cases c4 : ((l0.length : Int) : Int).toNat ≤ 281474976710656
  ·rw [if_pos c4] at H
   have c4b0:=eq_true c4
   have c4b1 : decide (((l0.length : Int) : Int).toNat ≤ 281474976710656) = true:=decide_eq_true c4
   clear c4
   obtain ⟨y746,hy746⟩ : ∃ y_ : List Bool,y_ = (List.replicate ((l0.length : Int) : Int).toNat false):=⟨_,rfl⟩
   replace H : (sacristyref01_Div.l0 k l0 l1 y746 (([] : List Bool)) (wrap64 ((l0.length : Int) - 1))) = some (r1,r2):=by first|(rw [hy746];with_reducible exact H)|(have H2_:=(Option.bind_some _ _).symm.trans H;rw [hy746];with_reducible exact H2_)|(have H2_:=(Option.bind_some _ _).symm.trans H;with_reducible exact H2_)|with_reducible exact H|(rw [hy746];exact H)|exact H
   have Ny746:=Aside0.mk hy746
   clear hy746
   obtain ⟨y749,hy749⟩ : ∃ y_ : List Bool,y_ = (([] : List Bool)):=⟨_,rfl⟩
   replace H : (sacristyref01_Div.l0 k l0 l1 y746 y749 (wrap64 ((l0.length : Int) - 1))) = some (r1,r2):=by first|(rw [hy749];with_reducible exact H)|(have H2_:=(Option.bind_some _ _).symm.trans H;rw [hy749];with_reducible exact H2_)|(have H2_:=(Option.bind_some _ _).symm.trans H;with_reducible exact H2_)|with_reducible exact H|(rw [hy749];exact H)|exact H
   have Ny749:=Aside0.mk hy749
   clear hy749
   have H':=Aside0.mk H
   clear H
   go_enter Try.func59,Try.ntmps59
   go_wp2_with (first|((with_reducible refine gate_dst (N:=11) rfl ?_);refine Kd.R_make Kd.bool _ 4 rfl (N:=11) rfl 42 _ _ rfl (l0.length : Int) rfl rfl Try.underlying42 (.bool false) 1 info4 rfl (by decide) (by omega) false (ok:=fun _ => True) (okp:=fun _ => True) rfl (fun _ hk => hk) trivial (od) (Nat.le_trans (Nat.mul_le_mul_right _ (od : (l0.length : Int).toNat ≤ 281474976710656)) (by omega)) (Below.refl _ _) (Nat.le_refl _) ?_;intro v747 w5 ho6 hb hg_ hnew_;clear hg_ hnew_;(first|rw [← Ny746.out] at ho6|(simp only [Int.reduceToNat] at ho6;rw [← Ny746.out] at ho6));have HO748:=Aside0.mk (Kd.R_lower (Kd.R_newM (M:=fun k_ => (w.heap.size ≤ k_)) ho6 (below_size (qS HB)) (fun k_ h_ => h_)) (below_size (qS HB)));replace HB:=qs HB hb;clear hb ho6)|((with_reducible refine gate_dst (N:=12) rfl ?_);refine Kd.R_lit Kd.bool _ 4 ?hg (N:=12) ?hd (xs:=([] : List Bool)) (inner:=[]) (ok:=fun _ => True) (okp:=fun _ => True) ?hr ?hp (fun _ hk => hk) trivial (Below.refl _ _) (Nat.le_refl _) (by simp) ?_;(case hd => rfl);(case hg => rfl);(case hr => first|(go_simp;done)|(go_simp;rfl));(case hp => exact (Reps.none _ _));intro v750 w7 ho8 hb hg_ hnew_;clear hg_ hnew_;(first|rw [← Ny749.out] at ho8|(simp only [Int.reduceToNat] at ho8;rw [← Ny749.out] at ho8));have HO751:=Aside0.mk (Kd.R_lower (Kd.R_new' (Kd.R_newM (M:=fun k_ => (w.heap.size ≤ k_)) ho8 (below_size (qS HB)) (fun k_ h_ => h_)) (Kd.R_lt (qRm HO748))) (below_size (qS HB)));replace HO748:=qRd HO748 ho8 hb;replace HB:=qs HB hb;clear hb ho8))
   go_loopg [7,8] k (fun kq v7 v8 w' => ∃ (x6_1 : List Bool) (x7_1 : List Bool) (x8_1 : Int),v8 = .int .i64 x8_1 ∧ Aside0 (sacristyref01_Div.l0 kq l0 l1 x6_1 x7_1 x8_1 = some (r1,r2)) ∧ Aside0 (kq ≤ k) ∧ Aside0 (Kd.R Kd.bool 4 w' w.heap.size (fun k_ => (w.heap.size ≤ k_)) v747 x6_1) ∧ Aside0 (Kd.V Kd.bool 4 w' w.heap.size (fun k_ => (w.heap.size ≤ k_) ∧ some k_ ≠ (v747 : Value).ownBlock) v7 x7_1) ∧ Aside0 (Below w.heap.size w w'))
   case atStart => exact ⟨(y746),(y749),(wrap64 ((l0.length : Int) - 1)),(by first|rfl|(simp;done)|(simp [*];done)),H',⟨Nat.le_refl _⟩,⟨qRm HO748⟩,⟨Kd.R_V (qRm HO751)⟩,⟨qS HB⟩⟩
   case round =>
    clear H'
    try clear c1
    try clear p2
    try clear c3
    try clear c3b0
    try clear c3b1
    try clear c4
    try clear c4b0
    try clear c4b1
    try clear c5
    try clear p6
    obtain ⟨x6_1,x7_1,x8_1,rfl,HA,HK1,HO_6,HO_7,HB⟩:=hrel
    cases gk with
    |zero => exact absurd HA.out (by simp [sacristyref01_Div.l0])
    |succ k1 =>
     have H:=HA.out
     clear HA
     simp only [sacristyref01_Div.l0] at H
     by_cases c9 : x8_1 ≥ 0
     ·rw [if_pos c9] at H
      have c9b0 : decide (0 ≤ x8_1) = true:=decide_eq_true c9
      clear c9
      by_cases c10 : 0 ≤ x8_1
      ·rw [if_pos c10] at H
       have c10b0 : decide (0 ≤ x8_1) = true:=decide_eq_true c10
       clear c10
       by_cases c11 : x8_1 < (l0.length : Int)
       ·rw [if_pos c11] at H
        have c11b0 : decide (x8_1 < (l0.length : Int)) = true:=decide_eq_true c11
        clear c11
        obtain ⟨y756,hy756⟩ : ∃ y_ : List Bool,y_ = (([rdOf false l0 x8_1] : List Bool)):=⟨_,rfl⟩
        replace H : (if y756.length + x7_1.length < 140737488355328 then ((sacristyref01_Trim.f k1 (y756 ++ x7_1)).bind fun t762 => ((sacristyref01_Cmp.f k1 t762 l1).bind fun t765 => (if t765 ≥ 0 then ((sacristyref01_Sub.f k1 t762 l1).bind fun t766 => (if x8_1 < (x6_1.length : Int) then (sacristyref01_Div.l0 k1 l0 l1 (x6_1.set (x8_1 : Int).toNat true) t766 (wrap64 (x8_1 - 1))) else (none))) else (sacristyref01_Div.l0 k1 l0 l1 x6_1 t762 (wrap64 (x8_1 - 1)))))) else (none)) = some (r1,r2):=by first|(rw [hy756];with_reducible exact H)|(have H2_:=(Option.bind_some _ _).symm.trans H;rw [hy756];with_reducible exact H2_)|(have H2_:=(Option.bind_some _ _).symm.trans H;with_reducible exact H2_)|with_reducible exact H|(rw [hy756];exact H)|exact H
        have Ny756:=Aside0.mk hy756
        clear hy756
        by_cases c12 : y756.length + x7_1.length < 140737488355328
        ·rw [if_pos c12] at H
         have LMc12:=Aside0.mk c12
         clear c12
         obtain ⟨y759,hy759⟩ : ∃ y_ : List Bool,y_ = (y756 ++ x7_1):=⟨_,rfl⟩
         replace H : ((sacristyref01_Trim.f k1 y759).bind fun t762 => ((sacristyref01_Cmp.f k1 t762 l1).bind fun t765 => (if t765 ≥ 0 then ((sacristyref01_Sub.f k1 t762 l1).bind fun t766 => (if x8_1 < (x6_1.length : Int) then (sacristyref01_Div.l0 k1 l0 l1 (x6_1.set (x8_1 : Int).toNat true) t766 (wrap64 (x8_1 - 1))) else (none))) else (sacristyref01_Div.l0 k1 l0 l1 x6_1 t762 (wrap64 (x8_1 - 1)))))) = some (r1,r2):=by first|(rw [hy759];with_reducible exact H)|(have H2_:=(Option.bind_some _ _).symm.trans H;rw [hy759];with_reducible exact H2_)|(have H2_:=(Option.bind_some _ _).symm.trans H;with_reducible exact H2_)|with_reducible exact H|(rw [hy759];exact H)|exact H
         have Ny759:=Aside0.mk hy759
         clear hy759
         obtain ⟨t762,A13,H⟩:=qH H
         obtain ⟨t765,A14,H⟩:=qH H
         by_cases c15 : t765 ≥ 0
         ·rw [if_pos c15] at H
          have c15b0 : decide (0 ≤ t765) = true:=decide_eq_true c15
          clear c15
          obtain ⟨t766,A16,H⟩:=qH H
          by_cases c17 : x8_1 < (x6_1.length : Int)
          ·rw [if_pos c17] at H
           have c17b0 : decide (x8_1 < (x6_1.length : Int)) = true:=decide_eq_true c17
           clear c17
           obtain ⟨y769,hy769⟩ : ∃ y_ : List Bool,y_ = (x6_1.set (x8_1 : Int).toNat true):=⟨_,rfl⟩
           replace H : (sacristyref01_Div.l0 k1 l0 l1 y769 t766 (wrap64 (x8_1 - 1))) = some (r1,r2):=by first|(rw [hy769];with_reducible exact H)|(have H2_:=(Option.bind_some _ _).symm.trans H;rw [hy769];with_reducible exact H2_)|(have H2_:=(Option.bind_some _ _).symm.trans H;with_reducible exact H2_)|with_reducible exact H|(rw [hy769];exact H)|exact H
           have Ny769:=Aside0.mk hy769
           clear hy769
           have H':=Aside0.mk H
           clear H
           have p755 : 0 ≤ (x8_1 : Int):=od
           have q755 : x8_1 < (l0.length : Int):=od
           obtain ⟨ad755,e755,hx755_0⟩:=Kd.at_bool HR0.out x8_1 p755 q755
           cases e755
           replace hx755_0:=(HB.out.cell (World.block_lt_of_cell? w _ hx755_0)).trans hx755_0
           replace p755:=eq_true p755
           replace q755:=eq_true q755
           go_wp2_with (first|((with_reducible refine gate_dst (N:=24) rfl ?_);refine Kd.R_lit Kd.bool _ 4 ?hg (N:=24) ?hd (xs:=([rdOf false l0 x8_1] : List Bool)) (inner:=[.bool (rdOf false l0 x8_1)]) (ok:=fun _ => True) (okp:=fun _ => True) ?hr ?hp (fun _ hk => hk) trivial (Below.refl _ _) (Nat.le_refl _) (by simp) ?_;(case hd => rfl);(case hg => rfl);(case hr => first|(go_simp;done)|(go_simp;rfl));(case hp => exact (Reps.one (show Kd.M Kd.bool _ _ _ (rdOf false l0 x8_1) [.bool (rdOf false l0 x8_1)] from rfl) (Reps.none _ _)));intro v757 w19 ho20 hb hg_ hnew_;clear hg_ hnew_;(first|rw [← Ny756.out] at ho20|(simp only [Int.reduceToNat] at ho20;rw [← Ny756.out] at ho20));replace HO_7:=qVd HO_7 ho20 hb;have HO758:=Aside0.mk (Kd.R_lower (Kd.R_new' (Kd.R_newM (M:=fun k_ => (w.heap.size ≤ k_)) ho20 (below_size (qS HB)) (fun k_ h_ => h_)) (Kd.R_lt (qRm HO_6))) (below_size (qS HB)));replace HO_6:=qRd HO_6 ho20 hb;replace HB:=qs HB hb;clear hb ho20;obtain ⟨Ao22,co22,eo22⟩:=Kd.V_slice HO_7.out;subst eo22)|((with_reducible refine gate_builtin (b:=.append) (xs:=#[.tmp 24,.tmp 25]) rfl ?_);at_builtin;refine Kd.R_append_rows Kd.bool (w0:=w) w.heap.size rfl (.tmp 24) (.tmp 25) 42 4 (.bool false) 1 rfl Try.underlying42 info4 rfl (by decide) (by omega) v757 y756 x7_1 _ _ _ (fun k_ => (w.heap.size ≤ k_) ∧ some k_ ≠ (v747 : Value).ownBlock) (fun _ => False) rfl rfl ?aO ?aR (fun _ _ h => h) (fun _ h => h.elim) ?aF ?aB ?aS ?aL ?_;(case aR => exact qCV HO_7);(case aB => exact (qS HB));(case aF => exact (fun k_ hk => ⟨(Nat.le_trans (below_size (qS HB)) hk),Kd.fresh' (Kd.R_lt (qRm HO_6)) k_ hk⟩));(case aO => exact (qRm HO758));(case aS => exact (below_size (qS HB)));(case aL => have:=LMc12.out;omega);intro v760 w21 ho hb hg hat;rw [← Ny759.out] at ho;replace HO_6:=Aside0.mk (Kd.R_after (ok:=(fun k_ => (w.heap.size ≤ k_))) (qRm HO_6) hg hat);replace HO_7:=Aside0.mk (Kd.V_afterv (ok:=(fun k_ => (w.heap.size ≤ k_) ∧ some k_ ≠ (v747 : Value).ownBlock)) (qVm HO_7) hg hat);replace HB:=Aside0.mk (hb);have HO761:=Aside0.mk (ho);(try clear HO758);clear ho hb hg hat;obtain ⟨Ao23,co23,eo23⟩:=Kd.R_slice HO761.out;subst eo23)|((with_reducible refine gate_callee (f:=111) rfl ?_);refine gL (some 27) Try.func111 #[.slice Ao23 y759.length co23] ?_;(with_reducible refine (sacristyref01_Trim.calls k1 (fun k_ => some k_ = (.slice Ao23 y759.length co23 : Value).ownBlock) _ _ y759 t762 _ ?side1 A13.out).mono ?_);(case side1 => exact Kd.R_V (Kd.R_tight rfl (HO761.out)));rintro e w24 ⟨v763,rfl,ho0,hb⟩;refine ⟨_,rfl,?_⟩;replace HO_7:=qVb HO_7 hb;have HO764:=Aside0.mk (Kd.V_lower (Kd.V_mono (ok':=fun k_ => (w.heap.size ≤ k_) ∧ some k_ ≠ (v747 : Value).ownBlock) ho0 (fun k_ hk_ => ⟨Or.elim hk_ (fun hs_ => ((HO761.out).1 k_ hs_.symm).1) (fun hn_ => (Nat.le_trans (below_size (qS HB)) hn_)),Or.elim hk_ (fun hs_ => ((HO761.out).1 k_ hs_.symm).2) (fun hn_ => (Kd.fresh' (Kd.R_lt (qRm HO_6)) k_ hn_))⟩)) (below_size (qS HB)));replace HO_6:=qRb HO_6 hb;replace HO761:=qRb HO761 hb;replace HB:=qs HB hb;clear hb ho0;obtain ⟨Ao25,co25,eo25⟩:=Kd.V_slice HO764.out;subst eo25)|((with_reducible refine gate_callee (f:=46) rfl ?_);refine gL (some 30) Try.func46 #[.slice Ao25 t762.length co25,.slice A1 l1.length c1] ?_;(with_reducible refine (sacristyref01_Cmp.calls k1 _ _ t762 _ _ l1 t765 _ ?side1 ?side2 ?side3 ?side4 A14.out).mono ?_);(case side1 => exact qCV HO764);(case side2 => exact qL HO764);(case side3 => exact qCB HR1 HB);(case side4 => exact HC1.out);rintro e w' ⟨rfl,⟨nd,rfl⟩⟩;refine ⟨_,rfl,?_⟩;(try (rw [drewN_self w24];generalize hq_ : World.drewN w24 _ = w24;have n0_ : Aside0 (Kd.R Kd.bool 4 w24 w.heap.size (fun k_ => (w.heap.size ≤ k_) ∧ some k_ ≠ (v747 : Value).ownBlock) (.slice Ao23 y759.length co23) y759):=⟨by rw [← hq_];exact (qRm HO761)⟩;have n1_ : Aside0 (Kd.V Kd.bool 4 w24 w.heap.size (fun k_ => (w.heap.size ≤ k_) ∧ some k_ ≠ (v747 : Value).ownBlock) (.slice Ao25 t762.length co25) t762):=⟨by rw [← hq_];exact (qVm HO764)⟩;have n2_ : Aside0 (Kd.R Kd.bool 4 w24 w.heap.size (fun k_ => (w.heap.size ≤ k_) ∧ some k_ ≠ (.slice Ao23 y759.length co23 : Value).ownBlock) v747 x6_1):=⟨by rw [← hq_];exact (qRm HO_6)⟩;have n3_ : Aside0 (Kd.V Kd.bool 4 w24 w.heap.size (fun k_ => (w.heap.size ≤ k_) ∧ some k_ ≠ (.slice Ao23 y759.length co23 : Value).ownBlock ∧ some k_ ≠ (v747 : Value).ownBlock) (.slice Ao22 x7_1.length co22) x7_1):=⟨by rw [← hq_];exact (qVm HO_7)⟩;have n4_ : Aside0 (Below w.heap.size w w24):=⟨by rw [← hq_];exact (qS HB)⟩;clear HO761 HO764 HO_6 HO_7 HB hq_;have HO761:=n0_;have HO764:=n1_;have HO_6:=n2_;have HO_7:=n3_;have HB:=n4_;clear n0_ n1_ n2_ n3_ n4_)))|((with_reducible refine gate_callee (f:=63) rfl ?_);refine gL (some 34) Try.func63 #[.slice Ao25 t762.length co25,.slice A1 l1.length c1] ?_;(with_reducible refine (sacristyref01_Sub.calls k1 _ _ t762 _ _ l1 t766 _ ?side1 ?side2 ?side3 ?side4 A16.out).mono ?_);(case side1 => exact qCV HO764);(case side2 => exact qL HO764);(case side3 => exact qCB HR1 HB);(case side4 => exact HC1.out);rintro e w26 ⟨v767,rfl,ho0,hb⟩;refine ⟨_,rfl,?_⟩;replace HO_7:=qVb HO_7 hb;replace HO764:=qVb HO764 hb;have HO768:=Aside0.mk (Kd.V_lower (Kd.V_mono (ok':=fun k_ => (w.heap.size ≤ k_) ∧ some k_ ≠ (v747 : Value).ownBlock ∧ some k_ ≠ (.slice Ao23 y759.length co23 : Value).ownBlock) ho0 (fun k_ hk_ => ⟨(Nat.le_trans (below_size (qS HB)) hk_),(Kd.fresh' (Kd.R_lt (qRm HO_6)) k_ hk_),(Kd.fresh' (Kd.R_lt (qRm HO761)) k_ hk_)⟩)) (below_size (qS HB)));replace HO_6:=qRb HO_6 hb;replace HO761:=qRb HO761 hb;replace HB:=qs HB hb;clear hb ho0;have p18 : 0 ≤ (x8_1 : Int):=od;have q18 : (x8_1 : Int) < ((x6_1.length : Int) : Int):=od;obtain ⟨go18,co18,eo18,gb18,gl18,cl18,HG18⟩:=Kd.R_form HO_6.out (by omega);(first|cases eo18|(injection eo18 with ea_ en_ ec_;(first|subst ea_|(injection ea_ with ea_;subst ea_));subst ec_;clear en_));have GB18:=Aside0.mk gb18;have GG18:=Aside0.mk HG18;clear gb18 gl18 HG18;obtain ⟨hx18_0,hf18_0⟩:=Kd.R_celln false HO_6.out (x8_1 : Int) p18 q18;replace p18:=eq_true p18;replace q18:=eq_true q18;obtain ⟨hy27_,hz27_⟩:=Kd.R_celln false HO_6.out (x8_1 : Int) (od) (od);have HP27:=Kd.R_putg HO_6.out (x8_1 : Int) true)|((with_reducible refine gate_store (t:=4) (p:=37) rfl ?_);refine qSt (w26.setCell ⟨go18,(x8_1 : Int).toNat,none⟩ (.bool true)) ?_;intro w28 hw;have hg : w26.grownBy w28 (some go18):=(by rw [hw];exact HP27.2);have hp_ : Kd.R Kd.bool 4 w28 w.heap.size (fun k_ => (w.heap.size ≤ k_) ∧ some k_ ≠ (.slice Ao23 y759.length co23 : Value).ownBlock) (.slice (some ⟨go18,0,none⟩) x6_1.length co18) y769:=(by rw [hw,Ny769.out];exact HP27.1);clear HP27;replace HO_6:=Aside0.mk (hp_);replace HO_7:=Aside0.mk trivial;replace HO761:=Aside0.mk (Kd.R_after (v:=(.slice (some ⟨go18,0,none⟩) x6_1.length co18)) (v1:=(.slice (some ⟨go18,0,none⟩) x6_1.length co18)) (ok:=(fun k_ => (w.heap.size ≤ k_))) (qRm HO761) hg (.inl rfl));replace HO764:=Aside0.mk (Kd.V_afterv (v:=(.slice (some ⟨go18,0,none⟩) x6_1.length co18)) (v1:=(.slice (some ⟨go18,0,none⟩) x6_1.length co18)) (ok:=(fun k_ => (w.heap.size ≤ k_))) (qVm HO764) hg (.inl rfl));replace HO768:=Aside0.mk (Kd.V_afterv (v:=(.slice (some ⟨go18,0,none⟩) x6_1.length co18)) (v1:=(.slice (some ⟨go18,0,none⟩) x6_1.length co18)) (ok:=(fun k_ => (w.heap.size ≤ k_) ∧ some k_ ≠ (.slice Ao23 y759.length co23 : Value).ownBlock)) (qVm HO768) hg (.inl rfl));replace HB:=Aside0.mk ((by rw [hw];exact below_set (HB.out) GB18.out : Below w.heap.size w w28));clear hg hw hp_))
           go_roundg k1
           case measure => have:=HK1.out;omega
           case rel => exact ⟨(y769),(t766),(wrap64 (x8_1 - 1)),(by first|rfl|(simp;done)|(simp [*];done)),H',⟨by have:=HK1.out;omega⟩,⟨qRm HO_6⟩,⟨qVm HO768⟩,⟨qS HB⟩⟩
          ·rw [if_neg c17] at H
           exact absurd H (by simp)
         ·rw [if_neg c15] at H
          have c15b0 : decide (0 ≤ t765) = false:=decide_eq_false c15
          clear c15
          have H':=Aside0.mk H
          clear H
          have p755 : 0 ≤ (x8_1 : Int):=od
          have q755 : x8_1 < (l0.length : Int):=od
          obtain ⟨ad755,e755,hx755_0⟩:=Kd.at_bool HR0.out x8_1 p755 q755
          cases e755
          replace hx755_0:=(HB.out.cell (World.block_lt_of_cell? w _ hx755_0)).trans hx755_0
          replace p755:=eq_true p755
          replace q755:=eq_true q755
          go_wp2_with (first|((with_reducible refine gate_dst (N:=24) rfl ?_);refine Kd.R_lit Kd.bool _ 4 ?hg (N:=24) ?hd (xs:=([rdOf false l0 x8_1] : List Bool)) (inner:=[.bool (rdOf false l0 x8_1)]) (ok:=fun _ => True) (okp:=fun _ => True) ?hr ?hp (fun _ hk => hk) trivial (Below.refl _ _) (Nat.le_refl _) (by simp) ?_;(case hd => rfl);(case hg => rfl);(case hr => first|(go_simp;done)|(go_simp;rfl));(case hp => exact (Reps.one (show Kd.M Kd.bool _ _ _ (rdOf false l0 x8_1) [.bool (rdOf false l0 x8_1)] from rfl) (Reps.none _ _)));intro v757 w29 ho30 hb hg_ hnew_;clear hg_ hnew_;(first|rw [← Ny756.out] at ho30|(simp only [Int.reduceToNat] at ho30;rw [← Ny756.out] at ho30));replace HO_7:=qVd HO_7 ho30 hb;have HO758:=Aside0.mk (Kd.R_lower (Kd.R_new' (Kd.R_newM (M:=fun k_ => (w.heap.size ≤ k_)) ho30 (below_size (qS HB)) (fun k_ h_ => h_)) (Kd.R_lt (qRm HO_6))) (below_size (qS HB)));replace HO_6:=qRd HO_6 ho30 hb;replace HB:=qs HB hb;clear hb ho30;obtain ⟨Ao32,co32,eo32⟩:=Kd.V_slice HO_7.out;subst eo32)|((with_reducible refine gate_builtin (b:=.append) (xs:=#[.tmp 24,.tmp 25]) rfl ?_);at_builtin;refine Kd.R_append_rows Kd.bool (w0:=w) w.heap.size rfl (.tmp 24) (.tmp 25) 42 4 (.bool false) 1 rfl Try.underlying42 info4 rfl (by decide) (by omega) v757 y756 x7_1 _ _ _ (fun k_ => (w.heap.size ≤ k_) ∧ some k_ ≠ (v747 : Value).ownBlock) (fun _ => False) rfl rfl ?aO ?aR (fun _ _ h => h) (fun _ h => h.elim) ?aF ?aB ?aS ?aL ?_;(case aR => exact qCV HO_7);(case aB => exact (qS HB));(case aF => exact (fun k_ hk => ⟨(Nat.le_trans (below_size (qS HB)) hk),Kd.fresh' (Kd.R_lt (qRm HO_6)) k_ hk⟩));(case aO => exact (qRm HO758));(case aS => exact (below_size (qS HB)));(case aL => have:=LMc12.out;omega);intro v760 w31 ho hb hg hat;rw [← Ny759.out] at ho;replace HO_6:=Aside0.mk (Kd.R_after (ok:=(fun k_ => (w.heap.size ≤ k_))) (qRm HO_6) hg hat);replace HO_7:=Aside0.mk (Kd.V_afterv (ok:=(fun k_ => (w.heap.size ≤ k_) ∧ some k_ ≠ (v747 : Value).ownBlock)) (qVm HO_7) hg hat);replace HB:=Aside0.mk (hb);have HO761:=Aside0.mk (ho);(try clear HO758);clear ho hb hg hat;obtain ⟨Ao33,co33,eo33⟩:=Kd.R_slice HO761.out;subst eo33)|((with_reducible refine gate_callee (f:=111) rfl ?_);refine gL (some 27) Try.func111 #[.slice Ao33 y759.length co33] ?_;(with_reducible refine (sacristyref01_Trim.calls k1 (fun k_ => some k_ = (.slice Ao33 y759.length co33 : Value).ownBlock) _ _ y759 t762 _ ?side1 A13.out).mono ?_);(case side1 => exact Kd.R_V (Kd.R_tight rfl (HO761.out)));rintro e w34 ⟨v763,rfl,ho0,hb⟩;refine ⟨_,rfl,?_⟩;replace HO_7:=qVb HO_7 hb;have HO764:=Aside0.mk (Kd.V_lower (Kd.V_mono (ok':=fun k_ => (w.heap.size ≤ k_) ∧ some k_ ≠ (v747 : Value).ownBlock) ho0 (fun k_ hk_ => ⟨Or.elim hk_ (fun hs_ => ((HO761.out).1 k_ hs_.symm).1) (fun hn_ => (Nat.le_trans (below_size (qS HB)) hn_)),Or.elim hk_ (fun hs_ => ((HO761.out).1 k_ hs_.symm).2) (fun hn_ => (Kd.fresh' (Kd.R_lt (qRm HO_6)) k_ hn_))⟩)) (below_size (qS HB)));replace HO_6:=qRb HO_6 hb;replace HO761:=qRb HO761 hb;replace HB:=qs HB hb;clear hb ho0;obtain ⟨Ao35,co35,eo35⟩:=Kd.V_slice HO764.out;subst eo35)|((with_reducible refine gate_callee (f:=46) rfl ?_);refine gL (some 30) Try.func46 #[.slice Ao35 t762.length co35,.slice A1 l1.length c1] ?_;(with_reducible refine (sacristyref01_Cmp.calls k1 _ _ t762 _ _ l1 t765 _ ?side1 ?side2 ?side3 ?side4 A14.out).mono ?_);(case side1 => exact qCV HO764);(case side2 => exact qL HO764);(case side3 => exact qCB HR1 HB);(case side4 => exact HC1.out);rintro e w' ⟨rfl,⟨nd,rfl⟩⟩;refine ⟨_,rfl,?_⟩))
          go_roundg k1
          case measure => have:=HK1.out;omega
          case rel => exact ⟨(x6_1),(t762),(wrap64 (x8_1 - 1)),(by first|rfl|(simp;done)|(simp [*];done)),H',⟨by have:=HK1.out;omega⟩,⟨qRm HO_6⟩,⟨qVm HO764⟩,⟨qS HB⟩⟩
        ·rw [if_neg c12] at H
         exact absurd H (by simp)
       ·rw [if_neg c11] at H
        exact absurd H (by simp)
      ·rw [if_neg c10] at H
       exact absurd H (by simp)
     ·rw [if_neg c9] at H
      have c9b0 : decide (0 ≤ x8_1) = false:=decide_eq_false c9
      clear c9
      obtain ⟨t752,A36,H⟩:=qH H
      simp only [Option.some.injEq,Prod.mk.injEq] at H
      obtain ⟨rfl,rfl⟩:=H
      obtain ⟨Ao37,co37,eo37⟩:=Kd.R_slice HO_6.out
      subst eo37
      go_wp2_with (first|((with_reducible refine gate_callee (f:=111) rfl ?_);refine gL (some 39) Try.func111 #[.slice Ao37 x6_1.length co37] ?_;(with_reducible refine (sacristyref01_Trim.calls k1 (fun k_ => some k_ = (.slice Ao37 x6_1.length co37 : Value).ownBlock) _ _ x6_1 t752 _ ?side1 A36.out).mono ?_);(case side1 => exact Kd.R_V (Kd.R_tight rfl (HO_6.out)));rintro e w38 ⟨v753,rfl,ho0,hb⟩;refine ⟨_,rfl,?_⟩;replace HO_7:=qVb HO_7 hb;have HO754:=Aside0.mk (Kd.V_lower (Kd.V_mono (ok':=fun k_ => (w.heap.size ≤ k_)) ho0 (fun k_ hk_ => Or.elim hk_ (fun hs_ => ((HO_6.out).1 k_ hs_.symm)) (fun hn_ => (Nat.le_trans (below_size (qS HB)) hn_)))) (below_size (qS HB)));replace HO_6:=qRb HO_6 hb;replace HB:=qs HB hb;clear hb ho0))
      (first|go_ret2|(refine ⟨_,results_tmp2 rfl _ _ _,?_⟩))
      exact ⟨_,_,by first|rfl|(simp [errW_none,errW_some] <;> rfl)|(simp [*,errW_none,errW_some] <;> rfl),qVm HO754,qVm HO_7,qS HB⟩
  ·rw [if_neg c4] at H
   exact absurd H (by simp)
 ·rw [if_neg c3] at H
  exact absurd H (by simp)
end Go.Proofs.Yteejcpbngnojkaa.P
end
section
namespace Go.Proofs.Yteejcpbngnojkaa.P
open Go.RowKit Go.Proofs.YteejcpbngnojkaaW.PrintWords Go.Proofs.YteejcpbngnojkaaW.PrintLast Go.Proofs.YteejcpbngnojkaaW.PrintMore
attribute [local go_sem] max2_int min2_int max_two min_two max_three min_three max_four min_four
set_option linter.unusedVariables false
set_option linter.unusedSimpArgs false
mutual
def sacristyref01_Add.l0 : Nat → List Bool → List Bool → List Bool → Int → Int → Option (List Bool)
 |0,_,_,_,_,_ => none
 |k + 1,x0,x1,x5,x6,x7 => if x7 < (x0.length : Int) then (sacristyref01_Add.j1 k x0 x1 x5 x6 x7 true) else (if x7 < (x1.length : Int) then (sacristyref01_Add.j1 k x0 x1 x5 x6 x7 true) else (sacristyref01_Add.j1 k x0 x1 x5 x6 x7 (decide (x6 > 0))))
def sacristyref01_Add.j1 : Nat → List Bool → List Bool → List Bool → Int → Int → Bool → Option (List Bool)
 |0,_,_,_,_,_,_ => none
 |k + 1,x0,x1,x5,x6,x7,x23 => if x23 = true then ((sacristyref01_at.f x0 x7).bind fun t853 => ((sacristyref01_at.f x1 x7).bind fun t854 => (if x5.length < 140737488355328 then (sacristyref01_Add.l0 k x0 x1 (x5 ++ [((Int.tmod (wrap64 ((wrap64 (t853 + t854)) + x6)) 2) == 1)]) (wrap64 (Int.tdiv (wrap64 ((wrap64 (t853 + t854)) + x6)) 2)) (wrap64 (x7 + 1))) else (none)))) else ((sacristyref01_Trim.f k x5).bind fun t858 => (some t858))
end
def sacristyref01_Add.f (k : Nat) (l0 : List Bool) (l1 : List Bool) : Option (List Bool):=sacristyref01_Add.l0 k l0 l1 (([] : List Bool)) 0 0
theorem sacristyref01_Add.mono_l : ∀ k,(∀ y0 y1 y2 y3 y4,LeO (sacristyref01_Add.l0 k y0 y1 y2 y3 y4) (sacristyref01_Add.l0 (k + 1) y0 y1 y2 y3 y4)) ∧ (∀ y0 y1 y2 y3 y4 y5,LeO (sacristyref01_Add.j1 k y0 y1 y2 y3 y4 y5) (sacristyref01_Add.j1 (k + 1) y0 y1 y2 y3 y4 y5))
 |0 => ⟨fun _ _ _ _ _ r h => by simp [sacristyref01_Add.l0] at h,fun _ _ _ _ _ _ r h => by simp [sacristyref01_Add.j1] at h⟩
 |k + 1 => by
  obtain ⟨ih0,ih1⟩:=sacristyref01_Add.mono_l k
  refine ⟨?_,?_⟩
  ·intro y0 y1 y2 y3 y4
   unfold sacristyref01_Add.l0
   repeat' first
   |(with_reducible exact ih0 _ _ _ _ _)
   |(with_reducible exact ih1 _ _ _ _ _ _)
   |(with_reducible exact sacristyref01_Trim.mono _ _)
   |(with_reducible exact LeO.refl _)
   |(with_reducible exact LeO.none _)
   |(with_reducible refine LeO.ite ?_ ?_)
   |(with_reducible refine LeO.bind ?_ (fun _ => ?_))
   |exact ih0 _ _ _ _ _
   |exact ih1 _ _ _ _ _ _
   |exact sacristyref01_Trim.mono _ _
   |exact LeO.none _
   |refine LeO.ite ?_ ?_
   |refine LeO.bind ?_ (fun _ => ?_)
  ·intro y0 y1 y2 y3 y4 y5
   unfold sacristyref01_Add.j1
   repeat' first
   |(with_reducible exact ih0 _ _ _ _ _)
   |(with_reducible exact ih1 _ _ _ _ _ _)
   |(with_reducible exact sacristyref01_Trim.mono _ _)
   |(with_reducible exact LeO.refl _)
   |(with_reducible exact LeO.none _)
   |(with_reducible refine LeO.ite ?_ ?_)
   |(with_reducible refine LeO.bind ?_ (fun _ => ?_))
   |exact ih0 _ _ _ _ _
   |exact ih1 _ _ _ _ _ _
   |exact sacristyref01_Trim.mono _ _
   |exact LeO.none _
   |refine LeO.ite ?_ ?_
   |refine LeO.bind ?_ (fun _ => ?_)
theorem sacristyref01_Add.mono : ∀ a0 a1 k,LeO (sacristyref01_Add.f k a0 a1) (sacristyref01_Add.f (k + 1) a0 a1):=by
 intro a0 a1 k
 obtain ⟨ih0,ih1⟩:=sacristyref01_Add.mono_l k
 unfold sacristyref01_Add.f
 repeat' first
   |(with_reducible exact ih0 _ _ _ _ _)
   |(with_reducible exact ih1 _ _ _ _ _ _)
   |(with_reducible exact sacristyref01_Trim.mono _ _)
   |(with_reducible exact LeO.refl _)
   |(with_reducible exact LeO.none _)
   |(with_reducible refine LeO.ite ?_ ?_)
   |(with_reducible refine LeO.bind ?_ (fun _ => ?_))
   |exact ih0 _ _ _ _ _
   |exact ih1 _ _ _ _ _ _
   |exact sacristyref01_Trim.mono _ _
   |exact LeO.none _
   |refine LeO.ite ?_ ?_
   |refine LeO.bind ?_ (fun _ => ?_)
set_option maxHeartbeats 8000000 in
set_option maxRecDepth 100000 in
theorem sacristyref01_Add.calls (k : Nat) (A0 : Option Addr) (c0 : Nat) (l0 : List Bool) (A1 : Option Addr) (c1 : Nat) (l1 : List Bool) (r : List Bool) (w : World) (hr0 : Kd.C Kd.bool w A0 l0.length l0) (hc0 : l0.length ≤ c0) (hr1 : Kd.C Kd.bool w A1 l1.length l1) (hc1 : l1.length ≤ c1) (h : sacristyref01_Add.f k l0 l1 = some r) :
  Calls Try.prog 64 #[.slice A0 l0.length c0,.slice A1 l1.length c1] w fun e w' => ∃ v0_ : Value,e = .returned (v0_) ∧ Kd.V Kd.bool 4 w' w.heap.size (fun k_ => (w.heap.size ≤ k_)) v0_ r ∧ Below w.heap.size w w':=by
 have HR0:=Aside0.mk hr0
 have HC0:=Aside0.mk hc0
 clear hr0 hc0
 have HR1:=Aside0.mk hr1
 have HC1:=Aside0.mk hc1
 clear hr1 hc1
 have HB:=Aside0.mk (Below.refl w.heap.size w)
 have H : (sacristyref01_Add.l0 k l0 l1 (([] : List Bool)) 0 0) = some r:=h
 clear h
 obtain ⟨y850,hy850⟩ : ∃ y_ : List Bool,y_ = (([] : List Bool)):=⟨_,rfl⟩
 replace H : (sacristyref01_Add.l0 k l0 l1 y850 0 0) = some r:=by first|(rw [hy850];with_reducible exact H)|(have H2_:=(Option.bind_some _ _).symm.trans H;rw [hy850];with_reducible exact H2_)|(have H2_:=(Option.bind_some _ _).symm.trans H;with_reducible exact H2_)|with_reducible exact H|(rw [hy850];exact H)|exact H
 have Ny850:=Aside0.mk hy850
 clear hy850
 have H':=Aside0.mk H
 clear H
 go_enter Try.func64,Try.ntmps64
 go_wp2_with (first|((with_reducible refine gate_dst (N:=9) rfl ?_);(try (refine gate_guard (by rfl) ?_;dsimp only));refine Kd.R_lit Kd.bool _ 4 ?hg (N:=9) ?hd (xs:=([] : List Bool)) (inner:=[]) (ok:=fun _ => True) (okp:=fun _ => True) ?hr ?hp (fun _ hk => hk) trivial (Below.refl _ _) (Nat.le_refl _) (by simp) ?_;(case hd => rfl);(case hg => rfl);(case hr => first|(go_simp;done)|(go_simp;rfl));(case hp => exact (Reps.none _ _));intro v851 w3 ho4 hb hg_ hnew_;clear hg_ hnew_;(first|rw [← Ny850.out] at ho4|(simp only [Int.reduceToNat] at ho4;rw [← Ny850.out] at ho4));have HO852:=Aside0.mk (Kd.R_lower (Kd.R_newM (M:=fun k_ => (w.heap.size ≤ k_)) ho4 (below_size (qS HB)) (fun k_ h_ => h_)) (below_size (qS HB)));replace HB:=qs HB hb;clear hb ho4))
 go_loopg [5,6,7] k (fun kq v5 v6 v7 w' => ∃ (x5_1 : List Bool) (x6_1 : Int) (x7_1 : Int),v6 = .int .i64 x6_1 ∧ v7 = .int .i64 x7_1 ∧ Aside0 (sacristyref01_Add.l0 kq l0 l1 x5_1 x6_1 x7_1 = some r) ∧ Aside0 (kq ≤ k) ∧ Aside0 (Kd.R Kd.bool 4 w' w.heap.size (fun k_ => (w.heap.size ≤ k_)) v5 x5_1) ∧ Aside0 (Below w.heap.size w w'))
 case atStart => exact ⟨(y850),(0),(0),(by first|rfl|(simp;done)|(simp [*];done)),(by first|rfl|(simp;done)|(simp [*];done)),H',⟨Nat.le_refl _⟩,⟨qRm HO852⟩,⟨qS HB⟩⟩
 case round =>
  clear H'
  try clear c1
  try clear p2
  obtain ⟨x5_1,x6_1,x7_1,rfl,rfl,HA,HK1,HO_5,HB⟩:=hrel
  cases gk with
  |zero => exact absurd HA.out (by simp [sacristyref01_Add.l0])
  |succ k1 =>
   have H:=HA.out
   clear HA
   simp only [sacristyref01_Add.l0] at H
   have HC5:=Aside0.mk H
   clear H
   go_upto_region 4 with (fail)
   go_cut [23] (fun v23 wc => ∃ (kq : Nat) (x23_4 : Bool),v23 = .bool x23_4 ∧ Aside0 (sacristyref01_Add.j1 kq l0 l1 x5_1 x6_1 x7_1 x23_4 = some r) ∧ Aside0 (kq ≤ k1) ∧ Aside0 (Kd.R Kd.bool 4 wc w.heap.size (fun k_ => (w.heap.size ≤ k_)) u5 x5_1) ∧ Aside0 (Below w.heap.size w wc))
   case first =>
    have H:=HC5.out
    clear HC5
    by_cases c6 : x7_1 < (l0.length : Int)
    ·rw [if_pos c6] at H
     have c6b0 : decide (x7_1 < (l0.length : Int)) = true:=decide_eq_true c6
     clear c6
     (first|rw [c6b0]|(simp only [i64_w,i32_w];rw [c6b0])|skip)
     have H':=Aside0.mk H
     clear H
     go_wp2
     go_meet
     case rel => exact ⟨_,(true),(by first|rfl|(simp;done)|(simp [*];done)),H',⟨by have:=HK1.out;first|omega|exact Nat.le_refl _⟩,⟨qRm HO_5⟩,⟨qS HB⟩⟩
    ·rw [if_neg c6] at H
     have c6b0 : decide (x7_1 < (l0.length : Int)) = false:=decide_eq_false c6
     clear c6
     (first|rw [c6b0]|(simp only [i64_w,i32_w];rw [c6b0])|skip)
     by_cases c7 : x7_1 < (l1.length : Int)
     ·rw [if_pos c7] at H
      have c7b0 : decide (x7_1 < (l1.length : Int)) = true:=decide_eq_true c7
      clear c7
      have H':=Aside0.mk H
      clear H
      go_wp2
      go_meet
      case rel => exact ⟨_,(true),(by first|rfl|(simp;done)|(simp [*];done)),H',⟨by have:=HK1.out;first|omega|exact Nat.le_refl _⟩,⟨qRm HO_5⟩,⟨qS HB⟩⟩
     ·rw [if_neg c7] at H
      have c7b0 : decide (x7_1 < (l1.length : Int)) = false:=decide_eq_false c7
      clear c7
      have H':=Aside0.mk H
      clear H
      go_wp2
      go_meet
      case rel => exact ⟨_,(decide (x6_1 > 0)),(by first|rfl|(simp;done)|(simp [*];done)),H',⟨by have:=HK1.out;first|omega|exact Nat.le_refl _⟩,⟨qRm HO_5⟩,⟨qS HB⟩⟩
   case rest =>
    clear HC5
    try clear c1
    try clear p2
    try clear c6
    try clear c6b0
    try clear c7
    try clear c7b0
    try clear p2
    obtain ⟨kq,x23_4,rfl,HA,HJ4,HO_5,HB⟩:=hcut
    cases kq with
    |zero => exact absurd HA.out (by simp [sacristyref01_Add.j1])
    |succ kj4 =>
     have H:=HA.out
     clear HA
     simp only [sacristyref01_Add.j1] at H
     by_cases c8 : x23_4 = true
     ·subst c8
      rw [if_pos rfl] at H
      obtain ⟨t853,A9,H⟩:=qH H
      obtain ⟨t854,A10,H⟩:=qH H
      by_cases c11 : x5_1.length < 140737488355328
      ·rw [if_pos c11] at H
       have LMc11:=Aside0.mk c11
       clear c11
       obtain ⟨y855,hy855⟩ : ∃ y_ : List Bool,y_ = (x5_1 ++ [((Int.tmod (wrap64 ((wrap64 (t853 + t854)) + x6_1)) 2) == 1)]):=⟨_,rfl⟩
       replace H : (sacristyref01_Add.l0 kj4 l0 l1 y855 (wrap64 (Int.tdiv (wrap64 ((wrap64 (t853 + t854)) + x6_1)) 2)) (wrap64 (x7_1 + 1))) = some r:=by first|(rw [hy855];with_reducible exact H)|(have H2_:=(Option.bind_some _ _).symm.trans H;rw [hy855];with_reducible exact H2_)|(have H2_:=(Option.bind_some _ _).symm.trans H;with_reducible exact H2_)|with_reducible exact H|(rw [hy855];exact H)|exact H
       have Ny855:=Aside0.mk hy855
       clear hy855
       have H':=Aside0.mk H
       clear H
       go_wp2_with (first|((with_reducible refine gate_callee (f:=112) rfl ?_);refine gL (some 28) Try.func112 #[.slice A0 l0.length c0,.int .i64 x7_1] ?_;(with_reducible refine (sacristyref01_at.calls _ _ l0 x7_1 t853 _ ?side1 ?side2 A9.out).mono ?_);(case side1 => exact qCB HR0 HB);(case side2 => exact HC0.out);rintro e w' ⟨rfl,⟨nd,rfl⟩⟩;refine ⟨_,rfl,?_⟩)|((with_reducible refine gate_callee (f:=112) rfl ?_);refine gL (some 31) Try.func112 #[.slice A1 l1.length c1,.int .i64 x7_1] ?_;(with_reducible refine (sacristyref01_at.calls _ _ l1 x7_1 t854 _ ?side1 ?side2 A10.out).mono ?_);(case side1 => repeat (first|exact (Kd.C_below HR1.out (qS HB))|(with_reducible refine Kd.C_alloc ?_ _)|(with_reducible refine Kd.C_drewN ?_ _)|(with_reducible refine Kd.C_drew ?_)));(case side2 => exact HC1.out);rintro e w' ⟨rfl,⟨nd,rfl⟩⟩;refine ⟨_,rfl,?_⟩)|((with_reducible refine gate_builtin (b:=.append) (xs:=#[.tmp 35,.tmp 39]) rfl ?_);(try (refine gate_guard (by rfl) ?_;dsimp only));at_builtin;refine Kd.R_append Kd.bool (w0:=w) w.heap.size rfl (.tmp 35) (.tmp 39) 42 4 (.bool false) 1 rfl Try.underlying42 info4 rfl (by decide) (by omega) u5 x5_1 ((Int.tmod (wrap64 ((wrap64 (t853 + t854)) + x6_1)) 2) == 1) [.bool ((Int.tmod (wrap64 ((wrap64 (t853 + t854)) + x6_1)) 2) == 1)] (fun k_ => (w.heap.size ≤ k_)) (fun _ => False) rfl rfl ?aP (fun _ hk => hk.elim) ?aF ?aO ?aB ?aS ?aL ?_;(case aP => exact rfl);(case aB => exact (qS HB));(case aF => exact (fun k_ hk => (Nat.le_trans (below_size (qS HB)) hk)));(case aO => exact (qRm HO_5));(case aS => exact (below_size (qS HB)));(case aL => have:=LMc11.out;omega);intro v856 w12 ho hb hg hat;rw [← Ny855.out] at ho;replace HB:=Aside0.mk (hb);have HO857:=Aside0.mk (ho);(try clear HO_5);clear ho hb hg hat))
       go_roundg kj4
       case measure => have:=HK1.out;have:=HJ4.out;omega
       case rel => exact ⟨(y855),(wrap64 (Int.tdiv (wrap64 ((wrap64 (t853 + t854)) + x6_1)) 2)),(wrap64 (x7_1 + 1)),(by first|rfl|(simp;done)|(simp [*];done)),(by first|rfl|(simp;done)|(simp [*];done)),H',⟨by have:=HK1.out;have:=HJ4.out;omega⟩,⟨qRm HO857⟩,⟨qS HB⟩⟩
      ·rw [if_neg c11] at H
       exact absurd H (by simp)
     ·replace c8:=Bool.eq_false_iff.mpr c8
      subst c8
      rw [qFT] at H
      obtain ⟨t858,A13,H⟩:=qH H
      obtain rfl:=Option.some.inj H
      obtain ⟨Ao14,co14,eo14⟩:=Kd.R_slice HO_5.out
      subst eo14
      go_wp2_with (first|((with_reducible refine gate_callee (f:=111) rfl ?_);refine gL (some 44) Try.func111 #[.slice Ao14 x5_1.length co14] ?_;(with_reducible refine (sacristyref01_Trim.calls kj4 (fun k_ => some k_ = (.slice Ao14 x5_1.length co14 : Value).ownBlock) _ _ x5_1 t858 _ ?side1 A13.out).mono ?_);(case side1 => exact Kd.R_V (Kd.R_tight rfl (HO_5.out)));rintro e w15 ⟨v859,rfl,ho0,hb⟩;refine ⟨_,rfl,?_⟩;have HO860:=Aside0.mk (Kd.V_lower (Kd.V_mono (ok':=fun k_ => (w.heap.size ≤ k_)) ho0 (fun k_ hk_ => Or.elim hk_ (fun hs_ => ((HO_5.out).1 k_ hs_.symm)) (fun hn_ => (Nat.le_trans (below_size (qS HB)) hn_)))) (below_size (qS HB)));replace HO_5:=qRb HO_5 hb;replace HB:=qs HB hb;clear hb ho0))
      (first|go_ret|(refine ⟨_,results_tmp rfl _ _ _,?_⟩))
      exact ⟨_,by first|rfl|(simp [errW_none,errW_some] <;> rfl)|(simp [*,errW_none,errW_some] <;> rfl),qVm HO860,qS HB⟩
end Go.Proofs.Yteejcpbngnojkaa.P
end
section
namespace Go.Proofs.Yteejcpbngnojkaa.P
open Go.RowKit Go.Proofs.YteejcpbngnojkaaW.PrintWords Go.Proofs.YteejcpbngnojkaaW.PrintLast Go.Proofs.YteejcpbngnojkaaW.PrintMore
attribute [local go_sem] max2_int min2_int max_two min_two max_three min_three max_four min_four
set_option linter.unusedVariables false
set_option linter.unusedSimpArgs false
def sacristyref01_Shift.f (l0 : List Bool) (a1 : Int) : Option (List Bool):=if (l0.length : Int) = 0 then (some (([] : List Bool))) else (if 0 ≤ a1 then (if (a1 : Int).toNat ≤ 281474976710656 then ((some (List.replicate (a1 : Int).toNat false : List Bool)).bind fun y864 => (if y864.length + l0.length < 140737488355328 then (some (y864 ++ l0)) else (none))) else (none)) else (none))
set_option maxHeartbeats 8000000 in
set_option maxRecDepth 100000 in
theorem sacristyref01_Shift.calls (A0 : Option Addr) (c0 : Nat) (l0 : List Bool) (a1 : Int) (r : List Bool) (w : World) (hr0 : Kd.C Kd.bool w A0 l0.length l0) (hc0 : l0.length ≤ c0) (h : sacristyref01_Shift.f l0 a1 = some r) :
  Calls Try.prog 110 #[.slice A0 l0.length c0,.int .i64 a1] w fun e w' => ∃ v0_ : Value,e = .returned (v0_) ∧ Kd.R Kd.bool 4 w' w.heap.size (fun _ => True) v0_ r ∧ Below w.heap.size w w':=by
 have HR0:=Aside0.mk hr0
 have HC0:=Aside0.mk hc0
 clear hr0 hc0
 have HB:=Aside0.mk (Below.refl w.heap.size w)
 have H : (if (l0.length : Int) = 0 then (some (([] : List Bool))) else (if 0 ≤ a1 then (if (a1 : Int).toNat ≤ 281474976710656 then ((some (List.replicate (a1 : Int).toNat false : List Bool)).bind fun y864 => (if y864.length + l0.length < 140737488355328 then (some (y864 ++ l0)) else (none))) else (none)) else (none))) = some r:=h
 clear h
 by_cases c3 : (l0.length : Int) = 0
 ·rw [if_pos c3] at H
  have c3b0 : ((l0.length : Int) == 0) = true:=beq_iff_eq.mpr c3
  have c3b1 : ((l0.length : Int) != 0) = false:=bne_eq_false_iff_eq.mpr c3
  clear c3
  obtain ⟨y861,hy861⟩ : ∃ y_ : List Bool,y_ = (([] : List Bool)):=⟨_,rfl⟩
  replace H : (some y861) = some r:=by first|(rw [hy861];with_reducible exact H)|(have H2_:=(Option.bind_some _ _).symm.trans H;rw [hy861];with_reducible exact H2_)|(have H2_:=(Option.bind_some _ _).symm.trans H;with_reducible exact H2_)|with_reducible exact H|(rw [hy861];exact H)|exact H
  have Ny861:=Aside0.mk hy861
  clear hy861
  obtain rfl:=Option.some.inj H
  go_enter Try.func110,Try.ntmps110
  go_wp2_with (first|((with_reducible refine gate_dst (N:=8) rfl ?_);refine Kd.R_lit Kd.bool _ 4 ?hg (N:=8) ?hd (xs:=([] : List Bool)) (inner:=[]) (ok:=fun _ => True) (okp:=fun _ => True) ?hr ?hp (fun _ hk => hk) trivial (Below.refl _ _) (Nat.le_refl _) (by simp) ?_;(case hd => rfl);(case hg => rfl);(case hr => first|(go_simp;done)|(go_simp;rfl));(case hp => exact (Reps.none _ _));intro v862 w4 ho5 hb hg_ hnew_;clear hg_ hnew_;(first|rw [← Ny861.out] at ho5|(simp only [Int.reduceToNat] at ho5;rw [← Ny861.out] at ho5));have HO863:=Aside0.mk (Kd.R_lower ho5 (below_size (qS HB)));replace HB:=qs HB hb;clear hb ho5))
  (first|go_ret|(refine ⟨_,results_tmp rfl _ _ _,?_⟩))
  exact ⟨_,by first|rfl|(simp [errW_none,errW_some] <;> rfl)|(simp [*,errW_none,errW_some] <;> rfl),qRm HO863,qS HB⟩
 ·rw [if_neg c3] at H
  have c3b0 : ((l0.length : Int) == 0) = false:=beq_eq_false_iff_ne.mpr c3
  have c3b1 : ((l0.length : Int) != 0) = true:=bne_iff_ne.mpr c3
  have c3b2 : ¬ (l0 = []):=fun h_ => c3 (by rw [h_];rfl)
  by_cases c6 : 0 ≤ a1
  ·rw [if_pos c6] at H
   have c6b0:=eq_true c6
   have c6b1 : decide (0 ≤ a1) = true:=decide_eq_true c6
   clear c6
   by_cases c7 : (a1 : Int).toNat ≤ 281474976710656
   ·rw [if_pos c7] at H
    have c7b0:=eq_true c7
    have c7b1 : decide ((a1 : Int).toNat ≤ 281474976710656) = true:=decide_eq_true c7
    clear c7
    obtain ⟨y864,hy864⟩ : ∃ y_ : List Bool,y_ = (List.replicate (a1 : Int).toNat false):=⟨_,rfl⟩
    replace H : (if y864.length + l0.length < 140737488355328 then (some (y864 ++ l0)) else (none)) = some r:=by first|(rw [hy864];with_reducible exact H)|(have H2_:=(Option.bind_some _ _).symm.trans H;rw [hy864];with_reducible exact H2_)|(have H2_:=(Option.bind_some _ _).symm.trans H;with_reducible exact H2_)|with_reducible exact H|(rw [hy864];exact H)|exact H
    have Ny864:=Aside0.mk hy864
    clear hy864
    by_cases c8 : y864.length + l0.length < 140737488355328
    ·rw [if_pos c8] at H
     have LMc8:=Aside0.mk c8
     clear c8
     obtain ⟨y867,hy867⟩ : ∃ y_ : List Bool,y_ = (y864 ++ l0):=⟨_,rfl⟩
     replace H : (some y867) = some r:=by first|(rw [hy867];with_reducible exact H)|(have H2_:=(Option.bind_some _ _).symm.trans H;rw [hy867];with_reducible exact H2_)|(have H2_:=(Option.bind_some _ _).symm.trans H;with_reducible exact H2_)|with_reducible exact H|(rw [hy867];exact H)|exact H
     have Ny867:=Aside0.mk hy867
     clear hy867
     obtain rfl:=Option.some.inj H
     go_enter Try.func110,Try.ntmps110
     go_wp2_with (first|((with_reducible refine gate_dst (N:=10) rfl ?_);refine Kd.R_make Kd.bool _ 4 rfl (N:=10) rfl 42 _ _ rfl a1 rfl rfl Try.underlying42 (.bool false) 1 info4 rfl (by decide) (by omega) false (ok:=fun _ => True) (okp:=fun _ => True) rfl (fun _ hk => hk) trivial (od) (Nat.le_trans (Nat.mul_le_mul_right _ (od : a1.toNat ≤ 281474976710656)) (by omega)) (Below.refl _ _) (Nat.le_refl _) ?_;intro v865 w9 ho10 hb hg_ hnew_;clear hg_ hnew_;(first|rw [← Ny864.out] at ho10|(simp only [Int.reduceToNat] at ho10;rw [← Ny864.out] at ho10));have HO866:=Aside0.mk (Kd.R_lower ho10 (below_size (qS HB)));replace HB:=qs HB hb;clear hb ho10)|((with_reducible refine gate_builtin (b:=.append) (xs:=#[.tmp 10,.tmp 11]) rfl ?_);at_builtin;refine Kd.R_append_rows Kd.bool (w0:=w) w.heap.size rfl (.tmp 10) (.tmp 11) 42 4 (.bool false) 1 rfl Try.underlying42 info4 rfl (by decide) (by omega) v865 y864 l0 _ _ _ (fun _ => True) (fun _ => False) rfl rfl ?aO ?aR (fun _ _ h => h) (fun _ h => h.elim) ?aF ?aB ?aS ?aL ?_;(case aR => exact qCB HR0 HB);(case aB => exact (qS HB));(case aF => exact (fun _ _ => trivial));(case aO => exact (qRm HO866));(case aS => exact (below_size (qS HB)));(case aL => have:=LMc8.out;omega);intro v868 w11 ho hb hg hat;rw [← Ny867.out] at ho;replace HB:=Aside0.mk (hb);have HO869:=Aside0.mk (ho);(try clear HO866);clear ho hb hg hat))
     (first|go_ret|(refine ⟨_,results_tmp rfl _ _ _,?_⟩))
     exact ⟨_,by first|rfl|(simp [errW_none,errW_some] <;> rfl)|(simp [*,errW_none,errW_some] <;> rfl),qRm HO869,qS HB⟩
    ·rw [if_neg c8] at H
     exact absurd H (by simp)
   ·rw [if_neg c7] at H
    exact absurd H (by simp)
  ·rw [if_neg c6] at H
   exact absurd H (by simp)
end Go.Proofs.Yteejcpbngnojkaa.P
end
section
namespace Go.Proofs.Yteejcpbngnojkaa.P
open Go.RowKit Go.Proofs.YteejcpbngnojkaaW.PrintWords Go.Proofs.YteejcpbngnojkaaW.PrintLast Go.Proofs.YteejcpbngnojkaaW.PrintMore
attribute [local go_sem] max2_int min2_int max_two min_two max_three min_three max_four min_four
set_option linter.unusedVariables false
set_option linter.unusedSimpArgs false
def sacristyref01_Mul.l0 : Nat → List Bool → List Bool → List Bool → Int → Int → Option (List Bool)
 |0,_,_,_,_,_ => none
 |k + 1,x0,x5,x9,x10,x11 => if x11 < x10 then (if 0 ≤ x11 then (if x11 < (x9.length : Int) then (if rdOf false x9 x11 = true then ((sacristyref01_Shift.f x0 x11).bind fun t874 => ((sacristyref01_Add.f k x5 t874).bind fun t877 => (sacristyref01_Mul.l0 k x0 t877 x9 x10 (wrap64 (x11 + 1))))) else (sacristyref01_Mul.l0 k x0 x5 x9 x10 (wrap64 (x11 + 1)))) else (none)) else (none)) else (some x5)
def sacristyref01_Mul.f (k : Nat) (l0 : List Bool) (l1 : List Bool) : Option (List Bool):=sacristyref01_Mul.l0 k l0 (([] : List Bool)) l1 (l1.length : Int) 0
theorem sacristyref01_Mul.mono_l : ∀ k,(∀ y0 y1 y2 y3 y4,LeO (sacristyref01_Mul.l0 k y0 y1 y2 y3 y4) (sacristyref01_Mul.l0 (k + 1) y0 y1 y2 y3 y4))
 |0 => fun _ _ _ _ _ r h => by simp [sacristyref01_Mul.l0] at h
 |k + 1 => by
  have ih0:=sacristyref01_Mul.mono_l k
  ·intro y0 y1 y2 y3 y4
   unfold sacristyref01_Mul.l0
   repeat' first
   |(with_reducible exact ih0 _ _ _ _ _)
   |(with_reducible exact sacristyref01_Add.mono _ _ _)
   |(with_reducible exact LeO.refl _)
   |(with_reducible exact LeO.none _)
   |(with_reducible refine LeO.ite ?_ ?_)
   |(with_reducible refine LeO.bind ?_ (fun _ => ?_))
   |exact ih0 _ _ _ _ _
   |exact sacristyref01_Add.mono _ _ _
   |exact LeO.none _
   |refine LeO.ite ?_ ?_
   |refine LeO.bind ?_ (fun _ => ?_)
theorem sacristyref01_Mul.mono : ∀ a0 a1 k,LeO (sacristyref01_Mul.f k a0 a1) (sacristyref01_Mul.f (k + 1) a0 a1):=by
 intro a0 a1 k
 have ih0:=sacristyref01_Mul.mono_l k
 unfold sacristyref01_Mul.f
 repeat' first
   |(with_reducible exact ih0 _ _ _ _ _)
   |(with_reducible exact sacristyref01_Add.mono _ _ _)
   |(with_reducible exact LeO.refl _)
   |(with_reducible exact LeO.none _)
   |(with_reducible refine LeO.ite ?_ ?_)
   |(with_reducible refine LeO.bind ?_ (fun _ => ?_))
   |exact ih0 _ _ _ _ _
   |exact sacristyref01_Add.mono _ _ _
   |exact LeO.none _
   |refine LeO.ite ?_ ?_
   |refine LeO.bind ?_ (fun _ => ?_)
set_option maxHeartbeats 8000000 in
set_option maxRecDepth 100000 in
theorem sacristyref01_Mul.calls (k : Nat) (A0 : Option Addr) (c0 : Nat) (l0 : List Bool) (A1 : Option Addr) (c1 : Nat) (l1 : List Bool) (r : List Bool) (w : World) (hr0 : Kd.C Kd.bool w A0 l0.length l0) (hc0 : l0.length ≤ c0) (hr1 : Kd.C Kd.bool w A1 l1.length l1) (hc1 : l1.length ≤ c1) (h : sacristyref01_Mul.f k l0 l1 = some r) :
  Calls Try.prog 58 #[.slice A0 l0.length c0,.slice A1 l1.length c1] w fun e w' => ∃ v0_ : Value,e = .returned (v0_) ∧ Kd.V Kd.bool 4 w' w.heap.size (fun k_ => (w.heap.size ≤ k_)) v0_ r ∧ Below w.heap.size w w':=by
 have HR0:=Aside0.mk hr0
 have HC0:=Aside0.mk hc0
 clear hr0 hc0
 have HR1:=Aside0.mk hr1
 have HC1:=Aside0.mk hc1
 clear hr1 hc1
 have HB:=Aside0.mk (Below.refl w.heap.size w)
 have H : (sacristyref01_Mul.l0 k l0 (([] : List Bool)) l1 (l1.length : Int) 0) = some r:=h
 clear h
 obtain ⟨y870,hy870⟩ : ∃ y_ : List Bool,y_ = (([] : List Bool)):=⟨_,rfl⟩
 replace H : (sacristyref01_Mul.l0 k l0 y870 l1 (l1.length : Int) 0) = some r:=by first|(rw [hy870];with_reducible exact H)|(have H2_:=(Option.bind_some _ _).symm.trans H;rw [hy870];with_reducible exact H2_)|(have H2_:=(Option.bind_some _ _).symm.trans H;with_reducible exact H2_)|with_reducible exact H|(rw [hy870];exact H)|exact H
 have Ny870:=Aside0.mk hy870
 clear hy870
 have H':=Aside0.mk H
 clear H
 go_enter Try.func58,Try.ntmps58
 go_wp2_with (first|((with_reducible refine gate_dst (N:=8) rfl ?_);refine Kd.R_lit Kd.bool _ 4 ?hg (N:=8) ?hd (xs:=([] : List Bool)) (inner:=[]) (ok:=fun _ => True) (okp:=fun _ => True) ?hr ?hp (fun _ hk => hk) trivial (Below.refl _ _) (Nat.le_refl _) (by simp) ?_;(case hd => rfl);(case hg => rfl);(case hr => first|(go_simp;done)|(go_simp;rfl));(case hp => exact (Reps.none _ _));intro v871 w3 ho4 hb hg_ hnew_;clear hg_ hnew_;(first|rw [← Ny870.out] at ho4|(simp only [Int.reduceToNat] at ho4;rw [← Ny870.out] at ho4));have HO872:=Aside0.mk (Kd.R_lower (Kd.R_newM (M:=fun k_ => (w.heap.size ≤ k_)) ho4 (below_size (qS HB)) (fun k_ h_ => h_)) (below_size (qS HB)));replace HB:=qs HB hb;clear hb ho4))
 go_loopg [5,11] k (fun kq v5 v11 w' => ∃ (x5_1 : List Bool) (x11_1 : Int),v11 = .int .i64 x11_1 ∧ Aside0 (sacristyref01_Mul.l0 kq l0 x5_1 l1 (l1.length : Int) x11_1 = some r) ∧ Aside0 (kq ≤ k) ∧ Aside0 (Kd.V Kd.bool 4 w' w.heap.size (fun k_ => (w.heap.size ≤ k_)) v5 x5_1) ∧ Aside0 (Below w.heap.size w w'))
 case atStart => exact ⟨(y870),(0),(by first|rfl|(simp;done)|(simp [*];done)),H',⟨Nat.le_refl _⟩,⟨Kd.R_V (qRm HO872)⟩,⟨qS HB⟩⟩
 case round =>
  clear H'
  try clear c1
  try clear p2
  obtain ⟨x5_1,x11_1,rfl,HA,HK1,HO_5,HB⟩:=hrel
  cases gk with
  |zero => exact absurd HA.out (by simp [sacristyref01_Mul.l0])
  |succ k1 =>
   have H:=HA.out
   clear HA
   simp only [sacristyref01_Mul.l0] at H
   by_cases c5 : x11_1 < (l1.length : Int)
   ·rw [if_pos c5] at H
    have c5b0 : decide (x11_1 < (l1.length : Int)) = true:=decide_eq_true c5
    clear c5
    by_cases c6 : 0 ≤ x11_1
    ·rw [if_pos c6] at H
     have c6b0 : decide (0 ≤ x11_1) = true:=decide_eq_true c6
     clear c6
     by_cases c7 : x11_1 < (l1.length : Int)
     ·rw [if_pos c7] at H
      have c7b0 : decide (x11_1 < (l1.length : Int)) = true:=decide_eq_true c7
      clear c7
      obtain ⟨bq8,hbq8⟩ : ∃ b_ : Bool,b_ = (rdOf false l1 x11_1):=⟨_,rfl⟩
      replace H : (if bq8 = true then ((sacristyref01_Shift.f l0 x11_1).bind fun t874 => ((sacristyref01_Add.f k1 x5_1 t874).bind fun t877 => (sacristyref01_Mul.l0 k1 l0 t877 l1 (l1.length : Int) (wrap64 (x11_1 + 1))))) else (sacristyref01_Mul.l0 k1 l0 x5_1 l1 (l1.length : Int) (wrap64 (x11_1 + 1)))) = some r:=by rw [← hbq8] at H;exact H
      have Nbq8:=Aside0.mk hbq8
      clear hbq8
      by_cases c9 : bq8 = true
      ·subst c9
       rw [if_pos rfl] at H
       obtain ⟨t874,A10,H⟩:=qH H
       obtain ⟨t877,A11,H⟩:=qH H
       have H':=Aside0.mk H
       clear H
       have p873 : 0 ≤ (x11_1 : Int):=od
       have q873 : x11_1 < (l1.length : Int):=od
       obtain ⟨ad873,e873,hx873_0⟩:=Kd.at_bool HR1.out x11_1 p873 q873
       (try rw [← Nbq8.out] at hx873_0)
       cases e873
       replace hx873_0:=(HB.out.cell (World.block_lt_of_cell? w _ hx873_0)).trans hx873_0
       replace p873:=eq_true p873
       replace q873:=eq_true q873
       go_wp2_with (first|((with_reducible refine gate_callee (f:=110) rfl ?_);refine gL (some 20) Try.func110 #[.slice A0 l0.length c0,.int .i64 x11_1] ?_;(with_reducible refine (sacristyref01_Shift.calls _ _ l0 x11_1 t874 _ ?side1 ?side2 A10.out).mono ?_);(case side1 => exact qCB HR0 HB);(case side2 => exact HC0.out);rintro e w12 ⟨v875,rfl,ho0,hb⟩;refine ⟨_,rfl,?_⟩;replace HO_5:=qVd HO_5 ho0 hb;have HO876:=Aside0.mk (Kd.R_lower (Kd.R_newM (M:=fun k_ => (w.heap.size ≤ k_)) ho0 (below_size (qS HB)) (fun k_ h_ => h_)) (below_size (qS HB)));replace HB:=qs HB hb;clear hb ho0;obtain ⟨Ao13,co13,eo13⟩:=Kd.V_slice HO_5.out;subst eo13;obtain ⟨Ao14,co14,eo14⟩:=Kd.R_slice HO876.out;subst eo14)|((with_reducible refine gate_callee (f:=64) rfl ?_);refine gL (some 21) Try.func64 #[.slice Ao13 x5_1.length co13,.slice Ao14 t874.length co14] ?_;(with_reducible refine (sacristyref01_Add.calls k1 _ _ x5_1 _ _ t874 t877 _ ?side1 ?side2 ?side3 ?side4 A11.out).mono ?_);(case side1 => exact qCV HO_5);(case side2 => exact qL HO_5);(case side3 => exact qCR HO876);(case side4 => exact qLR HO876);rintro e w15 ⟨v878,rfl,ho0,hb⟩;refine ⟨_,rfl,?_⟩;replace HO_5:=qVb HO_5 hb;have HO879:=Aside0.mk (Kd.V_lower (Kd.V_mono (ok':=fun k_ => (w.heap.size ≤ k_) ∧ some k_ ≠ (.slice Ao14 t874.length co14 : Value).ownBlock) ho0 (fun k_ hk_ => ⟨(Nat.le_trans (below_size (qS HB)) hk_),(Kd.fresh' (Kd.R_lt (qRm HO876)) k_ hk_)⟩)) (below_size (qS HB)));replace HO876:=qRb HO876 hb;replace HB:=qs HB hb;clear hb ho0))
       go_roundg k1
       case measure => have:=HK1.out;omega
       case rel => exact ⟨(t877),(wrap64 (x11_1 + 1)),(by first|rfl|(simp;done)|(simp [*];done)),H',⟨by have:=HK1.out;omega⟩,⟨qVm HO879⟩,⟨qS HB⟩⟩
      ·replace c9:=Bool.eq_false_iff.mpr c9
       subst c9
       rw [qFT] at H
       have H':=Aside0.mk H
       clear H
       have p873 : 0 ≤ (x11_1 : Int):=od
       have q873 : x11_1 < (l1.length : Int):=od
       obtain ⟨ad873,e873,hx873_0⟩:=Kd.at_bool HR1.out x11_1 p873 q873
       (try rw [← Nbq8.out] at hx873_0)
       cases e873
       replace hx873_0:=(HB.out.cell (World.block_lt_of_cell? w _ hx873_0)).trans hx873_0
       replace p873:=eq_true p873
       replace q873:=eq_true q873
       go_wp2
       go_roundg k1
       case measure => have:=HK1.out;omega
       case rel => exact ⟨(x5_1),(wrap64 (x11_1 + 1)),(by first|rfl|(simp;done)|(simp [*];done)),H',⟨by have:=HK1.out;omega⟩,⟨qVm HO_5⟩,⟨qS HB⟩⟩
     ·rw [if_neg c7] at H
      exact absurd H (by simp)
    ·rw [if_neg c6] at H
     exact absurd H (by simp)
   ·rw [if_neg c5] at H
    have c5b0 : decide (x11_1 < (l1.length : Int)) = false:=decide_eq_false c5
    clear c5
    obtain rfl:=Option.some.inj H
    go_wp2
    (first|go_ret|(refine ⟨_,results_tmp rfl _ _ _,?_⟩))
    exact ⟨_,by first|rfl|(simp [errW_none,errW_some] <;> rfl)|(simp [*,errW_none,errW_some] <;> rfl),qVm HO_5,qS HB⟩
end Go.Proofs.Yteejcpbngnojkaa.P
end
section
namespace Go.Proofs.Yteejcpbngnojkaa.P
open Go.RowKit Go.Proofs.YteejcpbngnojkaaW.PrintWords Go.Proofs.YteejcpbngnojkaaW.PrintLast Go.Proofs.YteejcpbngnojkaaW.PrintMore
attribute [local go_sem] max2_int min2_int max_two min_two max_three min_three max_four min_four
set_option linter.unusedVariables false
set_option linter.unusedSimpArgs false
def sacristylaw01_NatProducts.f (k : Nat) (l0 : List Int) (l1 : List Int) : Option (Bool):=(sacristylaw01_lives.f k).bind fun t880 => (if t880 = true then ((sacristylaw01_Num.f k l0).bind fun t881 => ((sacristylaw01_Num.f k l1).bind fun t884 => ((sacristylaw01_ref.f k l0).bind fun t887 => ((sacristylaw01_ref.f k l1).bind fun t890 => ((nat_Nat_Mul.f k t881 t884).bind fun t895 => ((sacristyref01_Mul.f k t887 t890).bind fun t898 => ((sacristylaw01_Same.f k t895 t898).bind fun t901 => (if t901 = true then ((nat_Nat_Div.f k t881 t884).bind fun bt902 => ((nat_Nat_Zero.f t884).bind fun t911 => (if t911 = true then (if bt902.2.2 = 5 then ((nat_Nat_Zero.f bt902.1).bind fun t912 => (if t912 = true then ((nat_Nat_Zero.f bt902.2.1).bind fun t913 => (some t913)) else (none))) else (none)) else ((sacristyref01_Div.f k t887 t890).bind fun bt914 => (if bt902.2.2 = 0 then ((sacristylaw01_Same.f k bt902.1 bt914.1).bind fun t920 => (if t920 = true then ((sacristylaw01_Same.f k bt902.2.1 bt914.2).bind fun t921 => (if t921 = true then ((sacristylaw01_Same.f k t881 t887).bind fun t922 => (if t922 = true then ((sacristylaw01_Same.f k t884 t890).bind fun t923 => (some t923)) else (none))) else (none))) else (none))) else (none)))))) else (none))))))))) else (none))
theorem sacristylaw01_NatProducts.mono : ∀ a0 a1 k,LeO (sacristylaw01_NatProducts.f k a0 a1) (sacristylaw01_NatProducts.f (k + 1) a0 a1):=by
 intro a0 a1 k
 unfold sacristylaw01_NatProducts.f
 repeat' first
   |(with_reducible exact nat_Nat_Div.mono _ _ _)
   |(with_reducible exact nat_Nat_Mul.mono _ _ _)
   |(with_reducible exact sacristylaw01_Num.mono _ _)
   |(with_reducible exact sacristylaw01_Same.mono _ _ _)
   |(with_reducible exact sacristylaw01_lives.mono _)
   |(with_reducible exact sacristylaw01_ref.mono _ _)
   |(with_reducible exact sacristyref01_Div.mono _ _ _)
   |(with_reducible exact sacristyref01_Mul.mono _ _ _)
   |(with_reducible exact LeO.refl _)
   |(with_reducible exact LeO.none _)
   |(with_reducible refine LeO.ite ?_ ?_)
   |(with_reducible refine LeO.bind ?_ (fun _ => ?_))
   |exact nat_Nat_Div.mono _ _ _
   |exact nat_Nat_Mul.mono _ _ _
   |exact sacristylaw01_Num.mono _ _
   |exact sacristylaw01_Same.mono _ _ _
   |exact sacristylaw01_lives.mono _
   |exact sacristylaw01_ref.mono _ _
   |exact sacristyref01_Div.mono _ _ _
   |exact sacristyref01_Mul.mono _ _ _
   |exact LeO.none _
   |refine LeO.ite ?_ ?_
   |refine LeO.bind ?_ (fun _ => ?_)
set_option maxHeartbeats 8000000 in
set_option maxRecDepth 100000 in
theorem sacristylaw01_NatProducts.calls (k : Nat) (A0 : Option Addr) (c0 : Nat) (l0 : List Int) (A1 : Option Addr) (c1 : Nat) (l1 : List Int) (r : Bool) (w : World) (hr0 : Kd.C (Kd.int .u8) w A0 l0.length l0) (hc0 : l0.length ≤ c0) (hr1 : Kd.C (Kd.int .u8) w A1 l1.length l1) (hc1 : l1.length ≤ c1) (h : sacristylaw01_NatProducts.f k l0 l1 = some r) :
  Calls Try.prog 13 #[.slice A0 l0.length c0,.slice A1 l1.length c1] w fun e w' => e = .returned (.bool r) ∧ Below w.heap.size w w':=by
 have hu38:=Try.underlying38
 have HR0:=Aside0.mk hr0
 have HC0:=Aside0.mk hc0
 clear hr0 hc0
 have HR1:=Aside0.mk hr1
 have HC1:=Aside0.mk hc1
 clear hr1 hc1
 have HB:=Aside0.mk (Below.refl w.heap.size w)
 have H : ((sacristylaw01_lives.f k).bind fun t880 => (if t880 = true then ((sacristylaw01_Num.f k l0).bind fun t881 => ((sacristylaw01_Num.f k l1).bind fun t884 => ((sacristylaw01_ref.f k l0).bind fun t887 => ((sacristylaw01_ref.f k l1).bind fun t890 => ((nat_Nat_Mul.f k t881 t884).bind fun t895 => ((sacristyref01_Mul.f k t887 t890).bind fun t898 => ((sacristylaw01_Same.f k t895 t898).bind fun t901 => (if t901 = true then ((nat_Nat_Div.f k t881 t884).bind fun bt902 => ((nat_Nat_Zero.f t884).bind fun t911 => (if t911 = true then (if bt902.2.2 = 5 then ((nat_Nat_Zero.f bt902.1).bind fun t912 => (if t912 = true then ((nat_Nat_Zero.f bt902.2.1).bind fun t913 => (some t913)) else (none))) else (none)) else ((sacristyref01_Div.f k t887 t890).bind fun bt914 => (if bt902.2.2 = 0 then ((sacristylaw01_Same.f k bt902.1 bt914.1).bind fun t920 => (if t920 = true then ((sacristylaw01_Same.f k bt902.2.1 bt914.2).bind fun t921 => (if t921 = true then ((sacristylaw01_Same.f k t881 t887).bind fun t922 => (if t922 = true then ((sacristylaw01_Same.f k t884 t890).bind fun t923 => (some t923)) else (none))) else (none))) else (none))) else (none)))))) else (none))))))))) else (none))) = some r:=h
 clear h
 obtain ⟨t880,A3,H⟩:=qH H
 by_cases c4 : t880 = true
 ·subst c4
  rw [if_pos rfl] at H
  obtain ⟨t881,A5,H⟩:=qH H
  obtain ⟨t884,A6,H⟩:=qH H
  obtain ⟨t887,A7,H⟩:=qH H
  obtain ⟨t890,A8,H⟩:=qH H
  obtain ⟨t895,A9,H⟩:=qH H
  obtain ⟨t898,A10,H⟩:=qH H
  obtain ⟨t901,A11,H⟩:=qH H
  by_cases c12 : t901 = true
  ·subst c12
   rw [if_pos rfl] at H
   obtain ⟨⟨t902,t905,t908⟩,A13,H⟩:=qH H
   dsimp only at H
   obtain ⟨t911,A14,H⟩:=qH H
   by_cases c15 : t911 = true
   ·subst c15
    rw [if_pos rfl] at H
    by_cases c16 : t908 = 5
    ·rw [if_pos c16] at H
     have c16b0 : (t908 == 5) = true:=beq_iff_eq.mpr c16
     have c16b1 : (t908 != 5) = false:=bne_eq_false_iff_eq.mpr c16
     clear c16
     obtain ⟨t912,A17,H⟩:=qH H
     by_cases c18 : t912 = true
     ·subst c18
      rw [if_pos rfl] at H
      obtain ⟨t913,A19,H⟩:=qH H
      obtain rfl:=Option.some.inj H
      go_enter Try.func13,Try.ntmps13
      go_wp2_with (first|((with_reducible refine gate_callee (f:=34) rfl ?_);refine gL (some 14) Try.func34 #[] ?_;(with_reducible refine (sacristylaw01_lives.calls k  true _ A3.out).mono ?_);rintro e w20 ⟨rfl,hb⟩;refine ⟨_,rfl,?_⟩;replace HB:=qs HB hb;clear hb)|((with_reducible refine gate_callee (f:=40) rfl ?_);refine gL (some 17) Try.func40 #[.slice A0 l0.length c0] ?_;(with_reducible refine (sacristylaw01_Num.calls k _ _ l0 t881 _ ?side1 ?side2 A5.out).mono ?_);(case side1 => exact qCB HR0 HB);(case side2 => exact HC0.out);rintro e w21 ⟨v882,rfl,ho0,hb⟩;refine ⟨_,rfl,?_⟩;have HO883:=Aside0.mk (Kd.V_lower (Kd.V_mono (ok':=fun k_ => True) ho0 (fun k_ hk_ => trivial)) (below_size (qS HB)));replace HB:=qs HB hb;clear hb ho0)|((with_reducible refine gate_callee (f:=40) rfl ?_);refine gL (some 19) Try.func40 #[.slice A1 l1.length c1] ?_;(with_reducible refine (sacristylaw01_Num.calls k _ _ l1 t884 _ ?side1 ?side2 A6.out).mono ?_);(case side1 => exact qCB HR1 HB);(case side2 => exact HC1.out);rintro e w22 ⟨v885,rfl,ho0,hb⟩;refine ⟨_,rfl,?_⟩;replace HO883:=qVb HO883 hb;have HO886:=Aside0.mk (Kd.V_lower (Kd.V_mono (ok':=fun k_ => True) ho0 (fun k_ hk_ => trivial)) (below_size (qS HB)));replace HB:=qs HB hb;clear hb ho0)|((with_reducible refine gate_callee (f:=41) rfl ?_);refine gL (some 21) Try.func41 #[.slice A0 l0.length c0] ?_;(with_reducible refine (sacristylaw01_ref.calls k _ _ l0 t887 _ ?side1 ?side2 A7.out).mono ?_);(case side1 => exact qCB HR0 HB);(case side2 => exact HC0.out);rintro e w23 ⟨v888,rfl,ho0,hb⟩;refine ⟨_,rfl,?_⟩;replace HO883:=qVb HO883 hb;replace HO886:=qVb HO886 hb;have HO889:=Aside0.mk (Kd.V_lower (Kd.V_mono (ok':=fun k_ => True) ho0 (fun k_ hk_ => trivial)) (below_size (qS HB)));replace HB:=qs HB hb;clear hb ho0)|((with_reducible refine gate_callee (f:=41) rfl ?_);refine gL (some 23) Try.func41 #[.slice A1 l1.length c1] ?_;(with_reducible refine (sacristylaw01_ref.calls k _ _ l1 t890 _ ?side1 ?side2 A8.out).mono ?_);(case side1 => exact qCB HR1 HB);(case side2 => exact HC1.out);rintro e w24 ⟨v891,rfl,ho0,hb⟩;refine ⟨_,rfl,?_⟩;replace HO883:=qVb HO883 hb;replace HO886:=qVb HO886 hb;replace HO889:=qVb HO889 hb;have HO892:=Aside0.mk (Kd.V_lower (Kd.V_mono (ok':=fun k_ => True) ho0 (fun k_ hk_ => trivial)) (below_size (qS HB)));replace HB:=qs HB hb;clear hb ho0)|((with_reducible refine gate_dst (N:=5) rfl ?_);refine qX #[.slice none 0 0] 38 ?_;intro gb893 hg w25 hbox hb;replace HO883:=qVe HO883 hb hg;replace HO886:=qVe HO886 hb hg;replace HO889:=qVe HO889 hb hg;replace HO892:=qVe HO892 hb hg;have BK893:=Aside0.mk hbox;have GE893:=qh hg HB;replace HB:=qs HB hb;clear hb hbox hg)|((with_reducible refine gate_dst (N:=6) rfl ?_);refine qX #[.slice none 0 0] 38 ?_;intro gb894 hg w26 hbox hb;replace HO883:=qVe HO883 hb hg;replace HO886:=qVe HO886 hb hg;replace HO889:=qVe HO889 hb hg;replace HO892:=qVe HO892 hb hg;have BK894:=Aside0.mk hbox;have GE894:=qh hg HB;replace HB:=qs HB hb;have NB893_894:=ql hg BK893;have NB894_893:=qg hg BK893;replace BK893:=qb BK893 hb;clear hb hbox hg;obtain ⟨Ao27,co27,eo27⟩:=Kd.V_slice HO883.out;subst eo27;have hnb28:=NB893_894.out;have hnc28:=NB894_893.out;have hcz29_0:=bc BK893;have hfz29_0:=bz BK893;obtain ⟨Ao30,co30,eo30⟩:=Kd.V_slice HO886.out;subst eo30;have hcz31_0:=bc BK894;have hfz31_0:=bz BK894)|((with_reducible refine gate_callee (f:=57) rfl ?_);refine gL (some 26) Try.func57 #[.agg #[.slice Ao27 t881.length co27],.agg #[.slice Ao30 t884.length co30]] ?_;(with_reducible refine (nat_Nat_Mul.calls k _ _ t881 _ _ t884 t895 _ ?side1 ?side2 ?side3 ?side4 A9.out).mono ?_);(case side1 => refine (Kd.V_reads' (e:=23) (base:=w.heap.size) (ok:=fun k_ => ((True ∧ k_ ≠ gb893) ∧ k_ ≠ gb894)) (n:=t881.length) (c:=co27) ?_).2.2;exact (qVm HO883));(case side2 => exact qL HO883);(case side3 => refine (Kd.V_reads' (e:=23) (base:=w.heap.size) (ok:=fun k_ => ((True ∧ k_ ≠ gb893) ∧ k_ ≠ gb894)) (n:=t884.length) (c:=co30) ?_).2.2;exact (qVm HO886));(case side4 => exact qL HO886);rintro e w32 ⟨v896,rfl,ho0,hb⟩;refine ⟨_,rfl,?_⟩;replace HO883:=qVb HO883 hb;replace HO886:=qVb HO886 hb;replace HO889:=qVb HO889 hb;replace HO892:=qVb HO892 hb;have HO897:=Aside0.mk (Kd.V_lower (Kd.V_mono (ok':=fun k_ => k_ ≠ gb893 ∧ k_ ≠ gb894) ho0 (fun k_ hk_ => ⟨(Kd.freshB (g:=gb893) (o:=.cells #[.slice Ao27 t881.length co27] 38 (0,0)) (by (with_reducible repeat (first|refine blk_drewN ?_ _|refine blk_drew ?_|refine blk_alloc ?_ _));refine blk_far ?_ NB893_894.out _;(with_reducible repeat (first|refine blk_drewN ?_ _|refine blk_drew ?_|refine blk_alloc ?_ _));refine blk_put (cs:=#[.slice none 0 0]) ?_ 0 _ rfl;(with_reducible repeat (first|refine blk_drewN ?_ _|refine blk_drew ?_|refine blk_alloc ?_ _));exact BK893.out) k_ hk_),(Kd.freshB (g:=gb894) (o:=.cells #[.slice Ao30 t884.length co30] 38 (0,0)) (by (with_reducible repeat (first|refine blk_drewN ?_ _|refine blk_drew ?_|refine blk_alloc ?_ _));refine blk_put (cs:=#[.slice none 0 0]) ?_ 0 _ rfl;(with_reducible repeat (first|refine blk_drewN ?_ _|refine blk_drew ?_|refine blk_alloc ?_ _));refine blk_far ?_ NB894_893.out _;(with_reducible repeat (first|refine blk_drewN ?_ _|refine blk_drew ?_|refine blk_alloc ?_ _));exact BK894.out) k_ hk_)⟩)) (below_size (qS HB)));replace BK893:=Aside0.mk (blk_below (g:=gb893) (o:=.cells #[.slice Ao27 t881.length co27] 38 (0,0)) (by (with_reducible repeat (first|refine blk_drewN ?_ _|refine blk_drew ?_|refine blk_alloc ?_ _));refine blk_far ?_ NB893_894.out _;(with_reducible repeat (first|refine blk_drewN ?_ _|refine blk_drew ?_|refine blk_alloc ?_ _));refine blk_put (cs:=#[.slice none 0 0]) ?_ 0 _ rfl;(with_reducible repeat (first|refine blk_drewN ?_ _|refine blk_drew ?_|refine blk_alloc ?_ _));exact BK893.out) hb);replace BK894:=Aside0.mk (blk_below (g:=gb894) (o:=.cells #[.slice Ao30 t884.length co30] 38 (0,0)) (by (with_reducible repeat (first|refine blk_drewN ?_ _|refine blk_drew ?_|refine blk_alloc ?_ _));refine blk_put (cs:=#[.slice none 0 0]) ?_ 0 _ rfl;(with_reducible repeat (first|refine blk_drewN ?_ _|refine blk_drew ?_|refine blk_alloc ?_ _));refine blk_far ?_ NB894_893.out _;(with_reducible repeat (first|refine blk_drewN ?_ _|refine blk_drew ?_|refine blk_alloc ?_ _));exact BK894.out) hb);replace HB:=qs HB hb;clear hb ho0;obtain ⟨Ao33,co33,eo33⟩:=Kd.V_slice HO889.out;subst eo33;obtain ⟨Ao34,co34,eo34⟩:=Kd.V_slice HO892.out;subst eo34)|((with_reducible refine gate_callee (f:=58) rfl ?_);refine gL (some 29) Try.func58 #[.slice Ao33 t887.length co33,.slice Ao34 t890.length co34] ?_;(with_reducible refine (sacristyref01_Mul.calls k _ _ t887 _ _ t890 t898 _ ?side1 ?side2 ?side3 ?side4 A10.out).mono ?_);(case side1 => exact qCV HO889);(case side2 => exact qL HO889);(case side3 => exact qCV HO892);(case side4 => exact qL HO892);rintro e w35 ⟨v899,rfl,ho0,hb⟩;refine ⟨_,rfl,?_⟩;replace HO883:=qVb HO883 hb;replace HO886:=qVb HO886 hb;replace HO889:=qVb HO889 hb;replace HO892:=qVb HO892 hb;replace HO897:=qVb HO897 hb;have HO900:=Aside0.mk (Kd.V_lower (Kd.V_mono (ok':=fun k_ => k_ ≠ gb893 ∧ k_ ≠ gb894) ho0 (fun k_ hk_ => ⟨(Kd.freshB (qB BK893.out) k_ hk_),(Kd.freshB (qB BK894.out) k_ hk_)⟩)) (below_size (qS HB)));replace BK893:=qb BK893 hb;replace BK894:=qb BK894 hb;replace HB:=qs HB hb;clear hb ho0;obtain ⟨Ao36,co36,eo36⟩:=Kd.V_slice HO897.out;subst eo36;obtain ⟨Ao37,co37,eo37⟩:=Kd.V_slice HO900.out;subst eo37)|((with_reducible refine gate_callee (f:=37) rfl ?_);refine gL (some 30) Try.func37 #[.agg #[.slice Ao36 t895.length co36],.slice Ao37 t898.length co37] ?_;(with_reducible refine (sacristylaw01_Same.calls k _ _ t895 _ _ t898 true _ ?side1 ?side2 ?side3 ?side4 A11.out).mono ?_);(case side1 => exact qCV HO897);(case side2 => exact qL HO897);(case side3 => exact qCV HO900);(case side4 => exact qL HO900);rintro e w38 ⟨rfl,hb⟩;refine ⟨_,rfl,?_⟩;replace HO883:=qVb HO883 hb;replace HO886:=qVb HO886 hb;replace HO889:=qVb HO889 hb;replace HO892:=qVb HO892 hb;replace HO897:=qVb HO897 hb;replace HO900:=qVb HO900 hb;replace BK893:=qb BK893 hb;replace BK894:=qb BK894 hb;replace HB:=qs HB hb;clear hb;have hcz39_0:=bc BK893;have hfz39_0:=bz BK893;have hcz40_0:=bc BK894;have hfz40_0:=bz BK894)|((with_reducible refine gate_callee (f:=53) rfl ?_);refine gL (some 35) Try.func53 #[.agg #[.slice Ao27 t881.length co27],.agg #[.slice Ao30 t884.length co30]] ?_;(with_reducible refine (nat_Nat_Div.calls k (fun k_ => ((True ∧ k_ ≠ gb893) ∧ k_ ≠ gb894)) _ _ t881 _ _ t884 t902 t905 t908 _ ?side1 ?side2 ?side3 A13.out).mono ?_);(case side1 => first|exact HO883.out|exact qVm HO883);(case side2 => exact qCV HO886);(case side3 => exact qL HO886);rintro e w41 ⟨v903,v906,rfl,ho0,ho1,hb⟩;refine ⟨_,rfl,?_⟩;replace HO883:=qVb HO883 hb;replace HO886:=qVb HO886 hb;replace HO889:=qVb HO889 hb;replace HO892:=qVb HO892 hb;replace HO897:=qVb HO897 hb;replace HO900:=qVb HO900 hb;have HO904:=Aside0.mk (Kd.V_lower (Kd.V_mono (ok':=fun k_ => k_ ≠ gb893 ∧ k_ ≠ gb894) ho0 (fun k_ hk_ => ⟨Or.elim hk_ (fun hs_ => hs_.1.2) (fun hn_ => (Kd.freshB (qB BK893.out) k_ hn_)),Or.elim hk_ (fun hs_ => hs_.2) (fun hn_ => (Kd.freshB (qB BK894.out) k_ hn_))⟩)) (below_size (qS HB)));have HO907:=Aside0.mk (Kd.V_lower (Kd.V_mono (ok':=fun k_ => k_ ≠ gb893 ∧ k_ ≠ gb894) ho1 (fun k_ hk_ => ⟨Or.elim hk_ (fun hs_ => hs_.1.2) (fun hn_ => (Kd.freshB (qB BK893.out) k_ hn_)),Or.elim hk_ (fun hs_ => hs_.2) (fun hn_ => (Kd.freshB (qB BK894.out) k_ hn_))⟩)) (below_size (qS HB)));replace BK893:=qb BK893 hb;replace BK894:=qb BK894 hb;replace HB:=qs HB hb;clear hb ho0 ho1)|((with_reducible refine gate_dst (N:=9) rfl ?_);refine qX #[.slice none 0 0] 38 ?_;intro gb909 hg w42 hbox hb;replace HO883:=qVe HO883 hb hg;replace HO886:=qVe HO886 hb hg;replace HO889:=qVe HO889 hb hg;replace HO892:=qVe HO892 hb hg;replace HO897:=qVe HO897 hb hg;replace HO900:=qVe HO900 hb hg;replace HO904:=qVe HO904 hb hg;replace HO907:=qVe HO907 hb hg;have BK909:=Aside0.mk hbox;have GE909:=qh hg HB;replace HB:=qs HB hb;have NB893_909:=ql hg BK893;have NB909_893:=qg hg BK893;replace BK893:=qb BK893 hb;have NB894_909:=ql hg BK894;have NB909_894:=qg hg BK894;replace BK894:=qb BK894 hb;clear hb hbox hg)|((with_reducible refine gate_dst (N:=10) rfl ?_);refine qX #[.slice none 0 0] 38 ?_;intro gb910 hg w43 hbox hb;replace HO883:=qVe HO883 hb hg;replace HO886:=qVe HO886 hb hg;replace HO889:=qVe HO889 hb hg;replace HO892:=qVe HO892 hb hg;replace HO897:=qVe HO897 hb hg;replace HO900:=qVe HO900 hb hg;replace HO904:=qVe HO904 hb hg;replace HO907:=qVe HO907 hb hg;have BK910:=Aside0.mk hbox;have GE910:=qh hg HB;replace HB:=qs HB hb;have NB893_910:=ql hg BK893;have NB910_893:=qg hg BK893;replace BK893:=qb BK893 hb;have NB894_910:=ql hg BK894;have NB910_894:=qg hg BK894;replace BK894:=qb BK894 hb;have NB909_910:=ql hg BK909;have NB910_909:=qg hg BK909;replace BK909:=qb BK909 hb;clear hb hbox hg;obtain ⟨Ao44,co44,eo44⟩:=Kd.V_slice HO904.out;subst eo44;have hnb45:=NB909_893.out;have hnc45:=NB893_909.out;have hnb46:=NB909_894.out;have hnc46:=NB894_909.out;have hnb47:=NB909_910.out;have hnc47:=NB910_909.out;have hcz48_0:=bc BK909;have hfz48_0:=bz BK909;obtain ⟨Ao49,co49,eo49⟩:=Kd.V_slice HO907.out;subst eo49;have hnb50:=NB910_893.out;have hnc50:=NB893_910.out;have hnb51:=NB910_894.out;have hnc51:=NB894_910.out;have hcz52_0:=bc BK910;have hfz52_0:=bz BK910;have hcz53_0:=bc BK894;have hfz53_0:=bz BK894)|((with_reducible refine gate_callee (f:=44) rfl ?_);refine gL (some 40) Try.func44 #[.agg #[.slice Ao30 t884.length co30]] ?_;(with_reducible refine (nat_Nat_Zero.calls _ _ t884 true _ ?side1 ?side2 A14.out).mono ?_);(case side1 => refine (Kd.V_reads' (e:=23) (base:=w.heap.size) (ok:=fun k_ => ((((True ∧ k_ ≠ gb893) ∧ k_ ≠ gb894) ∧ k_ ≠ gb909) ∧ k_ ≠ gb910)) (n:=t884.length) (c:=co30) ?_).2.2;exact (qVm HO886));(case side2 => exact qL HO886);rintro e w54 ⟨rfl,hb⟩;refine ⟨_,rfl,?_⟩;replace HO883:=qVb HO883 hb;replace HO886:=qVb HO886 hb;replace HO889:=qVb HO889 hb;replace HO892:=qVb HO892 hb;replace HO897:=qVb HO897 hb;replace HO900:=qVb HO900 hb;replace HO904:=qVb HO904 hb;replace HO907:=qVb HO907 hb;replace BK893:=Aside0.mk (blk_below (g:=gb893) (o:=.cells #[.slice Ao27 t881.length co27] 38 (0,0)) (by (with_reducible repeat (first|refine blk_drewN ?_ _|refine blk_drew ?_|refine blk_alloc ?_ _));refine blk_far ?_ NB893_910.out _;(with_reducible repeat (first|refine blk_drewN ?_ _|refine blk_drew ?_|refine blk_alloc ?_ _));refine blk_far ?_ NB893_909.out _;(with_reducible repeat (first|refine blk_drewN ?_ _|refine blk_drew ?_|refine blk_alloc ?_ _));exact BK893.out) hb);replace BK894:=Aside0.mk (blk_below (g:=gb894) (o:=.cells #[.slice Ao30 t884.length co30] 38 (0,0)) (by (with_reducible repeat (first|refine blk_drewN ?_ _|refine blk_drew ?_|refine blk_alloc ?_ _));refine blk_far ?_ NB894_910.out _;(with_reducible repeat (first|refine blk_drewN ?_ _|refine blk_drew ?_|refine blk_alloc ?_ _));refine blk_far ?_ NB894_909.out _;(with_reducible repeat (first|refine blk_drewN ?_ _|refine blk_drew ?_|refine blk_alloc ?_ _));exact BK894.out) hb);replace BK909:=Aside0.mk (blk_below (g:=gb909) (o:=.cells #[.slice Ao44 t902.length co44] 38 (0,0)) (by (with_reducible repeat (first|refine blk_drewN ?_ _|refine blk_drew ?_|refine blk_alloc ?_ _));refine blk_far ?_ NB909_910.out _;(with_reducible repeat (first|refine blk_drewN ?_ _|refine blk_drew ?_|refine blk_alloc ?_ _));refine blk_put (cs:=#[.slice none 0 0]) ?_ 0 _ rfl;(with_reducible repeat (first|refine blk_drewN ?_ _|refine blk_drew ?_|refine blk_alloc ?_ _));exact BK909.out) hb);replace BK910:=Aside0.mk (blk_below (g:=gb910) (o:=.cells #[.slice Ao49 t905.length co49] 38 (0,0)) (by (with_reducible repeat (first|refine blk_drewN ?_ _|refine blk_drew ?_|refine blk_alloc ?_ _));refine blk_put (cs:=#[.slice none 0 0]) ?_ 0 _ rfl;(with_reducible repeat (first|refine blk_drewN ?_ _|refine blk_drew ?_|refine blk_alloc ?_ _));refine blk_far ?_ NB910_909.out _;(with_reducible repeat (first|refine blk_drewN ?_ _|refine blk_drew ?_|refine blk_alloc ?_ _));exact BK910.out) hb);replace HB:=qs HB hb;clear hb;have hcz55_0:=bc BK909;have hfz55_0:=bz BK909)|(go_at_call 44;(with_reducible refine (nat_Nat_Zero.calls _ _ t902 true _ ?side1 ?side2 A17.out).mono ?_);(case side1 => exact qCV HO904);(case side2 => exact qL HO904);rintro e w56 ⟨rfl,hb⟩;replace HO883:=qVb HO883 hb;replace HO886:=qVb HO886 hb;replace HO889:=qVb HO889 hb;replace HO892:=qVb HO892 hb;replace HO897:=qVb HO897 hb;replace HO900:=qVb HO900 hb;replace HO904:=qVb HO904 hb;replace HO907:=qVb HO907 hb;replace BK893:=qb BK893 hb;replace BK894:=qb BK894 hb;replace BK909:=qb BK909 hb;replace BK910:=qb BK910 hb;replace HB:=qs HB hb;clear hb;have hcz57_0:=bc BK910;have hfz57_0:=bz BK910)|(go_at_call 44;(with_reducible refine (nat_Nat_Zero.calls _ _ t905 t913 _ ?side1 ?side2 A19.out).mono ?_);(case side1 => exact qCV HO907);(case side2 => exact qL HO907);rintro e w58 ⟨rfl,hb⟩;replace HO883:=qVb HO883 hb;replace HO886:=qVb HO886 hb;replace HO889:=qVb HO889 hb;replace HO892:=qVb HO892 hb;replace HO897:=qVb HO897 hb;replace HO900:=qVb HO900 hb;replace HO904:=qVb HO904 hb;replace HO907:=qVb HO907 hb;replace BK893:=qb BK893 hb;replace BK894:=qb BK894 hb;replace BK909:=qb BK909 hb;replace BK910:=qb BK910 hb;replace HB:=qs HB hb;clear hb))
      (first|go_ret|(refine ⟨_,results_tmp rfl _ _ _,?_⟩))
      exact ⟨by first|rfl|(simp [errW_none,errW_some] <;> rfl)|(simp [*,errW_none,errW_some] <;> rfl),qS HB⟩
     ·replace c18:=Bool.eq_false_iff.mpr c18
      subst c18
      rw [qFT] at H
      exact absurd H (by simp)
    ·rw [if_neg c16] at H
     exact absurd H (by simp)
   ·replace c15:=Bool.eq_false_iff.mpr c15
    subst c15
    rw [qFT] at H
    obtain ⟨⟨t914,t917⟩,A59,H⟩:=qH H
    dsimp only at H
    by_cases c60 : t908 = 0
    ·rw [if_pos c60] at H
     have c60b0 : (t908 == 0) = true:=beq_iff_eq.mpr c60
     have c60b1 : (t908 != 0) = false:=bne_eq_false_iff_eq.mpr c60
     clear c60
     obtain ⟨t920,A61,H⟩:=qH H
     by_cases c62 : t920 = true
     ·subst c62
      rw [if_pos rfl] at H
      obtain ⟨t921,A63,H⟩:=qH H
      by_cases c64 : t921 = true
      ·subst c64
       rw [if_pos rfl] at H
       obtain ⟨t922,A65,H⟩:=qH H
       by_cases c66 : t922 = true
       ·subst c66
        rw [if_pos rfl] at H
        obtain ⟨t923,A67,H⟩:=qH H
        obtain rfl:=Option.some.inj H
        go_enter Try.func13,Try.ntmps13
        go_wp2_with (first|((with_reducible refine gate_callee (f:=34) rfl ?_);refine gL (some 14) Try.func34 #[] ?_;(with_reducible refine (sacristylaw01_lives.calls k  true _ A3.out).mono ?_);rintro e w68 ⟨rfl,hb⟩;refine ⟨_,rfl,?_⟩;replace HB:=qs HB hb;clear hb)|((with_reducible refine gate_callee (f:=40) rfl ?_);refine gL (some 17) Try.func40 #[.slice A0 l0.length c0] ?_;(with_reducible refine (sacristylaw01_Num.calls k _ _ l0 t881 _ ?side1 ?side2 A5.out).mono ?_);(case side1 => exact qCB HR0 HB);(case side2 => exact HC0.out);rintro e w69 ⟨v882,rfl,ho0,hb⟩;refine ⟨_,rfl,?_⟩;have HO883:=Aside0.mk (Kd.V_lower (Kd.V_mono (ok':=fun k_ => True) ho0 (fun k_ hk_ => trivial)) (below_size (qS HB)));replace HB:=qs HB hb;clear hb ho0)|((with_reducible refine gate_callee (f:=40) rfl ?_);refine gL (some 19) Try.func40 #[.slice A1 l1.length c1] ?_;(with_reducible refine (sacristylaw01_Num.calls k _ _ l1 t884 _ ?side1 ?side2 A6.out).mono ?_);(case side1 => exact qCB HR1 HB);(case side2 => exact HC1.out);rintro e w70 ⟨v885,rfl,ho0,hb⟩;refine ⟨_,rfl,?_⟩;replace HO883:=qVb HO883 hb;have HO886:=Aside0.mk (Kd.V_lower (Kd.V_mono (ok':=fun k_ => True) ho0 (fun k_ hk_ => trivial)) (below_size (qS HB)));replace HB:=qs HB hb;clear hb ho0)|((with_reducible refine gate_callee (f:=41) rfl ?_);refine gL (some 21) Try.func41 #[.slice A0 l0.length c0] ?_;(with_reducible refine (sacristylaw01_ref.calls k _ _ l0 t887 _ ?side1 ?side2 A7.out).mono ?_);(case side1 => exact qCB HR0 HB);(case side2 => exact HC0.out);rintro e w71 ⟨v888,rfl,ho0,hb⟩;refine ⟨_,rfl,?_⟩;replace HO883:=qVb HO883 hb;replace HO886:=qVb HO886 hb;have HO889:=Aside0.mk (Kd.V_lower (Kd.V_mono (ok':=fun k_ => True) ho0 (fun k_ hk_ => trivial)) (below_size (qS HB)));replace HB:=qs HB hb;clear hb ho0)|((with_reducible refine gate_callee (f:=41) rfl ?_);refine gL (some 23) Try.func41 #[.slice A1 l1.length c1] ?_;(with_reducible refine (sacristylaw01_ref.calls k _ _ l1 t890 _ ?side1 ?side2 A8.out).mono ?_);(case side1 => exact qCB HR1 HB);(case side2 => exact HC1.out);rintro e w72 ⟨v891,rfl,ho0,hb⟩;refine ⟨_,rfl,?_⟩;replace HO883:=qVb HO883 hb;replace HO886:=qVb HO886 hb;replace HO889:=qVb HO889 hb;have HO892:=Aside0.mk (Kd.V_lower (Kd.V_mono (ok':=fun k_ => True) ho0 (fun k_ hk_ => trivial)) (below_size (qS HB)));replace HB:=qs HB hb;clear hb ho0)|((with_reducible refine gate_dst (N:=5) rfl ?_);refine qX #[.slice none 0 0] 38 ?_;intro gb893 hg w73 hbox hb;replace HO883:=qVe HO883 hb hg;replace HO886:=qVe HO886 hb hg;replace HO889:=qVe HO889 hb hg;replace HO892:=qVe HO892 hb hg;have BK893:=Aside0.mk hbox;have GE893:=qh hg HB;replace HB:=qs HB hb;clear hb hbox hg)|((with_reducible refine gate_dst (N:=6) rfl ?_);refine qX #[.slice none 0 0] 38 ?_;intro gb894 hg w74 hbox hb;replace HO883:=qVe HO883 hb hg;replace HO886:=qVe HO886 hb hg;replace HO889:=qVe HO889 hb hg;replace HO892:=qVe HO892 hb hg;have BK894:=Aside0.mk hbox;have GE894:=qh hg HB;replace HB:=qs HB hb;have NB893_894:=ql hg BK893;have NB894_893:=qg hg BK893;replace BK893:=qb BK893 hb;clear hb hbox hg;obtain ⟨Ao75,co75,eo75⟩:=Kd.V_slice HO883.out;subst eo75;have hnb76:=NB893_894.out;have hnc76:=NB894_893.out;have hcz77_0:=bc BK893;have hfz77_0:=bz BK893;obtain ⟨Ao78,co78,eo78⟩:=Kd.V_slice HO886.out;subst eo78;have hcz79_0:=bc BK894;have hfz79_0:=bz BK894)|((with_reducible refine gate_callee (f:=57) rfl ?_);refine gL (some 26) Try.func57 #[.agg #[.slice Ao75 t881.length co75],.agg #[.slice Ao78 t884.length co78]] ?_;(with_reducible refine (nat_Nat_Mul.calls k _ _ t881 _ _ t884 t895 _ ?side1 ?side2 ?side3 ?side4 A9.out).mono ?_);(case side1 => refine (Kd.V_reads' (e:=23) (base:=w.heap.size) (ok:=fun k_ => ((True ∧ k_ ≠ gb893) ∧ k_ ≠ gb894)) (n:=t881.length) (c:=co75) ?_).2.2;exact (qVm HO883));(case side2 => exact qL HO883);(case side3 => refine (Kd.V_reads' (e:=23) (base:=w.heap.size) (ok:=fun k_ => ((True ∧ k_ ≠ gb893) ∧ k_ ≠ gb894)) (n:=t884.length) (c:=co78) ?_).2.2;exact (qVm HO886));(case side4 => exact qL HO886);rintro e w80 ⟨v896,rfl,ho0,hb⟩;refine ⟨_,rfl,?_⟩;replace HO883:=qVb HO883 hb;replace HO886:=qVb HO886 hb;replace HO889:=qVb HO889 hb;replace HO892:=qVb HO892 hb;have HO897:=Aside0.mk (Kd.V_lower (Kd.V_mono (ok':=fun k_ => k_ ≠ gb893 ∧ k_ ≠ gb894) ho0 (fun k_ hk_ => ⟨(Kd.freshB (g:=gb893) (o:=.cells #[.slice Ao75 t881.length co75] 38 (0,0)) (by (with_reducible repeat (first|refine blk_drewN ?_ _|refine blk_drew ?_|refine blk_alloc ?_ _));refine blk_far ?_ NB893_894.out _;(with_reducible repeat (first|refine blk_drewN ?_ _|refine blk_drew ?_|refine blk_alloc ?_ _));refine blk_put (cs:=#[.slice none 0 0]) ?_ 0 _ rfl;(with_reducible repeat (first|refine blk_drewN ?_ _|refine blk_drew ?_|refine blk_alloc ?_ _));exact BK893.out) k_ hk_),(Kd.freshB (g:=gb894) (o:=.cells #[.slice Ao78 t884.length co78] 38 (0,0)) (by (with_reducible repeat (first|refine blk_drewN ?_ _|refine blk_drew ?_|refine blk_alloc ?_ _));refine blk_put (cs:=#[.slice none 0 0]) ?_ 0 _ rfl;(with_reducible repeat (first|refine blk_drewN ?_ _|refine blk_drew ?_|refine blk_alloc ?_ _));refine blk_far ?_ NB894_893.out _;(with_reducible repeat (first|refine blk_drewN ?_ _|refine blk_drew ?_|refine blk_alloc ?_ _));exact BK894.out) k_ hk_)⟩)) (below_size (qS HB)));replace BK893:=Aside0.mk (blk_below (g:=gb893) (o:=.cells #[.slice Ao75 t881.length co75] 38 (0,0)) (by (with_reducible repeat (first|refine blk_drewN ?_ _|refine blk_drew ?_|refine blk_alloc ?_ _));refine blk_far ?_ NB893_894.out _;(with_reducible repeat (first|refine blk_drewN ?_ _|refine blk_drew ?_|refine blk_alloc ?_ _));refine blk_put (cs:=#[.slice none 0 0]) ?_ 0 _ rfl;(with_reducible repeat (first|refine blk_drewN ?_ _|refine blk_drew ?_|refine blk_alloc ?_ _));exact BK893.out) hb);replace BK894:=Aside0.mk (blk_below (g:=gb894) (o:=.cells #[.slice Ao78 t884.length co78] 38 (0,0)) (by (with_reducible repeat (first|refine blk_drewN ?_ _|refine blk_drew ?_|refine blk_alloc ?_ _));refine blk_put (cs:=#[.slice none 0 0]) ?_ 0 _ rfl;(with_reducible repeat (first|refine blk_drewN ?_ _|refine blk_drew ?_|refine blk_alloc ?_ _));refine blk_far ?_ NB894_893.out _;(with_reducible repeat (first|refine blk_drewN ?_ _|refine blk_drew ?_|refine blk_alloc ?_ _));exact BK894.out) hb);replace HB:=qs HB hb;clear hb ho0;obtain ⟨Ao81,co81,eo81⟩:=Kd.V_slice HO889.out;subst eo81;obtain ⟨Ao82,co82,eo82⟩:=Kd.V_slice HO892.out;subst eo82)|((with_reducible refine gate_callee (f:=58) rfl ?_);refine gL (some 29) Try.func58 #[.slice Ao81 t887.length co81,.slice Ao82 t890.length co82] ?_;(with_reducible refine (sacristyref01_Mul.calls k _ _ t887 _ _ t890 t898 _ ?side1 ?side2 ?side3 ?side4 A10.out).mono ?_);(case side1 => exact qCV HO889);(case side2 => exact qL HO889);(case side3 => exact qCV HO892);(case side4 => exact qL HO892);rintro e w83 ⟨v899,rfl,ho0,hb⟩;refine ⟨_,rfl,?_⟩;replace HO883:=qVb HO883 hb;replace HO886:=qVb HO886 hb;replace HO889:=qVb HO889 hb;replace HO892:=qVb HO892 hb;replace HO897:=qVb HO897 hb;have HO900:=Aside0.mk (Kd.V_lower (Kd.V_mono (ok':=fun k_ => k_ ≠ gb893 ∧ k_ ≠ gb894) ho0 (fun k_ hk_ => ⟨(Kd.freshB (qB BK893.out) k_ hk_),(Kd.freshB (qB BK894.out) k_ hk_)⟩)) (below_size (qS HB)));replace BK893:=qb BK893 hb;replace BK894:=qb BK894 hb;replace HB:=qs HB hb;clear hb ho0;obtain ⟨Ao84,co84,eo84⟩:=Kd.V_slice HO897.out;subst eo84;obtain ⟨Ao85,co85,eo85⟩:=Kd.V_slice HO900.out;subst eo85)|((with_reducible refine gate_callee (f:=37) rfl ?_);refine gL (some 30) Try.func37 #[.agg #[.slice Ao84 t895.length co84],.slice Ao85 t898.length co85] ?_;(with_reducible refine (sacristylaw01_Same.calls k _ _ t895 _ _ t898 true _ ?side1 ?side2 ?side3 ?side4 A11.out).mono ?_);(case side1 => exact qCV HO897);(case side2 => exact qL HO897);(case side3 => exact qCV HO900);(case side4 => exact qL HO900);rintro e w86 ⟨rfl,hb⟩;refine ⟨_,rfl,?_⟩;replace HO883:=qVb HO883 hb;replace HO886:=qVb HO886 hb;replace HO889:=qVb HO889 hb;replace HO892:=qVb HO892 hb;replace HO897:=qVb HO897 hb;replace HO900:=qVb HO900 hb;replace BK893:=qb BK893 hb;replace BK894:=qb BK894 hb;replace HB:=qs HB hb;clear hb;have hcz87_0:=bc BK893;have hfz87_0:=bz BK893;have hcz88_0:=bc BK894;have hfz88_0:=bz BK894)|((with_reducible refine gate_callee (f:=53) rfl ?_);refine gL (some 35) Try.func53 #[.agg #[.slice Ao75 t881.length co75],.agg #[.slice Ao78 t884.length co78]] ?_;(with_reducible refine (nat_Nat_Div.calls k (fun k_ => ((True ∧ k_ ≠ gb893) ∧ k_ ≠ gb894)) _ _ t881 _ _ t884 t902 t905 t908 _ ?side1 ?side2 ?side3 A13.out).mono ?_);(case side1 => first|exact HO883.out|exact qVm HO883);(case side2 => exact qCV HO886);(case side3 => exact qL HO886);rintro e w89 ⟨v903,v906,rfl,ho0,ho1,hb⟩;refine ⟨_,rfl,?_⟩;replace HO883:=qVb HO883 hb;replace HO886:=qVb HO886 hb;replace HO889:=qVb HO889 hb;replace HO892:=qVb HO892 hb;replace HO897:=qVb HO897 hb;replace HO900:=qVb HO900 hb;have HO904:=Aside0.mk (Kd.V_lower (Kd.V_mono (ok':=fun k_ => k_ ≠ gb893 ∧ k_ ≠ gb894) ho0 (fun k_ hk_ => ⟨Or.elim hk_ (fun hs_ => hs_.1.2) (fun hn_ => (Kd.freshB (qB BK893.out) k_ hn_)),Or.elim hk_ (fun hs_ => hs_.2) (fun hn_ => (Kd.freshB (qB BK894.out) k_ hn_))⟩)) (below_size (qS HB)));have HO907:=Aside0.mk (Kd.V_lower (Kd.V_mono (ok':=fun k_ => k_ ≠ gb893 ∧ k_ ≠ gb894) ho1 (fun k_ hk_ => ⟨Or.elim hk_ (fun hs_ => hs_.1.2) (fun hn_ => (Kd.freshB (qB BK893.out) k_ hn_)),Or.elim hk_ (fun hs_ => hs_.2) (fun hn_ => (Kd.freshB (qB BK894.out) k_ hn_))⟩)) (below_size (qS HB)));replace BK893:=qb BK893 hb;replace BK894:=qb BK894 hb;replace HB:=qs HB hb;clear hb ho0 ho1)|((with_reducible refine gate_dst (N:=9) rfl ?_);refine qX #[.slice none 0 0] 38 ?_;intro gb909 hg w90 hbox hb;replace HO883:=qVe HO883 hb hg;replace HO886:=qVe HO886 hb hg;replace HO889:=qVe HO889 hb hg;replace HO892:=qVe HO892 hb hg;replace HO897:=qVe HO897 hb hg;replace HO900:=qVe HO900 hb hg;replace HO904:=qVe HO904 hb hg;replace HO907:=qVe HO907 hb hg;have BK909:=Aside0.mk hbox;have GE909:=qh hg HB;replace HB:=qs HB hb;have NB893_909:=ql hg BK893;have NB909_893:=qg hg BK893;replace BK893:=qb BK893 hb;have NB894_909:=ql hg BK894;have NB909_894:=qg hg BK894;replace BK894:=qb BK894 hb;clear hb hbox hg)|((with_reducible refine gate_dst (N:=10) rfl ?_);refine qX #[.slice none 0 0] 38 ?_;intro gb910 hg w91 hbox hb;replace HO883:=qVe HO883 hb hg;replace HO886:=qVe HO886 hb hg;replace HO889:=qVe HO889 hb hg;replace HO892:=qVe HO892 hb hg;replace HO897:=qVe HO897 hb hg;replace HO900:=qVe HO900 hb hg;replace HO904:=qVe HO904 hb hg;replace HO907:=qVe HO907 hb hg;have BK910:=Aside0.mk hbox;have GE910:=qh hg HB;replace HB:=qs HB hb;have NB893_910:=ql hg BK893;have NB910_893:=qg hg BK893;replace BK893:=qb BK893 hb;have NB894_910:=ql hg BK894;have NB910_894:=qg hg BK894;replace BK894:=qb BK894 hb;have NB909_910:=ql hg BK909;have NB910_909:=qg hg BK909;replace BK909:=qb BK909 hb;clear hb hbox hg;obtain ⟨Ao92,co92,eo92⟩:=Kd.V_slice HO904.out;subst eo92;have hnb93:=NB909_893.out;have hnc93:=NB893_909.out;have hnb94:=NB909_894.out;have hnc94:=NB894_909.out;have hnb95:=NB909_910.out;have hnc95:=NB910_909.out;have hcz96_0:=bc BK909;have hfz96_0:=bz BK909;obtain ⟨Ao97,co97,eo97⟩:=Kd.V_slice HO907.out;subst eo97;have hnb98:=NB910_893.out;have hnc98:=NB893_910.out;have hnb99:=NB910_894.out;have hnc99:=NB894_910.out;have hcz100_0:=bc BK910;have hfz100_0:=bz BK910;have hcz101_0:=bc BK894;have hfz101_0:=bz BK894)|((with_reducible refine gate_callee (f:=44) rfl ?_);refine gL (some 40) Try.func44 #[.agg #[.slice Ao78 t884.length co78]] ?_;(with_reducible refine (nat_Nat_Zero.calls _ _ t884 false _ ?side1 ?side2 A14.out).mono ?_);(case side1 => refine (Kd.V_reads' (e:=23) (base:=w.heap.size) (ok:=fun k_ => ((((True ∧ k_ ≠ gb893) ∧ k_ ≠ gb894) ∧ k_ ≠ gb909) ∧ k_ ≠ gb910)) (n:=t884.length) (c:=co78) ?_).2.2;exact (qVm HO886));(case side2 => exact qL HO886);rintro e w102 ⟨rfl,hb⟩;refine ⟨_,rfl,?_⟩;replace HO883:=qVb HO883 hb;replace HO886:=qVb HO886 hb;replace HO889:=qVb HO889 hb;replace HO892:=qVb HO892 hb;replace HO897:=qVb HO897 hb;replace HO900:=qVb HO900 hb;replace HO904:=qVb HO904 hb;replace HO907:=qVb HO907 hb;replace BK893:=Aside0.mk (blk_below (g:=gb893) (o:=.cells #[.slice Ao75 t881.length co75] 38 (0,0)) (by (with_reducible repeat (first|refine blk_drewN ?_ _|refine blk_drew ?_|refine blk_alloc ?_ _));refine blk_far ?_ NB893_910.out _;(with_reducible repeat (first|refine blk_drewN ?_ _|refine blk_drew ?_|refine blk_alloc ?_ _));refine blk_far ?_ NB893_909.out _;(with_reducible repeat (first|refine blk_drewN ?_ _|refine blk_drew ?_|refine blk_alloc ?_ _));exact BK893.out) hb);replace BK894:=Aside0.mk (blk_below (g:=gb894) (o:=.cells #[.slice Ao78 t884.length co78] 38 (0,0)) (by (with_reducible repeat (first|refine blk_drewN ?_ _|refine blk_drew ?_|refine blk_alloc ?_ _));refine blk_far ?_ NB894_910.out _;(with_reducible repeat (first|refine blk_drewN ?_ _|refine blk_drew ?_|refine blk_alloc ?_ _));refine blk_far ?_ NB894_909.out _;(with_reducible repeat (first|refine blk_drewN ?_ _|refine blk_drew ?_|refine blk_alloc ?_ _));exact BK894.out) hb);replace BK909:=Aside0.mk (blk_below (g:=gb909) (o:=.cells #[.slice Ao92 t902.length co92] 38 (0,0)) (by (with_reducible repeat (first|refine blk_drewN ?_ _|refine blk_drew ?_|refine blk_alloc ?_ _));refine blk_far ?_ NB909_910.out _;(with_reducible repeat (first|refine blk_drewN ?_ _|refine blk_drew ?_|refine blk_alloc ?_ _));refine blk_put (cs:=#[.slice none 0 0]) ?_ 0 _ rfl;(with_reducible repeat (first|refine blk_drewN ?_ _|refine blk_drew ?_|refine blk_alloc ?_ _));exact BK909.out) hb);replace BK910:=Aside0.mk (blk_below (g:=gb910) (o:=.cells #[.slice Ao97 t905.length co97] 38 (0,0)) (by (with_reducible repeat (first|refine blk_drewN ?_ _|refine blk_drew ?_|refine blk_alloc ?_ _));refine blk_put (cs:=#[.slice none 0 0]) ?_ 0 _ rfl;(with_reducible repeat (first|refine blk_drewN ?_ _|refine blk_drew ?_|refine blk_alloc ?_ _));refine blk_far ?_ NB910_909.out _;(with_reducible repeat (first|refine blk_drewN ?_ _|refine blk_drew ?_|refine blk_alloc ?_ _));exact BK910.out) hb);replace HB:=qs HB hb;clear hb)|((with_reducible refine gate_callee (f:=59) rfl ?_);refine gL (some 54) Try.func59 #[.slice Ao81 t887.length co81,.slice Ao82 t890.length co82] ?_;(with_reducible refine (sacristyref01_Div.calls k _ _ t887 _ _ t890 t914 t917 _ ?side1 ?side2 ?side3 ?side4 A59.out).mono ?_);(case side1 => exact qCV HO889);(case side2 => exact qL HO889);(case side3 => exact qCV HO892);(case side4 => exact qL HO892);rintro e w103 ⟨v915,v918,rfl,ho0,ho1,hb⟩;refine ⟨_,rfl,?_⟩;replace HO883:=qVb HO883 hb;replace HO886:=qVb HO886 hb;replace HO889:=qVb HO889 hb;replace HO892:=qVb HO892 hb;replace HO897:=qVb HO897 hb;replace HO900:=qVb HO900 hb;replace HO904:=qVb HO904 hb;replace HO907:=qVb HO907 hb;have HO916:=Aside0.mk (Kd.V_lower (Kd.V_mono (ok':=fun k_ => k_ ≠ gb893 ∧ k_ ≠ gb894 ∧ k_ ≠ gb909 ∧ k_ ≠ gb910) ho0 (fun k_ hk_ => ⟨(Kd.freshB (qB BK893.out) k_ hk_),(Kd.freshB (qB BK894.out) k_ hk_),(Kd.freshB (qB BK909.out) k_ hk_),(Kd.freshB (qB BK910.out) k_ hk_)⟩)) (below_size (qS HB)));have HO919:=Aside0.mk (Kd.V_lower (Kd.V_mono (ok':=fun k_ => k_ ≠ gb893 ∧ k_ ≠ gb894 ∧ k_ ≠ gb909 ∧ k_ ≠ gb910) ho1 (fun k_ hk_ => ⟨(Kd.freshB (qB BK893.out) k_ hk_),(Kd.freshB (qB BK894.out) k_ hk_),(Kd.freshB (qB BK909.out) k_ hk_),(Kd.freshB (qB BK910.out) k_ hk_)⟩)) (below_size (qS HB)));replace BK893:=qb BK893 hb;replace BK894:=qb BK894 hb;replace BK909:=qb BK909 hb;replace BK910:=qb BK910 hb;replace HB:=qs HB hb;clear hb ho0 ho1;have hcz104_0:=bc BK909;have hfz104_0:=bz BK909;obtain ⟨Ao105,co105,eo105⟩:=Kd.V_slice HO916.out;subst eo105)|(go_at_call 37;(with_reducible refine (sacristylaw01_Same.calls k _ _ t902 _ _ t914 true _ ?side1 ?side2 ?side3 ?side4 A61.out).mono ?_);(case side1 => exact qCV HO904);(case side2 => exact qL HO904);(case side3 => exact qCV HO916);(case side4 => exact qL HO916);rintro e w106 ⟨rfl,hb⟩;replace HO883:=qVb HO883 hb;replace HO886:=qVb HO886 hb;replace HO889:=qVb HO889 hb;replace HO892:=qVb HO892 hb;replace HO897:=qVb HO897 hb;replace HO900:=qVb HO900 hb;replace HO904:=qVb HO904 hb;replace HO907:=qVb HO907 hb;replace HO916:=qVb HO916 hb;replace HO919:=qVb HO919 hb;replace BK893:=qb BK893 hb;replace BK894:=qb BK894 hb;replace BK909:=qb BK909 hb;replace BK910:=qb BK910 hb;replace HB:=qs HB hb;clear hb;have hcz107_0:=bc BK910;have hfz107_0:=bz BK910;obtain ⟨Ao108,co108,eo108⟩:=Kd.V_slice HO919.out;subst eo108)|(go_at_call 37;(with_reducible refine (sacristylaw01_Same.calls k _ _ t905 _ _ t917 true _ ?side1 ?side2 ?side3 ?side4 A63.out).mono ?_);(case side1 => exact qCV HO907);(case side2 => exact qL HO907);(case side3 => exact qCV HO919);(case side4 => exact qL HO919);rintro e w109 ⟨rfl,hb⟩;replace HO883:=qVb HO883 hb;replace HO886:=qVb HO886 hb;replace HO889:=qVb HO889 hb;replace HO892:=qVb HO892 hb;replace HO897:=qVb HO897 hb;replace HO900:=qVb HO900 hb;replace HO904:=qVb HO904 hb;replace HO907:=qVb HO907 hb;replace HO916:=qVb HO916 hb;replace HO919:=qVb HO919 hb;replace BK893:=qb BK893 hb;replace BK894:=qb BK894 hb;replace BK909:=qb BK909 hb;replace BK910:=qb BK910 hb;replace HB:=qs HB hb;clear hb;have hcz110_0:=bc BK893;have hfz110_0:=bz BK893)|(go_at_call 37;(with_reducible refine (sacristylaw01_Same.calls k _ _ t881 _ _ t887 true _ ?side1 ?side2 ?side3 ?side4 A65.out).mono ?_);(case side1 => exact qCV HO883);(case side2 => exact qL HO883);(case side3 => exact qCV HO889);(case side4 => exact qL HO889);rintro e w111 ⟨rfl,hb⟩;replace HO883:=qVb HO883 hb;replace HO886:=qVb HO886 hb;replace HO889:=qVb HO889 hb;replace HO892:=qVb HO892 hb;replace HO897:=qVb HO897 hb;replace HO900:=qVb HO900 hb;replace HO904:=qVb HO904 hb;replace HO907:=qVb HO907 hb;replace HO916:=qVb HO916 hb;replace HO919:=qVb HO919 hb;replace BK893:=qb BK893 hb;replace BK894:=qb BK894 hb;replace BK909:=qb BK909 hb;replace BK910:=qb BK910 hb;replace HB:=qs HB hb;clear hb;have hcz112_0:=bc BK894;have hfz112_0:=bz BK894)|(go_at_call 37;(with_reducible refine (sacristylaw01_Same.calls k _ _ t884 _ _ t890 t923 _ ?side1 ?side2 ?side3 ?side4 A67.out).mono ?_);(case side1 => exact qCV HO886);(case side2 => exact qL HO886);(case side3 => exact qCV HO892);(case side4 => exact qL HO892);rintro e w113 ⟨rfl,hb⟩;replace HO883:=qVb HO883 hb;replace HO886:=qVb HO886 hb;replace HO889:=qVb HO889 hb;replace HO892:=qVb HO892 hb;replace HO897:=qVb HO897 hb;replace HO900:=qVb HO900 hb;replace HO904:=qVb HO904 hb;replace HO907:=qVb HO907 hb;replace HO916:=qVb HO916 hb;replace HO919:=qVb HO919 hb;replace BK893:=qb BK893 hb;replace BK894:=qb BK894 hb;replace BK909:=qb BK909 hb;replace BK910:=qb BK910 hb;replace HB:=qs HB hb;clear hb))
        (first|go_ret|(refine ⟨_,results_tmp rfl _ _ _,?_⟩))
        exact ⟨by first|rfl|(simp [errW_none,errW_some] <;> rfl)|(simp [*,errW_none,errW_some] <;> rfl),qS HB⟩
       ·replace c66:=Bool.eq_false_iff.mpr c66
        subst c66
        rw [qFT] at H
        exact absurd H (by simp)
      ·replace c64:=Bool.eq_false_iff.mpr c64
       subst c64
       rw [qFT] at H
       exact absurd H (by simp)
     ·replace c62:=Bool.eq_false_iff.mpr c62
      subst c62
      rw [qFT] at H
      exact absurd H (by simp)
    ·rw [if_neg c60] at H
     exact absurd H (by simp)
  ·replace c12:=Bool.eq_false_iff.mpr c12
   subst c12
   rw [qFT] at H
   exact absurd H (by simp)
 ·replace c4:=Bool.eq_false_iff.mpr c4
  subst c4
  rw [qFT] at H
  exact absurd H (by simp)
def sacristylaw01_NatProducts.Pure : Prop:=∀ (l0 : List Int) (l1 : List Int),l0.length ≤ maxLen → l0.length * 1 ≤ 140737488351232 → (∀ x ∈ l0,(Lit.int .u8 x).wf = true) → l1.length ≤ maxLen → l1.length * 1 ≤ 140737488351232 → (∀ x ∈ l1,(Lit.int .u8 x).wf = true) → ∃ k,sacristylaw01_NatProducts.f k l0 l1 = some true
theorem sacristylaw01_NatProducts.walk (P : sacristylaw01_NatProducts.Pure) (a0 : Option Addr) (len0 cap0 : Nat) (z0 : List Int) (a1 : Option Addr) (len1 cap1 : Nat) (z1 : List Int) (w : World) (w0 : (a0 = none ∧ len0 = 0 ∧ cap0 = 0 ∧ z0 = []) ∨ ∃ x,a0 = some x ∧ len0 ≤ cap0 ∧ cap0 ≤ maxLen ∧ z0.length = cap0 ∧ (∀ i,i < z0.length → w.cell? (x.add i) = some (.int .u8 (z0.getD i 0))) ∧ ∀ n ∈ z0,(Lit.int .u8 n).wf = true) (y0 : len0 * 1 ≤ 140737488351232) (w1 : (a1 = none ∧ len1 = 0 ∧ cap1 = 0 ∧ z1 = []) ∨ ∃ x,a1 = some x ∧ len1 ≤ cap1 ∧ cap1 ≤ maxLen ∧ z1.length = cap1 ∧ (∀ i,i < z1.length → w.cell? (x.add i) = some (.int .u8 (z1.getD i 0))) ∧ ∀ n ∈ z1,(Lit.int .u8 n).wf = true) (y1 : len1 * 1 ≤ 140737488351232) :
  Calls Try.prog 13 #[.slice a0 len0 cap0,.slice a1 len1 cap1] w fun e w' => e = .returned (.bool true) ∧ Below w.heap.size w w':=by
 obtain ⟨l0,rfl,hr0,hm0,hw0,hc0⟩:=ReadsInt.ofRowC w0
 obtain ⟨l1,rfl,hr1,hm1,hw1,hc1⟩:=ReadsInt.ofRowC w1
 obtain ⟨k,h⟩:=P l0 l1 hm0 y0 hw0 hm1 y1 hw1
 refine (sacristylaw01_NatProducts.calls k _ _ l0 _ _ l1 true w (Kd.C_of_reads (d:=(0 : Int)) (h1:=fun _ => rfl) hr0) hc0 (Kd.C_of_reads (d:=(0 : Int)) (h1:=fun _ => rfl) hr1) hc1 h).mono ?_
 rintro e w' ⟨rfl,hd⟩
 exact ⟨rfl,hd⟩
end Go.Proofs.Yteejcpbngnojkaa.P
end
section
namespace Go.Proofs.Yteejcpbngnojkaa.P
open Go.RowKit Go.Proofs.YteejcpbngnojkaaW.PrintWords Go.Proofs.YteejcpbngnojkaaW.PrintLast Go.Proofs.YteejcpbngnojkaaW.PrintMore
attribute [local go_sem] max2_int min2_int max_two min_two max_three min_three max_four min_four
set_option linter.unusedVariables false
set_option linter.unusedSimpArgs false
def sacristyref01_Gcd.l0 : Nat → List Bool → List Bool → Option (List Bool)
 |0,_,_ => none
 |k + 1,x0,x1 => if (x1.length : Int) > 0 then ((sacristyref01_Div.f k x0 x1).bind fun bt770 => (sacristyref01_Gcd.l0 k x1 bt770.2)) else (some x0)
def sacristyref01_Gcd.f (k : Nat) (l0 : List Bool) (l1 : List Bool) : Option (List Bool):=sacristyref01_Gcd.l0 k l0 l1
theorem sacristyref01_Gcd.mono_l : ∀ k,(∀ y0 y1,LeO (sacristyref01_Gcd.l0 k y0 y1) (sacristyref01_Gcd.l0 (k + 1) y0 y1))
 |0 => fun _ _ r h => by simp [sacristyref01_Gcd.l0] at h
 |k + 1 => by
  have ih0:=sacristyref01_Gcd.mono_l k
  ·intro y0 y1
   unfold sacristyref01_Gcd.l0
   repeat' first
   |(with_reducible exact ih0 _ _)
   |(with_reducible exact sacristyref01_Div.mono _ _ _)
   |(with_reducible exact LeO.refl _)
   |(with_reducible exact LeO.none _)
   |(with_reducible refine LeO.ite ?_ ?_)
   |(with_reducible refine LeO.bind ?_ (fun _ => ?_))
   |exact ih0 _ _
   |exact sacristyref01_Div.mono _ _ _
   |exact LeO.none _
   |refine LeO.ite ?_ ?_
   |refine LeO.bind ?_ (fun _ => ?_)
theorem sacristyref01_Gcd.mono : ∀ a0 a1 k,LeO (sacristyref01_Gcd.f k a0 a1) (sacristyref01_Gcd.f (k + 1) a0 a1):=by
 intro a0 a1 k
 have ih0:=sacristyref01_Gcd.mono_l k
 unfold sacristyref01_Gcd.f
 repeat' first
   |(with_reducible exact ih0 _ _)
   |(with_reducible exact sacristyref01_Div.mono _ _ _)
   |(with_reducible exact LeO.refl _)
   |(with_reducible exact LeO.none _)
   |(with_reducible refine LeO.ite ?_ ?_)
   |(with_reducible refine LeO.bind ?_ (fun _ => ?_))
   |exact ih0 _ _
   |exact sacristyref01_Div.mono _ _ _
   |exact LeO.none _
   |refine LeO.ite ?_ ?_
   |refine LeO.bind ?_ (fun _ => ?_)
end Go.Proofs.Yteejcpbngnojkaa.P
end
section
namespace Go.Proofs.Yteejcpbngnojkaa.P
open Go.RowKit Go.Proofs.YteejcpbngnojkaaW.PrintWords Go.Proofs.YteejcpbngnojkaaW.PrintLast Go.Proofs.YteejcpbngnojkaaW.PrintMore
open Go.Proofs.Yteejcpbngnojkaa.Num
set_option linter.unusedVariables false
def gb (l : List Bool) (j : Nat) : Bool := l.getD j false
theorem rdB (l : List Bool) (i : Nat) : rdOf false l (i : Int) = gb l i := by simp [rdOf, gb]
theorem gb_eq {l : List Bool} {j : Nat} (h : j < l.length) : gb l j = l[j] := by simp [gb, List.getD_eq_getElem?_getD, List.getElem?_eq_getElem h]
theorem gb_out {l : List Bool} {j : Nat} (h : l.length ≤ j) : gb l j = false := by simp [gb, List.getD_eq_getElem?_getD, List.getElem?_eq_none h]
theorem wdec {n : Nat} (h : n ≤ 4611686018427387904) : wrap64 (((n + 1 : Nat) : Int) - 1) = (n : Int) := by rw [w64 (by omega) (by omega)]; omega
theorem winc {n : Nat} (h : n ≤ 4611686018427387904) : wrap64 ((n : Int) + 1) = ((n + 1 : Nat) : Int) := by rw [w64 (by omega) (by omega)]; omega
theorem takeB_snoc {l : List Bool} {j : Nat} (h : j < l.length) : l.take (j + 1) = l.take j ++ [gb l j] := by rw [List.take_succ_eq_append_getElem h, gb_eq h]
theorem valB_take_snoc {l : List Bool} {j : Nat} (h : j < l.length) : valB (l.take (j + 1)) = valB (l.take j) + 2 ^ j * (gb l j).toNat := by
  rw [takeB_snoc h, valB_snoc, List.length_take, Nat.min_eq_left (by omega)]
theorem rTrim_ev (l : List Bool) (hn : l.length ≤ 4611686018427387904) : Ev (fun k => sacristyref01_Trim.f k l) (toB (valB l)) := by
  unfold sacristyref01_Trim.f
  generalize hm : l.length = m
  induction m generalizing l with
  | zero =>
    obtain rfl := List.eq_nil_of_length_eq_zero hm
    refine Ev.step (f := fun _ => some []) (fun k => by simp [sacristyref01_Trim.l0]) ?_
    rw [valB_nil, toB_zero]
    exact Ev.now _
  | succ m ih =>
    have hne : l ≠ [] := fun e => by subst e; simp at hm
    obtain ⟨l', x, rfl⟩ : ∃ l' x, l = l' ++ [x] := ⟨l.dropLast, l.getLast hne, (List.dropLast_concat_getLast hne).symm⟩
    have hm' : l'.length = m := by simpa using hm
    have hm4 : m ≤ 4611686018427387904 := by simp at hn; omega
    have hlen : ((l' ++ [x]).length : Int) = ((m + 1 : Nat) : Int) := by rw [hm]
    have c1 : ((m + 1 : Nat) : Int) > 0 := by omega
    have c2 : (0 : Int) ≤ (m : Int) := by omega
    have c3 : (m : Int) < ((m + 1 : Nat) : Int) := by omega
    have c4 : (m : Int) ≤ ((m + 1 : Nat) : Int) := by omega
    have hw := wdec hm4
    have hrd : rdOf false (l' ++ [x]) (m : Int) = x := by rw [rdB]; simp [gb, List.getD_eq_getElem?_getD, ← hm']
    cases x with
    | false =>
      refine Ev.step (f := fun k => sacristyref01_Trim.l0 k l') (fun k => ?_) ?_
      · simp only [sacristyref01_Trim.l0]
        rw [hlen, hw, if_pos c1, if_pos c2, if_pos c3, hrd, if_neg (by decide), if_pos c4, Int.toNat_natCast, ← hm', List.take_left' rfl]
      · rw [toB_valB_snoc_false]
        exact ih l' (by omega) hm'
    | true =>
      refine Ev.step (f := fun _ => some (l' ++ [true])) (fun k => ?_) ?_
      · simp only [sacristyref01_Trim.l0]
        rw [hlen, hw, if_pos c1, if_pos c2, if_pos c3, hrd, if_pos rfl]
      · rw [toB_valB_true]
        exact Ev.now _
def bitsFrom (x : Nat) : Nat → Nat → List Bool
  | _, 0 => []
  | j, d + 1 => (x / 2 ^ j % 2 == 1) :: bitsFrom x (j + 1) d
theorem bitsFrom_len (x j d : Nat) : (bitsFrom x j d).length = d := by
  induction d generalizing j with
  | zero => rfl
  | succ d ih => simp [bitsFrom, ih]
theorem bit_toNat (n : Nat) : (n % 2 == 1).toNat = n % 2 := by
  have := Nat.mod_lt n (show 0 < 2 by omega)
  rcases Nat.mod_two_eq_zero_or_one n with h | h <;> rw [h] <;> rfl
theorem bitsFrom_val (x j d : Nat) : valB (bitsFrom x j d) = x / 2 ^ j % 2 ^ d := by
  induction d generalizing j with
  | zero => simp [bitsFrom, valB_nil, Nat.mod_one]
  | succ d ih =>
    rw [bitsFrom, valB_cons, ih, bit_toNat, Nat.pow_succ 2 j, ← Nat.div_div_eq_div_mul, Nat.pow_succ, Nat.mul_comm (2 ^ d) 2, Nat.mod_mul]
theorem of_bit (x : Int) (j : Nat) (h0 : 0 ≤ x) (h : x < 256) (hj : j < 8) : (Int.tmod (shr .u8 x (j : Int)) 2 == 1) = (x.toNat / 2 ^ j % 2 == 1) := by
  obtain ⟨n, rfl⟩ := Int.eq_ofNat_of_zero_le h0
  have hmin : min j IntKind.u8.bits = j := Nat.min_eq_left (by show j ≤ 8; omega)
  unfold shr
  rw [Int.toNat_natCast, hmin, Int.toNat_natCast]
  have h2 : (2 : Int) ^ j = ((2 ^ j : Nat) : Int) := by simp
  rw [h2, ← Int.natCast_ediv]
  generalize n / 2 ^ j = N
  rw [show (2 : Int) = ((2 : Nat) : Int) from rfl, ← Int.ofNat_tmod]
  rw [Bool.eq_iff_iff, beq_iff_eq, beq_iff_eq]
  omega
theorem rOf_inner (l : List Int) (hb : Bytes l) (i : Nat) (hi : i < l.length) (r : List Bool) (d : Nat) : ∀ (j : Nat) (acc : List Bool), j + d = 8 → acc.length + d ≤ 1000000 → Ev (fun k => sacristyref01_Of.l0 k l (acc ++ bitsFrom (gw l i).toNat j d) (wrap64 ((i : Int) - 1))) r → Ev (fun k => sacristyref01_Of.l1 k l acc (i : Int) (j : Int)) r := by
  induction d with
  | zero =>
    intro j acc hj hacc hev
    obtain rfl : j = 8 := by omega
    simp only [bitsFrom, List.append_nil] at hev
    exact Ev.step (fun k => by simp only [sacristyref01_Of.l1]; rw [if_neg (by omega)]) hev
  | succ d ih =>
    intro j acc hj hacc hev
    have c1 : (j : Int) < 8 := by omega
    have c2 : (0 : Int) ≤ (i : Int) := by omega
    have c3 : (i : Int) < (l.length : Int) := by omega
    have c4 : (0 : Int) ≤ (j : Int) := by omega
    have c5 : acc.length < 140737488355328 := by omega
    have hj8 : j < 8 := by omega
    have hjd : j + 1 + d = 8 := by omega
    have hw := winc (n := j) (by omega)
    have g := hb.gw i
    refine Ev.step (f := fun k => sacristyref01_Of.l1 k l (acc ++ [((gw l i).toNat / 2 ^ j % 2 == 1)]) (i : Int) ((j + 1 : Nat) : Int)) (fun k => ?_) ?_
    · simp only [sacristyref01_Of.l1]
      rw [if_pos c1, if_pos c2, if_pos c3, if_pos c4, if_pos c5, hw, rd_gw, of_bit _ j g.1 g.2 hj8]
    · refine ih (j + 1) _ hjd (by simp; omega) ?_
      rw [List.append_assoc]
      exact hev
theorem rOf_outer (l : List Int) (hb : Bytes l) (n : Nat) : ∀ (acc : List Bool), n ≤ l.length → acc.length + 8 * n ≤ 900000 → Ev (fun k => sacristyref01_Of.l0 k l acc ((n : Int) - 1)) (toB (valB acc + 2 ^ acc.length * valL (l.take n).reverse)) := by
  induction n with
  | zero =>
    intro acc hn hacc
    have ht := rTrim_ev acc (by omega)
    refine Ev.step (fun k => by simp only [sacristyref01_Of.l0]; rw [if_neg (by omega)]) (Ev.bind (f := fun _ t => some t) ht ?_)
    simp only [List.take_zero, List.reverse_nil, show valL [] = 0 from rfl, Nat.mul_zero, Nat.add_zero]
    exact Ev.now _
  | succ n ih =>
    intro acc hn hacc
    have c1 : ((n : Nat) : Int) ≥ 0 := by omega
    have e1 : ((n + 1 : Nat) : Int) - 1 = (n : Int) := by omega
    have hw : wrap64 ((n : Int) - 1) = (n : Int) - 1 := w64 (by omega) (by omega)
    have g := hb.gw n
    have hlt : (gw l n).toNat < 256 := by omega
    have hn1 : n < l.length := by omega
    rw [e1]
    refine Ev.step (f := fun k => sacristyref01_Of.l1 k l acc (n : Int) 0) (fun k => by simp only [sacristyref01_Of.l0]; rw [if_pos c1]) ?_
    refine rOf_inner l hb n hn1 _ 8 0 acc rfl (by omega) ?_
    rw [hw]
    have h := ih (acc ++ bitsFrom (gw l n).toNat 0 8) (by omega) (by rw [List.length_append, bitsFrom_len]; omega)
    have e2 : valB (acc ++ bitsFrom (gw l n).toNat 0 8) + 2 ^ (acc ++ bitsFrom (gw l n).toNat 0 8).length * valL (l.take n).reverse = valB acc + 2 ^ acc.length * valL (l.take (n + 1)).reverse := by
      have e3 : (l.take (n + 1)).reverse = gw l n :: (l.take n).reverse := by rw [take_snoc hn1, List.reverse_append]; rfl
      rw [e3, valL_cons, valB_append, bitsFrom_val, List.length_append, bitsFrom_len, Nat.pow_add]
      simp only [Nat.pow_zero, Nat.div_one]
      rw [Nat.mod_eq_of_lt hlt]
      generalize (gw l n).toNat = x
      generalize valL (l.take n).reverse = V
      generalize 2 ^ acc.length = P
      grind
    rw [e2] at h
    exact h
theorem rOf_ev (l : List Int) (hb : Bytes l) (hn : l.length ≤ 100000) : Ev (fun k => sacristyref01_Of.f k l) (toB (valH l)) := by
  unfold sacristyref01_Of.f
  have hw : wrap64 ((l.length : Int) - 1) = (l.length : Int) - 1 := w64 (by omega) (by omega)
  rw [hw]
  have h := rOf_outer l hb l.length [] (Nat.le_refl _) (by simp; omega)
  rw [List.take_length] at h
  simpa [valB_nil, valH] using h
theorem rSmall_ev (x : Nat) : ∀ (acc : List Bool), x < 18446744073709551616 → acc.length + (toB x).length ≤ 1000 → Ev (fun k => sacristyref01_Small.l0 k (x : Int) acc) (acc ++ toB x) := by
  induction x using Nat.strongRecOn with
  | ind x ih =>
    intro acc hx hacc
    by_cases h0 : x = 0
    · subst h0
      rw [toB_zero, List.append_nil]
      exact Ev.step (fun k => by simp only [sacristyref01_Small.l0]; rw [if_neg (by omega)]) (Ev.now _)
    · rw [toB_pos (by omega)] at hacc ⊢
      have c1 : (x : Int) > 0 := by omega
      have c2 : acc.length < 140737488355328 := by omega
      have e1 : IntKind.u64.wrap (Int.tdiv (x : Int) 2) = ((x / 2 : Nat) : Int) := by
        rw [show (2 : Int) = ((2 : Nat) : Int) from rfl, ← Int.ofNat_tdiv, wu64 (by omega) (by omega)]
      have e2 : (Int.tmod (x : Int) 2 == 1) = (x % 2 == 1) := by
        rw [show (2 : Int) = ((2 : Nat) : Int) from rfl, ← Int.ofNat_tmod, Bool.eq_iff_iff, beq_iff_eq, beq_iff_eq]; omega
      have h := ih (x / 2) (by omega) (acc ++ [(x % 2 == 1)]) (by omega) (by simp at hacc ⊢; omega)
      rw [List.append_assoc] at h
      refine Ev.step (fun k => ?_) h
      simp only [sacristyref01_Small.l0]
      rw [if_pos c1, if_pos c2, e1, e2]
theorem rSmall (x : Nat) (hx : x < 18446744073709551616) : Ev (fun k => sacristyref01_Small.f k (x : Int)) (toB x) := by
  have h64 : (toB x).length ≤ 64 := toB_len_le 64 x hx
  have := rSmall_ev x [] hx (by simp; omega)
  simpa [sacristyref01_Small.f] using this
theorem rCmp_loop (a b : List Bool) (n : Nat) : n ≤ a.length → n ≤ b.length → n ≤ 1000000 → Ev (fun k => sacristyref01_Cmp.l0 k a b ((n : Int) - 1)) (cmpN (valB (a.take n)) (valB (b.take n))) := by
  induction n with
  | zero =>
    intro ha hb hn
    refine Ev.step (f := fun _ => some 0) (fun k => by simp only [sacristyref01_Cmp.l0]; rw [if_neg (by omega)]) ?_
    simp only [List.take_zero, cmpN, Nat.lt_irrefl, if_false, if_true]
    exact Ev.now _
  | succ n ih =>
    intro ha hb hn
    have e1 : ((n + 1 : Nat) : Int) - 1 = (n : Int) := by omega
    have c1 : (n : Int) ≥ 0 := by omega
    have c2 : (0 : Int) ≤ (n : Int) := by omega
    have c3 : (n : Int) < (a.length : Int) := by omega
    have c4 : (n : Int) < (b.length : Int) := by omega
    have hw : wrap64 ((n : Int) - 1) = (n : Int) - 1 := w64 (by omega) (by omega)
    have hA := valB_lt (a.take n)
    have hB := valB_lt (b.take n)
    rw [List.length_take, Nat.min_eq_left (by omega)] at hA hB
    have h := ih (by omega) (by omega) (by omega)
    rw [e1, valB_take_snoc (by omega), valB_take_snoc (by omega)]
    generalize valB (a.take n) = A at *
    generalize valB (b.take n) = B at *
    generalize hP : 2 ^ n = P at *
    cases hx : gb a n <;> cases hy : gb b n
    · simp only [Bool.toNat_false, Nat.mul_zero, Nat.add_zero]
      refine Ev.step (fun k => ?_) h
      simp only [sacristyref01_Cmp.l0]
      rw [if_pos c1, if_pos c2, if_pos c3, if_pos c4, rdB, rdB, hx, hy, if_neg (by decide), hw]
    · refine Ev.step (f := fun _ => some (-1)) (fun k => ?_) ?_
      · simp only [sacristyref01_Cmp.l0]
        rw [if_pos c1, if_pos c2, if_pos c3, if_pos c4, rdB, rdB, hx, hy, if_pos (by decide), if_pos rfl]
      · have : cmpN (A + P * false.toNat) (B + P * true.toNat) = -1 := by
          simp only [Bool.toNat_false, Bool.toNat_true, cmpN]; rw [if_pos (by omega)]
        rw [this]; exact Ev.now _
    · refine Ev.step (f := fun _ => some 1) (fun k => ?_) ?_
      · simp only [sacristyref01_Cmp.l0]
        rw [if_pos c1, if_pos c2, if_pos c3, if_pos c4, rdB, rdB, hx, hy, if_pos (by decide), if_neg (by decide)]
      · have : cmpN (A + P * true.toNat) (B + P * false.toNat) = 1 := by
          simp only [Bool.toNat_false, Bool.toNat_true, cmpN]; rw [if_neg (by omega), if_neg (by omega)]
        rw [this]; exact Ev.now _
    · have e2 : cmpN (A + P * true.toNat) (B + P * true.toNat) = cmpN A B := by
        simp only [Bool.toNat_true, Nat.mul_one]
        have e3 : (A + P < B + P) ↔ A < B := by omega
        have e4 : (A + P = B + P) ↔ A = B := by omega
        simp only [cmpN, e3, e4]
      rw [e2]
      refine Ev.step (fun k => ?_) h
      simp only [sacristyref01_Cmp.l0]
      rw [if_pos c1, if_pos c2, if_pos c3, if_pos c4, rdB, rdB, hx, hy, if_neg (by decide), hw]
theorem rCmp_ev (a b : Nat) (ha : (toB a).length ≤ 1000000) (hb : (toB b).length ≤ 1000000) : Ev (fun k => sacristyref01_Cmp.f k (toB a) (toB b)) (cmpN a b) := by
  unfold sacristyref01_Cmp.f
  by_cases h1 : (toB a).length < (toB b).length
  · have h2 := toB_len_lt h1
    have h3 := toB_lt a
    refine Ev.congr (f := fun _ => some (cmpN a b)) (fun k => ?_) (Ev.now _)
    have : cmpN a b = -1 := by unfold cmpN; rw [if_pos (by omega)]
    rw [if_pos (by omega), this]
  · by_cases h4 : (toB b).length < (toB a).length
    · have h2 := toB_len_lt h4
      have h3 := toB_lt b
      refine Ev.congr (f := fun _ => some (cmpN a b)) (fun k => ?_) (Ev.now _)
      have : cmpN a b = 1 := by unfold cmpN; rw [if_neg (by omega), if_neg (by omega)]
      rw [if_neg (by omega), if_pos (by omega), this]
    · have hl : (toB b).length = (toB a).length := by omega
      have h := rCmp_loop (toB a) (toB b) (toB a).length (Nat.le_refl _) (by omega) ha
      rw [List.take_length, ← hl, List.take_length, valB_toB, valB_toB, hl] at h
      refine Ev.congr (fun k => ?_) h
      rw [if_neg (by omega), if_neg (by omega), w64 (by omega) (by omega)]
theorem gb_toB (a i : Nat) : (gb (toB a) i).toNat = a / 2 ^ i % 2 := by
  by_cases h : i < (toB a).length
  · rw [gb_eq h, toB_get, bit_toNat]
  · rw [gb_out (by omega)]
    have h1 := toB_lt a
    have h2 : 2 ^ (toB a).length ≤ 2 ^ i := Nat.pow_le_pow_right (by omega) (by omega)
    rw [Nat.div_eq_of_lt (by omega)]
    rfl
theorem at_toB (a i : Nat) : sacristyref01_at.f (toB a) (i : Int) = some ((a / 2 ^ i % 2 : Nat) : Int) := by
  have hg := gb_toB a i
  unfold sacristyref01_at.f
  rw [if_pos (by omega)]
  by_cases h : i < (toB a).length
  · rw [if_pos (by omega), if_pos (by omega), rdB]
    cases hb : gb (toB a) i with
    | false => rw [if_neg (by decide), ← hg, hb]; rfl
    | true => rw [if_pos rfl, ← hg, hb]; rfl
  · rw [if_neg (by omega), ← hg, gb_out (by omega)]; rfl
theorem mod_snoc (a i : Nat) : a % 2 ^ (i + 1) = a % 2 ^ i + 2 ^ i * (a / 2 ^ i % 2) := Nat.mod_pow_succ ..
theorem rAdd_loop (a b M : Nat) (hM : M ≤ 1000000) (hla : (toB a).length ≤ M) (hlb : (toB b).length ≤ M) (d : Nat) : ∀ (i c : Nat) (acc : List Bool), i + d = M + 1 → acc.length = i → c ≤ 1 → valB acc + 2 ^ i * c = a % 2 ^ i + b % 2 ^ i → (i = M + 1 → c = 0) →
    Ev (fun k => sacristyref01_Add.l0 k (toB a) (toB b) acc (c : Int) (i : Int)) (toB (a + b)) := by
  have ha := toB_lt a
  have hb := toB_lt b
  have hend : ∀ (i c : Nat) (acc : List Bool), acc.length = i → i ≤ M + 1 → c = 0 → valB acc + 2 ^ i * c = a % 2 ^ i + b % 2 ^ i → (toB a).length ≤ i → (toB b).length ≤ i → Ev (fun k => sacristyref01_Add.j1 k (toB a) (toB b) acc (c : Int) (i : Int) false) (toB (a + b)) := by
    intro i c acc hl hi hc he h1 h2
    replace he := Aside0.mk he
    have p1 : 2 ^ (toB a).length ≤ 2 ^ i := Nat.pow_le_pow_right (by omega) h1
    have p2 : 2 ^ (toB b).length ≤ 2 ^ i := Nat.pow_le_pow_right (by omega) h2
    have ht := rTrim_ev acc (by omega)
    have hv : valB acc = a + b := by
      have h3 : a < 2 ^ i := by omega
      have h4 : b < 2 ^ i := by omega
      have he := he.out
      rw [Nat.mod_eq_of_lt h3, Nat.mod_eq_of_lt h4, hc, Nat.mul_zero, Nat.add_zero] at he
      exact he
    rw [hv] at ht
    exact Ev.step (fun k => by simp only [sacristyref01_Add.j1]; rfl) (Ev.bind (f := fun _ t => some t) ht (Ev.now _))
  induction d with
  | zero =>
    intro i c acc hi hl hc he hz
    replace he := Aside0.mk he
    have hc0 := hz (by omega)
    refine Ev.step (f := fun k => sacristyref01_Add.j1 k (toB a) (toB b) acc (c : Int) (i : Int) false) (fun k => ?_) (hend i c acc hl (by omega) hc0 he.out (by omega) (by omega))
    simp only [sacristyref01_Add.l0]
    rw [if_neg (by omega), if_neg (by omega)]
    congr 1
    rw [decide_eq_false_iff_not]
    omega
  | succ d ih =>
    intro i c acc hi hl hc he hz
    replace he := Aside0.mk he
    have hgo : Ev (fun k => sacristyref01_Add.j1 k (toB a) (toB b) acc (c : Int) (i : Int) true) (toB (a + b)) := by
      have ha2 : a / 2 ^ i % 2 ≤ 1 := by have := Nat.mod_lt (a / 2 ^ i) (show 0 < 2 by omega); omega
      have hb2 : b / 2 ^ i % 2 ≤ 1 := by have := Nat.mod_lt (b / 2 ^ i) (show 0 < 2 by omega); omega
      have hma := Aside0.mk (mod_snoc a i)
      have hmb := Aside0.mk (mod_snoc b i)
      have hbig : i = M → a / 2 ^ i % 2 = 0 ∧ b / 2 ^ i % 2 = 0 := by
        intro e
        have p1 : 2 ^ (toB a).length ≤ 2 ^ i := Nat.pow_le_pow_right (by omega) (by omega)
        have p2 : 2 ^ (toB b).length ≤ 2 ^ i := Nat.pow_le_pow_right (by omega) (by omega)
        rw [Nat.div_eq_of_lt (by omega), Nat.div_eq_of_lt (by omega)]; exact ⟨rfl, rfl⟩
      have hal : acc.length < 140737488355328 := by omega
      have hi4 : i ≤ 4611686018427387904 := by omega
      have i1 : i + 1 + d = M + 1 := by omega
      have ata := at_toB a i
      have atb := at_toB b i
      generalize a / 2 ^ i % 2 = x at *
      generalize b / 2 ^ i % 2 = y at *
      have e2 : (Int.tmod ((x + y + c : Nat) : Int) 2 == 1) = ((x + y + c) % 2 == 1) := by
        rw [show (2 : Int) = ((2 : Nat) : Int) from rfl, ← Int.ofNat_tmod, Bool.eq_iff_iff, beq_iff_eq, beq_iff_eq]; omega
      have hs3 : ((x + y + c) / 2 : Nat) ≤ 1 := by clear e2; omega
      have e3 : wrap64 (Int.tdiv ((x + y + c : Nat) : Int) 2) = (((x + y + c) / 2 : Nat) : Int) := by
        rw [show (2 : Int) = ((2 : Nat) : Int) from rfl, ← Int.ofNat_tdiv]; clear e2; exact w64 (by omega) (by omega)
      have e1 : wrap64 (wrap64 ((x : Int) + (y : Int)) + (c : Int)) = ((x + y + c : Nat) : Int) := by clear e2 e3; rw [w64 (x := (x : Int) + (y : Int)) (by omega) (by omega), w64 (by omega) (by omega)]; omega
      have hrec := ih (i + 1) ((x + y + c) / 2) (acc ++ [((x + y + c) % 2 == 1)]) i1 (by simp [hl]) hs3 (by
        rw [valB_snoc, bit_toNat, hma.out, hmb.out, hl, Nat.pow_succ]
        have he := he.out
        have hs : (x + y + c) % 2 + 2 * ((x + y + c) / 2) = x + y + c := Nat.mod_add_div _ _
        generalize (x + y + c) % 2 = s at *
        generalize (x + y + c) / 2 = t at *
        generalize 2 ^ i = P at *
        generalize a % P = A at *
        generalize b % P = B at *
        clear e1 e2 e3 ata atb hbig hend ih hma hmb
        grind) (fun e => by have := hbig (by clear e1 e2 e3; omega); clear e1 e2 e3; omega)
      have hw := winc (n := i) hi4
      refine Ev.step (fun k => ?_) hrec
      simp only [sacristyref01_Add.j1]
      rw [if_pos trivial, ata]
      simp only [Option.bind_some]
      rw [atb]
      simp only [Option.bind_some]
      rw [if_pos hal, e1, e2, e3, hw]
    by_cases h1 : i < (toB a).length
    · exact Ev.step (fun k => by simp only [sacristyref01_Add.l0]; rw [if_pos (by omega)]) hgo
    · by_cases h2 : i < (toB b).length
      · exact Ev.step (fun k => by simp only [sacristyref01_Add.l0]; rw [if_neg (by omega), if_pos (by omega)]) hgo
      · by_cases h3 : c = 0
        · refine Ev.step (f := fun k => sacristyref01_Add.j1 k (toB a) (toB b) acc (c : Int) (i : Int) false) (fun k => ?_) (hend i c acc hl (by omega) h3 he.out (by omega) (by omega))
          simp only [sacristyref01_Add.l0]
          rw [if_neg (by omega), if_neg (by omega)]
          congr 1
          rw [decide_eq_false_iff_not]
          omega
        · refine Ev.step (fun k => ?_) hgo
          simp only [sacristyref01_Add.l0]
          rw [if_neg (by omega), if_neg (by omega)]
          congr 1
          rw [decide_eq_true_iff]
          omega
theorem rAdd_ev (a b : Nat) (ha : (toB a).length ≤ 1000000) (hb : (toB b).length ≤ 1000000) : Ev (fun k => sacristyref01_Add.f k (toB a) (toB b)) (toB (a + b)) := by
  unfold sacristyref01_Add.f
  exact rAdd_loop a b 1000000 (Nat.le_refl _) ha hb 1000001 0 0 [] rfl rfl (by omega) (by simp [valB_nil, Nat.mod_one]) (by omega)
theorem rSub_loop (a b : Nat) (hab : b ≤ a) (hla : (toB a).length ≤ 1000000) (d : Nat) : ∀ (i c : Nat) (acc : List Bool), i + d = (toB a).length → acc.length = i → c ≤ 1 → valB acc + b % 2 ^ i = a % 2 ^ i + 2 ^ i * c →
    Ev (fun k => sacristyref01_Sub.l0 k (toB a) (toB b) acc (c : Int) (i : Int)) (toB (a - b)) := by
  induction d with
  | zero =>
    intro i c acc hi hl hc he
    replace he := Aside0.mk he
    have ha := toB_lt a
    rw [show (toB a).length = i by omega] at ha
    have ht := rTrim_ev acc (by omega)
    have hv : valB acc = a - b := by
      have := valB_lt acc
      rw [hl] at this
      have h4 : b < 2 ^ i := by omega
      have he := he.out
      rw [Nat.mod_eq_of_lt ha, Nat.mod_eq_of_lt h4] at he
      rcases Nat.eq_zero_or_pos c with h | h
      · subst h; omega
      · obtain rfl : c = 1 := by omega
        omega
    rw [hv] at ht
    exact Ev.step (fun k => by simp only [sacristyref01_Sub.l0]; rw [if_neg (by omega)]) (Ev.bind (f := fun _ t => some t) ht (Ev.now _))
  | succ d ih =>
    intro i c acc hi hl hc he
    replace he := Aside0.mk he
    have ha2 : a / 2 ^ i % 2 ≤ 1 := by have := Nat.mod_lt (a / 2 ^ i) (show 0 < 2 by omega); omega
    have hb2 : b / 2 ^ i % 2 ≤ 1 := by have := Nat.mod_lt (b / 2 ^ i) (show 0 < 2 by omega); omega
    have hma := Aside0.mk (mod_snoc a i)
    have hmb := Aside0.mk (mod_snoc b i)
    have hi4 : i ≤ 4611686018427387904 := by omega
    have hal : acc.length < 140737488355328 := by omega
    have c1 : (i : Int) < ((toB a).length : Int) := by omega
    have ata := at_toB a i
    have atb := at_toB b i
    have i1 : i + 1 + d = (toB a).length := by omega
    generalize a / 2 ^ i % 2 = x at *
    generalize b / 2 ^ i % 2 = y at *
    have e1 : wrap64 (wrap64 ((x : Int) - (y : Int)) - (c : Int)) = (x : Int) - (y : Int) - (c : Int) := by rw [w64 (x := (x : Int) - (y : Int)) (by omega) (by omega), w64 (by omega) (by omega)]
    have hzero : (0 : Nat) ≤ 1 := by decide
    have e5 : (x : Int) - (y : Int) - (c : Int) < 0 → (wrap64 ((x : Int) - (y : Int) - (c : Int) + 2) == 1) = ((x + 2 - y - c) % 2 == 1) := fun hneg => by
      clear e1
      rw [w64 (by omega) (by omega), Bool.eq_iff_iff, beq_iff_eq, beq_iff_eq]; omega
    have e6 : ¬ (x : Int) - (y : Int) - (c : Int) < 0 → ((x : Int) - (y : Int) - (c : Int) == 1) = ((x - y - c) % 2 == 1) := fun hneg => by
      clear e1 e5
      rw [Bool.eq_iff_iff, beq_iff_eq, beq_iff_eq]; omega
    have e7 : (x : Int) - (y : Int) - (c : Int) < 0 → (x + 2 - y - c) % 2 + y + c = x + 2 := fun hneg => by clear e1 e5 e6; omega
    have e8 : ¬ (x : Int) - (y : Int) - (c : Int) < 0 → (x - y - c) % 2 + y + c = x := fun hneg => by clear e1 e5 e6 e7; omega
    have hw := winc (n := i) hi4
    by_cases hneg : (x : Int) - (y : Int) - (c : Int) < 0
    · have e2 := e5 hneg
      have hrec := ih (i + 1) 1 (acc ++ [((x + 2 - y - c) % 2 == 1)]) i1 (by simp [hl]) (by decide) (by
        have hs : (x + 2 - y - c) % 2 + y + c = x + 2 := e7 hneg
        rw [valB_snoc, bit_toNat, hma.out, hmb.out, hl, Nat.pow_succ]
        have he := he.out
        generalize (x + 2 - y - c) % 2 = s at *
        generalize 2 ^ i = P at *
        generalize a % P = A at *
        generalize b % P = B at *
        clear e1 e2 e5 e6 e7 e8 hw ata atb ih hneg hma hmb
        grind)
      refine Ev.step (fun k => ?_) hrec
      simp only [sacristyref01_Sub.l0]
      rw [if_pos c1, ata]
      simp only [Option.bind_some]
      rw [atb]
      simp only [Option.bind_some]
      rw [e1, if_pos hneg, if_pos hal, e2, hw]
      rfl
    · have e2 := e6 hneg
      have hrec := ih (i + 1) 0 (acc ++ [((x - y - c) % 2 == 1)]) i1 (by simp [hl]) (by decide) (by
        have hs : (x - y - c) % 2 + y + c = x := e8 hneg
        rw [valB_snoc, bit_toNat, hma.out, hmb.out, hl, Nat.pow_succ]
        have he := he.out
        generalize (x - y - c) % 2 = s at *
        generalize 2 ^ i = P at *
        generalize a % P = A at *
        generalize b % P = B at *
        clear e1 e2 e5 e6 e7 e8 hw ata atb ih hneg hma hmb
        grind)
      refine Ev.step (fun k => ?_) hrec
      simp only [sacristyref01_Sub.l0]
      rw [if_pos c1, ata]
      simp only [Option.bind_some]
      rw [atb]
      simp only [Option.bind_some]
      rw [e1, if_neg hneg, if_pos hal, e2, hw]
      rfl
theorem rSub_ev (a b : Nat) (hab : b ≤ a) (ha : (toB a).length ≤ 1000000) : Ev (fun k => sacristyref01_Sub.f k (toB a) (toB b)) (toB (a - b)) := by
  unfold sacristyref01_Sub.f
  exact rSub_loop a b hab ha (toB a).length 0 0 [] (by omega) rfl (by omega) (by simp [valB_nil, Nat.mod_one])
theorem rShift (a n : Nat) (ha : (toB a).length ≤ 1000000) (hn : n ≤ 1000000) : sacristyref01_Shift.f (toB a) (n : Int) = some (toB (a * 2 ^ n)) := by
  unfold sacristyref01_Shift.f
  by_cases h0 : a = 0
  · subst h0; rw [toB_zero]; simp [toB_zero]
  · have hne : (toB a).length ≠ 0 := by rw [Ne, List.length_eq_zero_iff, toB_eq_nil]; exact h0
    rw [if_neg (by omega), if_pos (by omega), Int.toNat_natCast, if_pos (by omega)]
    simp only [Option.bind_some, List.length_replicate]
    rw [if_pos (by omega)]
    congr 1
    have hv : valB (List.replicate n false ++ toB a) = a * 2 ^ n := by rw [valB_append, valB_falses, List.length_replicate, valB_toB, Nat.zero_add, Nat.mul_comm]
    rw [← hv]
    refine (toB_valB ?_).symm
    have ht := toB_tight a
    intro h
    have hn' : toB a ≠ [] := fun e => hne (by rw [e]; rfl)
    rw [List.getLast_append_of_ne_nil _ hn']
    exact ht hn'
theorem rMul_loop (a b : Nat) (ha : (toB a).length ≤ 400000) (hb : (toB b).length ≤ 400000) (d : Nat) : ∀ (i : Nat), i + d = (toB b).length →
    Ev (fun k => sacristyref01_Mul.l0 k (toB a) (toB (a * (b % 2 ^ i))) (toB b) ((toB b).length : Int) (i : Int)) (toB (a * b)) := by
  induction d with
  | zero =>
    intro i hi
    have hlt := toB_lt b
    rw [show (toB b).length = i by omega] at hlt
    rw [Nat.mod_eq_of_lt hlt]
    exact Ev.step (fun k => by simp only [sacristyref01_Mul.l0]; rw [if_neg (by omega)]) (Ev.now _)
  | succ d ih =>
    intro i hi
    have h := ih (i + 1) (by omega)
    have hw := winc (n := i) (by omega)
    have c1 : (i : Int) < ((toB b).length : Int) := by omega
    have c2 : (0 : Int) ≤ (i : Int) := by omega
    have c3 : (toB a).length + i ≤ 1000000 := by omega
    have c4 : (toB a).length ≤ 1000000 := by omega
    have c5 : i ≤ 1000000 := by omega
    have hm := mod_snoc b i
    have hg := gb_toB b i
    rw [hm] at h
    cases hx : gb (toB b) i with
    | false =>
      rw [hx] at hg
      rw [← hg] at h
      simp only [Bool.toNat_false, Nat.mul_zero, Nat.add_zero] at h
      refine Ev.step (fun k => ?_) h
      simp only [sacristyref01_Mul.l0]
      rw [if_pos c1, if_pos c2, if_pos c1, rdB, hx, if_neg (by decide), hw]
    | true =>
      rw [hx] at hg
      rw [← hg] at h
      simp only [Bool.toNat_true, Nat.mul_one, Nat.mul_add] at h
      have hlt := toB_lt a
      have hmod : b % 2 ^ i < 2 ^ i := Nat.mod_lt _ (Nat.pow_pos (by decide))
      have l1 : (toB (a * (b % 2 ^ i))).length ≤ 1000000 := by
        refine Nat.le_trans (toB_len_le ((toB a).length + i) _ ?_) c3
        rw [Nat.pow_add]
        exact Nat.mul_lt_mul'' hlt hmod
      have l2 : (toB (a * 2 ^ i)).length ≤ 1000000 := by
        refine Nat.le_trans (toB_len_le ((toB a).length + i) _ ?_) c3
        rw [Nat.pow_add]
        exact Nat.mul_lt_mul_of_pos_right hlt (Nat.pow_pos (by decide))
      have hadd := rAdd_ev _ _ l1 l2
      refine Ev.step (f := fun k => (sacristyref01_Add.f k (toB (a * (b % 2 ^ i))) (toB (a * 2 ^ i))).bind fun t => sacristyref01_Mul.l0 k (toB a) t (toB b) ((toB b).length : Int) ((i + 1 : Nat) : Int)) (fun k => ?_) (Ev.bind hadd h)
      simp only [sacristyref01_Mul.l0]
      rw [if_pos c1, if_pos c2, if_pos c1, rdB, hx, if_pos rfl, rShift a i c4 c5, hw]
      refine (Option.bind_some _ _).trans ?_
      with_reducible rfl
theorem rMul_ev (a b : Nat) (ha : (toB a).length ≤ 400000) (hb : (toB b).length ≤ 400000) : Ev (fun k => sacristyref01_Mul.f k (toB a) (toB b)) (toB (a * b)) := by
  unfold sacristyref01_Mul.f
  have h := rMul_loop a b ha hb (toB b).length 0 (by omega)
  simpa [Nat.mod_one, toB_zero] using h
theorem rDiv_loop (a b : Nat) (hb : 0 < b) (ha : (toB a).length ≤ 400000) (hlb : (toB b).length ≤ 400000) (n : Nat) : ∀ (q : List Bool), n ≤ (toB a).length → q.length = (toB a).length → valB (q.take n) = 0 → valB (q.drop n) = a / 2 ^ n / b →
    Ev (fun k => sacristyref01_Div.l0 k (toB a) (toB b) q (toB (a / 2 ^ n % b)) ((n : Int) - 1)) (toB (a / b), toB (a % b)) := by
  have hbl := toB_lt b
  induction n with
  | zero =>
    intro q hn hq h0 h1
    simp only [List.drop_zero, Nat.pow_zero, Nat.div_one] at h1 ⊢
    have ht := rTrim_ev q (by omega)
    rw [h1] at ht
    exact Ev.step (fun k => by simp only [sacristyref01_Div.l0]; rw [if_neg (by omega)]) (Ev.bind (f := fun _ t => some (t, toB (a % b))) ht (Ev.now _))
  | succ n ih =>
    intro q hn hq h0 h1
    have e1 : ((n + 1 : Nat) : Int) - 1 = (n : Int) := by omega
    have c1 : (n : Int) ≥ 0 := by omega
    have c2 : (0 : Int) ≤ (n : Int) := by omega
    have c3 : (n : Int) < ((toB a).length : Int) := by omega
    have c4 : (n : Int) < (q.length : Int) := by omega
    have hnq : n < q.length := by omega
    have hnl : n ≤ (toB a).length := by omega
    have hw : wrap64 ((n : Int) - 1) = (n : Int) - 1 := w64 (by omega) (by omega)
    have hg := gb_toB a n
    have hx1 : a / 2 ^ n % 2 ≤ 1 := by have := Nat.mod_lt (a / 2 ^ n) (show 0 < 2 by omega); omega
    have hX : a / 2 ^ n = 2 * (a / 2 ^ (n + 1)) + a / 2 ^ n % 2 := by rw [Nat.pow_succ, ← Nat.div_div_eq_div_mul]; omega
    have hR := Nat.mod_lt (a / 2 ^ (n + 1)) hb
    have hrow : valB ([gb (toB a) n] ++ toB (a / 2 ^ (n + 1) % b)) = a / 2 ^ n % 2 + 2 * (a / 2 ^ (n + 1) % b) := by
      rw [valB_append, valB_one, valB_toB, hg]; rfl
    have hRl : (toB (a / 2 ^ (n + 1) % b)).length ≤ 400000 := Nat.le_trans (toB_len_le (toB b).length _ (by omega)) hlb
    have hlen : ([gb (toB a) n] ++ toB (a / 2 ^ (n + 1) % b)).length ≤ 4611686018427387904 := by simp; omega
    have c5 : [gb (toB a) n].length + (toB (a / 2 ^ (n + 1) % b)).length < 140737488355328 := by simp; omega
    have htr := rTrim_ev _ hlen
    rw [hrow] at htr
    have hdiv := Nat.div_add_mod (a / 2 ^ (n + 1)) b
    have hdl : valB (q.take n) = 0 ∧ gb q n = false := by
      rw [valB_take_snoc hnq] at h0
      have hp : 0 < 2 ^ n := Nat.pow_pos (by omega)
      cases hgq : gb q n with
      | false => rw [hgq] at h0; simp at h0; exact ⟨h0, rfl⟩
      | true => rw [hgq] at h0; simp at h0
    have hqd : valB (q.drop n) = (gb q n).toNat + 2 * valB (q.drop (n + 1)) := by rw [List.drop_eq_getElem_cons hnq, valB_cons, gb_eq hnq]
    have htl : (toB (a / 2 ^ n % 2 + 2 * (a / 2 ^ (n + 1) % b))).length ≤ 1000000 := by
      refine Nat.le_trans (toB_len_le ((toB b).length + 1) _ ?_) (by omega)
      rw [Nat.pow_succ 2 (toB b).length]; omega
    have hcmp := rCmp_ev (a / 2 ^ n % 2 + 2 * (a / 2 ^ (n + 1) % b)) b htl (by omega)
    rw [e1]
    by_cases hge : b ≤ a / 2 ^ n % 2 + 2 * (a / 2 ^ (n + 1) % b)
    · have hsub := rSub_ev _ _ hge htl
      have hq1 : a / 2 ^ n / b = 2 * (a / 2 ^ (n + 1) / b) + 1 ∧ a / 2 ^ n % b = a / 2 ^ n % 2 + 2 * (a / 2 ^ (n + 1) % b) - b := by
        generalize a / 2 ^ (n + 1) / b = Q at *
        generalize a / 2 ^ (n + 1) % b = R at *
        generalize a / 2 ^ n % 2 = x at *
        have e5 : a / 2 ^ n = (x + 2 * R - b) + b * (2 * Q + 1) := by
          rw [hX, ← hdiv, Nat.mul_add b, Nat.mul_one, Nat.mul_left_comm b]; omega
        rw [e5]
        constructor
        · rw [Nat.add_mul_div_left _ _ hb, Nat.div_eq_of_lt (by omega)]; omega
        · rw [Nat.add_mul_mod_self_left, Nat.mod_eq_of_lt (by omega)]
      have hrec := ih (q.set n true) hnl (by rw [List.length_set]; exact hq) (by rw [List.take_set_of_le (Nat.le_refl _)]; exact hdl.1) (by
        rw [List.drop_eq_getElem_cons (l := q.set n true) (by rw [List.length_set]; exact hnq), List.getElem_set_self, List.drop_set_of_lt (by omega), valB_cons, h1, hq1.1]
        simp; omega)
      rw [hq1.2] at hrec
      have hcn : cmpN (a / 2 ^ n % 2 + 2 * (a / 2 ^ (n + 1) % b)) b ≥ 0 := cmpN_le.2 hge
      refine Ev.step (f := fun k => (sacristyref01_Trim.f k ([gb (toB a) n] ++ toB (a / 2 ^ (n + 1) % b))).bind fun t => (sacristyref01_Cmp.f k t (toB b)).bind fun c => if c ≥ 0 then ((sacristyref01_Sub.f k t (toB b)).bind fun t766 => (if (n : Int) < (q.length : Int) then (sacristyref01_Div.l0 k (toB a) (toB b) (q.set n true) t766 ((n : Int) - 1)) else (none))) else (sacristyref01_Div.l0 k (toB a) (toB b) q t ((n : Int) - 1))) (fun k => ?_) (Ev.bind htr (Ev.bind hcmp ?_))
      · simp only [sacristyref01_Div.l0]
        rw [if_pos c1, if_pos c2, if_pos c3, rdB, hw, Int.toNat_natCast]
        refine (Option.bind_some _ _).trans ?_
        rw [if_pos c5]
      · refine Ev.congr (fun k => ?_) (Ev.bind (f := fun k t766 => sacristyref01_Div.l0 k (toB a) (toB b) (q.set n true) t766 ((n : Int) - 1)) hsub hrec)
        rw [if_pos hcn]
        simp only [if_pos c4]
    · have hq1 : a / 2 ^ n / b = 2 * (a / 2 ^ (n + 1) / b) ∧ a / 2 ^ n % b = a / 2 ^ n % 2 + 2 * (a / 2 ^ (n + 1) % b) := by
        generalize a / 2 ^ (n + 1) / b = Q at *
        generalize a / 2 ^ (n + 1) % b = R at *
        generalize a / 2 ^ n % 2 = x at *
        have e5 : a / 2 ^ n = (x + 2 * R) + b * (2 * Q) := by
          rw [hX, ← hdiv, Nat.mul_left_comm b]; omega
        rw [e5]
        constructor
        · rw [Nat.add_mul_div_left _ _ hb, Nat.div_eq_of_lt (by omega)]; omega
        · rw [Nat.add_mul_mod_self_left, Nat.mod_eq_of_lt (by omega)]
      have hrec := ih q hnl hq hdl.1 (by rw [hqd, hdl.2, h1, hq1.1]; simp)
      rw [hq1.2] at hrec
      have hcn : ¬ cmpN (a / 2 ^ n % 2 + 2 * (a / 2 ^ (n + 1) % b)) b ≥ 0 := fun h => hge (cmpN_le.1 h)
      refine Ev.step (f := fun k => (sacristyref01_Trim.f k ([gb (toB a) n] ++ toB (a / 2 ^ (n + 1) % b))).bind fun t => (sacristyref01_Cmp.f k t (toB b)).bind fun c => if c ≥ 0 then ((sacristyref01_Sub.f k t (toB b)).bind fun t766 => (if (n : Int) < (q.length : Int) then (sacristyref01_Div.l0 k (toB a) (toB b) (q.set n true) t766 ((n : Int) - 1)) else (none))) else (sacristyref01_Div.l0 k (toB a) (toB b) q t ((n : Int) - 1))) (fun k => ?_) (Ev.bind htr (Ev.bind hcmp ?_))
      · simp only [sacristyref01_Div.l0]
        rw [if_pos c1, if_pos c2, if_pos c3, rdB, hw, Int.toNat_natCast]
        refine (Option.bind_some _ _).trans ?_
        rw [if_pos c5]
      · refine Ev.congr (fun k => ?_) hrec
        rw [if_neg hcn]
theorem rDiv_ev (a b : Nat) (hb : 0 < b) (ha : (toB a).length ≤ 400000) (hlb : (toB b).length ≤ 400000) : Ev (fun k => sacristyref01_Div.f k (toB a) (toB b)) (toB (a / b), toB (a % b)) := by
  unfold sacristyref01_Div.f
  have hlt := toB_lt a
  have h := rDiv_loop a b hb ha hlb (toB a).length (List.replicate (toB a).length false) (Nat.le_refl _) (by simp) (by rw [List.take_of_length_le (by simp), valB_falses]) (by rw [List.drop_of_length_le (by simp), Nat.div_eq_of_lt hlt, Nat.zero_div]; rfl)
  rw [Nat.div_eq_of_lt hlt, Nat.zero_mod, toB_zero] at h
  refine Ev.congr (fun k => ?_) h
  rw [if_pos (by omega), Int.toNat_natCast, if_pos (by omega), w64 (by omega) (by omega)]
end Go.Proofs.Yteejcpbngnojkaa.P
end
