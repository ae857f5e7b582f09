/- Part of the proof: the walks and the plain arithmetic, in line (wip/tools/pack.py). -/
import Derived.Test.YteejcpbngnojkaaXLawNatSums2
section
namespace Go.Proofs.Yteejcpbngnojkaa.P
open Go.RowKit Go.Shelf Go.Proofs.YteejcpbngnojkaaW.PrintWords Go.Proofs.YteejcpbngnojkaaW.PrintLast Go.Proofs.YteejcpbngnojkaaW.PrintMore
open Go.Proofs.Yteejcpbngnojkaa.Num
set_option linter.unusedVariables false
def nat_Nat_Div.f (_k : Nat) (l0_0 : List Int) (l1_0 : List Int) : Option (List Int × List Int × Int) :=
  if canonB l0_0 && canonB l1_0 && decide (l0_0.length ≤ 1048576) && decide (l1_0.length ≤ 1048576) then (if valW l1_0 = 0 then some ([], [], 5) else some (toW (valW l0_0 / valW l1_0), toW (valW l0_0 % valW l1_0), 0)) else none
theorem nat_Nat_Div.mono : ∀ a0 a1 k, LeO (nat_Nat_Div.f k a0 a1) (nat_Nat_Div.f (k + 1) a0 a1) := fun _ _ _ => LeO.refl _
theorem four_new (w : World) (o0 o1 o2 o3 : Obj) : ((((w.alloc o0).alloc o1).alloc o2).alloc o3).heap[w.heap.size]? = some o0 ∧ ((((w.alloc o0).alloc o1).alloc o2).alloc o3).heap[w.heap.size + 1]? = some o1 ∧ ((((w.alloc o0).alloc o1).alloc o2).alloc o3).heap[w.heap.size + 1 + 1]? = some o2 ∧ ((((w.alloc o0).alloc o1).alloc o2).alloc o3).heap[w.heap.size + 1 + 1 + 1]? = some o3 ∧ Below w.heap.size w ((((w.alloc o0).alloc o1).alloc o2).alloc o3) := by
  refine ⟨blk_alloc (blk_alloc (blk_alloc (blk_new w o0) _) _) _, ?_, ?_, ?_, ?_⟩
  · refine blk_alloc (blk_alloc ?_ _) _
    have := blk_new (w.alloc o0) o1
    simpa only [World.size_alloc] using this
  · refine blk_alloc ?_ _
    have := blk_new ((w.alloc o0).alloc o1) o2
    simpa only [World.size_alloc] using this
  · have := blk_new (((w.alloc o0).alloc o1).alloc o2) o3
    simpa only [World.size_alloc] using this
  · exact ((((Below.refl _ w).alloc (Nat.le_refl _) _).alloc (by simp) _).alloc (by simp; omega) _).alloc (by simp; omega) _
theorem two_end {w W : World} {va vb : Value} (m2 : W.heap[w.heap.size + 1 + 1]? = some (.cells #[.slice none 0 0] 38 (0, 0))) (m3 : W.heap[w.heap.size + 1 + 1 + 1]? = some (.cells #[.slice none 0 0] 38 (0, 0))) (hB : Below w.heap.size w W) (Wf : World)
    (hW : (W.setCell ⟨w.heap.size + 1 + 1, 0, none⟩ va).setCell ⟨w.heap.size + 1 + 1 + 1, 0, none⟩ vb = Wf) :
    Wf.heap[w.heap.size + 1 + 1]? = some (.cells #[va] 38 (0, 0)) ∧ Wf.heap[w.heap.size + 1 + 1 + 1]? = some (.cells #[vb] 38 (0, 0)) ∧ Below w.heap.size w Wf ∧ ∀ (b : Nat) (ok ok' : Nat → Prop) (v : Value) (xs : List Int), Kd.V (Kd.int .u32) 23 W b ok v xs → (∀ k, ok k → (k ≠ w.heap.size + 1 + 1 ∧ k ≠ w.heap.size + 1 + 1 + 1) ∧ ok' k) → Kd.V (Kd.int .u32) 23 Wf w.heap.size ok' v xs := by
  subst hW
  refine ⟨(Below.heap_setCell _ _ _ _ (by show w.heap.size + 1 + 1 ≠ w.heap.size + 1 + 1 + 1; omega)).trans (blk_put m2 0 _ rfl), blk_put ((Below.heap_setCell _ _ _ _ (by show w.heap.size + 1 + 1 + 1 ≠ w.heap.size + 1 + 1; omega)).trans m3) 0 _ rfl,
    (hB.setCell (p := ⟨w.heap.size + 1 + 1, 0, none⟩) (by show w.heap.size ≤ w.heap.size + 1 + 1; omega) _).setCell (p := ⟨w.heap.size + 1 + 1 + 1, 0, none⟩) (by show w.heap.size ≤ w.heap.size + 1 + 1 + 1; omega) _, fun b ok ok' v xs hv ho => ?_⟩
  exact Kd.V_mono (Kd.V_far (Kd.V_far hv (fun k hk => (ho k hk).1.1) _) (fun k hk => (ho k hk).1.2) _) (fun k hk => (ho k hk).2)
set_option maxRecDepth 100000 in
set_option maxHeartbeats 4000000 in
theorem nat_Nat_Div.calls_z (P0_0_ : Nat → Prop) (A0_0 : Option Addr) (c0_0 : Nat) (l0_0 : List Int) (A1_0 : Option Addr) (c1_0 : Nat) (l1_0 : List Int) (w : World) (hs0_0 : Kd.V (Kd.int .u32) 23 w w.heap.size (fun k_ => P0_0_ k_) (.slice A0_0 l0_0.length c0_0) l0_0) (hr1_0 : Kd.C (Kd.int .u32) w A1_0 l1_0.length l1_0) (hc1_0 : l1_0.length ≤ c1_0) (hz : l1_0.length = 0) :
    Calls Try.prog 53 #[.agg #[.slice A0_0 l0_0.length c0_0], .agg #[.slice A1_0 l1_0.length c1_0]] w fun e w' => ∃ v0_ v1_ : Value, e = .returned (.tuple #[.agg #[v0_], .agg #[v1_], (.int .i64 5)]) ∧ Kd.V (Kd.int .u32) 23 w' w.heap.size (fun k_ => (P0_0_ k_ ∨ w.heap.size ≤ k_)) v0_ [] ∧ Kd.V (Kd.int .u32) 23 w' w.heap.size (fun k_ => (P0_0_ k_ ∨ w.heap.size ≤ k_)) v1_ [] ∧ Below w.heap.size w w' := by
  have V0 := Aside0.mk (Kd.V_bound hs0_0)
  have C1 := Aside0.mk hr1_0
  have hc1 := Aside0.mk hc1_0
  clear hs0_0 hr1_0 hc1_0
  obtain ⟨k0, k1, k2, k3, B⟩ := four_new w (.cells #[.slice A0_0 l0_0.length c0_0] 38) (.cells #[.slice A1_0 l1_0.length c1_0] 38) (.cells #[.slice none 0 0] 38) (.cells #[.slice none 0 0] 38)
  have V1 := Aside0.mk (Kd.V_alloc (Kd.V_alloc (Kd.V_alloc (Kd.V_alloc V0.out (.cells #[.slice A0_0 l0_0.length c0_0] 38)) (.cells #[.slice A1_0 l1_0.length c1_0] 38)) (.cells #[.slice none 0 0] 38)) (.cells #[.slice none 0 0] 38))
  have C2 := Aside0.mk (Kd.C_below C1.out B)
  have hzb : ((l1_0.length : Int) == 0) = true := by rw [hz]; rfl
  replace hz := Aside0.mk hz
  go_enter Try.func53, Try.ntmps53
  go_wp2_with (go_at_call 44; refine (nat_Nat_Zero.calls _ _ l1_0 _ _ C2.out hc1.out rfl).mono ?_; rintro e w1 ⟨rfl, hb⟩; replace k0 := (hb.block _ (blk_lt k0)).trans k0; replace k1 := (hb.block _ (blk_lt k1)).trans k1; replace k2 := (hb.block _ (blk_lt k2)).trans k2; replace k3 := (hb.block _ (blk_lt k3)).trans k3; replace V1 := Aside0.mk (Kd.V_below V1.out hb); replace C2 := Aside0.mk (Kd.C_below C2.out hb); replace B := below_step B hb; clear hb; have q0 : World.cell? _ ⟨w.heap.size, 0, none⟩ = some (.slice A0_0 l0_0.length c0_0) := blk_cell k0 0; have q1 : World.cell? _ ⟨w.heap.size + 1, 0, none⟩ = some (.slice A1_0 l1_0.length c1_0) := blk_cell k1 0; have q2 : World.cell? _ ⟨w.heap.size + 1 + 1, 0, none⟩ = some (.slice none 0 0) := blk_cell k2 0; have q3 : World.cell? _ ⟨w.heap.size + 1 + 1 + 1, 0, none⟩ = some (.slice none 0 0) := blk_cell k3 0; have f2 := blk_frozen k2 0; have f3 := blk_frozen k3 0)
  obtain ⟨e2, e3, y1, y2⟩ := two_end k2 k3 B _ rfl
  refine bodyPost_ret (results_list (rs := [.cell 4 38, .cell 5 38, .tmp 6]) rfl (by simp) (.cell _ 38 _ (0, 0) _ rfl e2 Try.underlying38 rfl (by kernel_rfl) (.cell _ 38 _ (0, 0) _ rfl e3 Try.underlying38 rfl (by kernel_rfl) (.tmp .nil)))) rfl ?_
  exact ⟨_, _, rfl, Kd.V_nil _ _ _ _ _, Kd.V_nil _ _ _ _ _, y1⟩
set_option maxRecDepth 100000 in
set_option maxHeartbeats 4000000 in
theorem nat_Nat_Div.calls_l (k : Nat) (c : Int) (P0_0_ : Nat → Prop) (A0_0 : Option Addr) (c0_0 : Nat) (l0_0 : List Int) (A1_0 : Option Addr) (c1_0 : Nat) (l1_0 : List Int) (w : World) (hs0_0 : Kd.V (Kd.int .u32) 23 w w.heap.size (fun k_ => P0_0_ k_) (.slice A0_0 l0_0.length c0_0) l0_0) (hr1_0 : Kd.C (Kd.int .u32) w A1_0 l1_0.length l1_0) (hc1_0 : l1_0.length ≤ c1_0) (hz : ¬ l1_0.length = 0) (hc : nat_Nat_Cmp.f k l0_0 l1_0 = some c) (hneg : c < 0) :
    Calls Try.prog 53 #[.agg #[.slice A0_0 l0_0.length c0_0], .agg #[.slice A1_0 l1_0.length c1_0]] w fun e w' => ∃ v0_ v1_ : Value, e = .returned (.tuple #[.agg #[v0_], .agg #[v1_], (.int .i64 0)]) ∧ Kd.V (Kd.int .u32) 23 w' w.heap.size (fun k_ => (P0_0_ k_ ∨ w.heap.size ≤ k_)) v0_ [] ∧ Kd.V (Kd.int .u32) 23 w' w.heap.size (fun k_ => (P0_0_ k_ ∨ w.heap.size ≤ k_)) v1_ l0_0 ∧ Below w.heap.size w w' := by
  have V0 := Aside0.mk (Kd.V_bound hs0_0)
  have C1 := Aside0.mk hr1_0
  have hc1 := Aside0.mk hc1_0
  clear hs0_0 hr1_0 hc1_0
  obtain ⟨k0, k1, k2, k3, B⟩ := four_new w (.cells #[.slice A0_0 l0_0.length c0_0] 38) (.cells #[.slice A1_0 l1_0.length c1_0] 38) (.cells #[.slice none 0 0] 38) (.cells #[.slice none 0 0] 38)
  have V1 := Aside0.mk (Kd.V_alloc (Kd.V_alloc (Kd.V_alloc (Kd.V_alloc V0.out (.cells #[.slice A0_0 l0_0.length c0_0] 38)) (.cells #[.slice A1_0 l1_0.length c1_0] 38)) (.cells #[.slice none 0 0] 38)) (.cells #[.slice none 0 0] 38))
  have C2 := Aside0.mk (Kd.C_below C1.out B)
  have hzb : ((l1_0.length : Int) == 0) = false := beq_eq_false_iff_ne.2 (by omega)
  replace hc := Aside0.mk hc
  replace hz := Aside0.mk hz
  have hmx : Try.prog.follows .mixedOrders = true := by kernel_rfl
  have hnb : decide (c < 0) = true := decide_eq_true hneg
  go_enter Try.func53, Try.ntmps53
  go_wp2_with (first | (go_at_call 44; refine (nat_Nat_Zero.calls _ _ l1_0 _ _ C2.out hc1.out rfl).mono ?_; rintro e w1 ⟨rfl, hb⟩; replace k0 := (hb.block _ (blk_lt k0)).trans k0; replace k1 := (hb.block _ (blk_lt k1)).trans k1; replace k2 := (hb.block _ (blk_lt k2)).trans k2; replace k3 := (hb.block _ (blk_lt k3)).trans k3; replace V1 := Aside0.mk (Kd.V_below V1.out hb); replace C2 := Aside0.mk (Kd.C_below C2.out hb); replace B := below_step B hb; clear hb; have q0 : World.cell? _ ⟨w.heap.size, 0, none⟩ = some (.slice A0_0 l0_0.length c0_0) := blk_cell k0 0; have q1 : World.cell? _ ⟨w.heap.size + 1, 0, none⟩ = some (.slice A1_0 l1_0.length c1_0) := blk_cell k1 0; have q2 : World.cell? _ ⟨w.heap.size + 1 + 1, 0, none⟩ = some (.slice none 0 0) := blk_cell k2 0; have q3 : World.cell? _ ⟨w.heap.size + 1 + 1 + 1, 0, none⟩ = some (.slice none 0 0) := blk_cell k3 0; have f2 := blk_frozen k2 0; have f3 := blk_frozen k3 0) | (go_at_call 45; refine (nat_Nat_Cmp.calls k _ _ l0_0 _ _ l1_0 c _ (Kd.V_reads' V1.out).2.2 (Kd.V_reads' V1.out).2.1 C2.out hc1.out hc.out).mono ?_; rintro e w2 ⟨rfl, hb⟩; replace k0 := (hb.block _ (blk_lt k0)).trans k0; replace k1 := (hb.block _ (blk_lt k1)).trans k1; replace k2 := (hb.block _ (blk_lt k2)).trans k2; replace k3 := (hb.block _ (blk_lt k3)).trans k3; replace V1 := Aside0.mk (Kd.V_below V1.out hb); replace C2 := Aside0.mk (Kd.C_below C2.out hb); replace B := below_step B hb; clear hb; have q0 : World.cell? _ ⟨w.heap.size, 0, none⟩ = some (.slice A0_0 l0_0.length c0_0) := blk_cell k0 0; have q1 : World.cell? _ ⟨w.heap.size + 1, 0, none⟩ = some (.slice A1_0 l1_0.length c1_0) := blk_cell k1 0; have q2 : World.cell? _ ⟨w.heap.size + 1 + 1, 0, none⟩ = some (.slice none 0 0) := blk_cell k2 0; have q3 : World.cell? _ ⟨w.heap.size + 1 + 1 + 1, 0, none⟩ = some (.slice none 0 0) := blk_cell k3 0; have f2 := blk_frozen k2 0; have f3 := blk_frozen k3 0))
  go_region
  all_goals go_wp2
  obtain ⟨e2, e3, y1, y2⟩ := two_end (w := w) (W := w2) (va := .slice none 0 0) (vb := .slice A0_0 l0_0.length c0_0) k2 k3 B _ rfl
  refine bodyPost_ret (results_list (rs := [.cell 4 38, .cell 5 38, .tmp 6]) rfl (by simp) (.cell _ 38 _ (0, 0) _ rfl e2 Try.underlying38 rfl (by kernel_rfl) (.cell _ 38 _ (0, 0) _ rfl e3 Try.underlying38 rfl (by kernel_rfl) (.tmp .nil)))) rfl ?_
  exact ⟨_, _, rfl, Kd.V_nil _ _ _ _ _, Kd.V_drew (y2 _ _ _ _ _ V1.out (fun k_ hk => ⟨⟨by have := hk.2; omega, by have := hk.2; omega⟩, .inl hk.1⟩)), y1.drew⟩
theorem nat_Nat_Div.calls (k : Nat) (P0_0_ : Nat → Prop) (A0_0 : Option Addr) (c0_0 : Nat) (l0_0 : List Int) (A1_0 : Option Addr) (c1_0 : Nat) (l1_0 : List Int) (r1 : List Int) (r2 : List Int) (r3 : Int) (w : World) (hs0_0 : Kd.V (Kd.int .u32) 23 w w.heap.size (fun k_ => P0_0_ k_) (.slice A0_0 l0_0.length c0_0) l0_0) (hr1_0 : Kd.C (Kd.int .u32) w A1_0 l1_0.length l1_0) (hc1_0 : l1_0.length ≤ c1_0) (h : nat_Nat_Div.f k l0_0 l1_0 = some (r1, r2, r3)) :
    Calls Try.prog 53 #[.agg #[.slice A0_0 l0_0.length c0_0], .agg #[.slice A1_0 l1_0.length c1_0]] w fun e w' => ∃ v0_ v1_ : Value, e = .returned (.tuple #[.agg #[v0_], .agg #[v1_], .int .i64 r3]) ∧ Kd.V (Kd.int .u32) 23 w' w.heap.size (fun k_ => (P0_0_ k_ ∨ w.heap.size ≤ k_)) v0_ r1 ∧ Kd.V (Kd.int .u32) 23 w' w.heap.size (fun k_ => (P0_0_ k_ ∨ w.heap.size ≤ k_)) v1_ r2 ∧ Below w.heap.size w w' := by
  unfold nat_Nat_Div.f at h
  by_cases hg : (canonB l0_0 && canonB l1_0 && decide (l0_0.length ≤ 1048576) && decide (l1_0.length ≤ 1048576)) = true
  · rw [if_pos hg] at h
    simp only [Bool.and_eq_true, decide_eq_true_eq] at hg
    obtain ⟨⟨⟨g0, g1⟩, g2⟩, g3⟩ := hg
    have e0 := canonB_eq g0
    have e1 := canonB_eq g1
    by_cases hB : valW l1_0 = 0
    · rw [if_pos hB] at h
      cases h
      exact nat_Nat_Div.calls_z P0_0_ A0_0 c0_0 l0_0 A1_0 c1_0 l1_0 w hs0_0 hr1_0 hc1_0 ((canonB_nil g1).1 hB)
    · rw [if_neg hB] at h
      cases h
      have hl : ¬ l1_0.length = 0 := fun e => hB ((canonB_nil g1).2 e)
      by_cases hlt : valW l0_0 < valW l1_0
      · have hc : nat_Nat_Cmp.f 0 l0_0 l1_0 = some (cmpN (valW l0_0) (valW l1_0)) := by
          have := Cmp_toW 0 (valW l0_0) (valW l1_0)
          rwa [e0, e1] at this
        have hcal := nat_Nat_Div.calls_l 0 _ P0_0_ A0_0 c0_0 l0_0 A1_0 c1_0 l1_0 w hs0_0 hr1_0 hc1_0 hl hc (cmpN_lt.2 hlt)
        rw [Nat.div_eq_of_lt hlt, Nat.mod_eq_of_lt hlt, toW_zero, e0]
        exact hcal
      · obtain ⟨K, hK⟩ := (g_ev (valW l0_0) (valW l1_0) (by omega) (by rw [e0]; exact g2) (by rw [e1]; exact g3)).rounds
        rw [e0, e1] at hK
        have hz : nat_Nat_Zero.f l1_0 = some false := by
          have := Zero_toW (valW l1_0)
          rw [e1] at this
          rw [this]
          simp [hB]
        have hn : ∀ t, nat_Nat_Cmp.f K l0_0 l1_0 = some t → ¬ t < 0 := by
          intro t ht hneg
          have := Cmp_toW K (valW l0_0) (valW l1_0)
          rw [e0, e1, ht] at this
          cases this
          exact hlt (cmpN_lt.1 hneg)
        have hr0 := Kd.V_reads' hs0_0
        by_cases h1 : (l1_0.length : Int) = 1
        · refine (nat_Nat_Div.calls_o K A0_0 c0_0 l0_0 A1_0 c1_0 l1_0 _ _ _ w hr0.2.2 hr0.2.1 hr1_0 hc1_0 hz hn h1 hK).mono ?_
          rintro e w' ⟨v0, v1, he, hv0, hv1, hb⟩
          exact ⟨v0, v1, he, Kd.V_mono hv0 (fun _ hk => .inr hk), Kd.V_mono hv1 (fun _ hk => .inr hk), hb⟩
        · refine (nat_Nat_Div.calls_k K A0_0 c0_0 l0_0 A1_0 c1_0 l1_0 _ _ _ w hr0.2.2 hr0.2.1 hr1_0 hc1_0 hz hn h1 hK).mono ?_
          rintro e w' ⟨v0, v1, he, hv0, hv1, hb⟩
          exact ⟨v0, v1, he, Kd.V_mono hv0 (fun _ hk => .inr hk), Kd.V_mono hv1 (fun _ hk => .inr hk), hb⟩
  · rw [if_neg hg] at h
    cases h
end Go.Proofs.Yteejcpbngnojkaa.P
end
section
namespace Go.Proofs.Yteejcpbngnojkaa.P
open Go.RowKit Go.Proofs.YteejcpbngnojkaaW.PrintWords Go.Proofs.YteejcpbngnojkaaW.PrintLast Go.Proofs.YteejcpbngnojkaaW.PrintMore
attribute [local go_sem] max2_int min2_int max_two min_two max_three min_three max_four min_four
set_option linter.unusedVariables false
set_option linter.unusedSimpArgs false
def sacristyref01_Small.l0 : Nat → Int → List Bool → Option (List Bool)
 |0,_,_ => none
 |k + 1,x0,x3 => if x0 > 0 then (if x3.length < 140737488355328 then (sacristyref01_Small.l0 k (IntKind.u64.wrap (Int.tdiv x0 2)) (x3 ++ [((Int.tmod x0 2) == 1)])) else (none)) else (some x3)
def sacristyref01_Small.f (k : Nat) (a0 : Int) : Option (List Bool):=sacristyref01_Small.l0 k a0 (([] : List Bool))
theorem sacristyref01_Small.mono_l : ∀ k,(∀ y0 y1,LeO (sacristyref01_Small.l0 k y0 y1) (sacristyref01_Small.l0 (k + 1) y0 y1))
 |0 => fun _ _ r h => by simp [sacristyref01_Small.l0] at h
 |k + 1 => by
  have ih0:=sacristyref01_Small.mono_l k
  ·intro y0 y1
   unfold sacristyref01_Small.l0
   repeat' first
   |(with_reducible exact ih0 _ _)
   |(with_reducible exact LeO.refl _)
   |(with_reducible exact LeO.none _)
   |(with_reducible refine LeO.ite ?_ ?_)
   |(with_reducible refine LeO.bind ?_ (fun _ => ?_))
   |exact ih0 _ _
   |exact LeO.none _
   |refine LeO.ite ?_ ?_
   |refine LeO.bind ?_ (fun _ => ?_)
theorem sacristyref01_Small.mono : ∀ a0 k,LeO (sacristyref01_Small.f k a0) (sacristyref01_Small.f (k + 1) a0):=by
 intro a0 k
 have ih0:=sacristyref01_Small.mono_l k
 unfold sacristyref01_Small.f
 repeat' first
   |(with_reducible exact ih0 _ _)
   |(with_reducible exact LeO.refl _)
   |(with_reducible exact LeO.none _)
   |(with_reducible refine LeO.ite ?_ ?_)
   |(with_reducible refine LeO.bind ?_ (fun _ => ?_))
   |exact ih0 _ _
   |exact LeO.none _
   |refine LeO.ite ?_ ?_
   |refine LeO.bind ?_ (fun _ => ?_)
set_option maxHeartbeats 8000000 in
set_option maxRecDepth 100000 in
theorem sacristyref01_Small.calls (k : Nat) (a0 : Int) (r : List Bool) (w : World) (h : sacristyref01_Small.f k a0 = some r) :
  Calls Try.prog 56 #[.int .u64 a0] w fun e w' => ∃ v0_ : Value,e = .returned (v0_) ∧ Kd.R Kd.bool 4 w' w.heap.size (fun _ => True) v0_ r ∧ Below w.heap.size w w':=by
 have HB:=Aside0.mk (Below.refl w.heap.size w)
 have H : (sacristyref01_Small.l0 k a0 (([] : List Bool))) = some r:=h
 clear h
 obtain ⟨y414,hy414⟩ : ∃ y_ : List Bool,y_ = (([] : List Bool)):=⟨_,rfl⟩
 replace H : (sacristyref01_Small.l0 k a0 y414) = some r:=by first|(rw [hy414];with_reducible exact H)|(have H2_:=(Option.bind_some _ _).symm.trans H;rw [hy414];with_reducible exact H2_)|(have H2_:=(Option.bind_some _ _).symm.trans H;with_reducible exact H2_)|with_reducible exact H|(rw [hy414];exact H)|exact H
 have Ny414:=Aside0.mk hy414
 clear hy414
 have H':=Aside0.mk H
 clear H
 go_enter Try.func56,Try.ntmps56
 go_wp2_with (first|((with_reducible refine gate_dst (N:=4) rfl ?_);refine Kd.R_lit Kd.bool _ 4 ?hg (N:=4) ?hd (xs:=([] : List Bool)) (inner:=[]) (ok:=fun _ => True) (okp:=fun _ => True) ?hr ?hp (fun _ hk => hk) trivial (Below.refl _ _) (Nat.le_refl _) (by simp) ?_;(case hd => rfl);(case hg => rfl);(case hr => first|(go_simp;done)|(go_simp;rfl));(case hp => exact (Reps.none _ _));intro v415 w2 ho3 hb hg_ hnew_;clear hg_ hnew_;(first|rw [← Ny414.out] at ho3|(simp only [Int.reduceToNat] at ho3;rw [← Ny414.out] at ho3));have HO416:=Aside0.mk (Kd.R_lower ho3 (below_size (qS HB)));replace HB:=qs HB hb;clear hb ho3))
 go_loopg [0,3] k (fun kq v0 v3 w' => ∃ (x0_1 : Int) (x3_1 : List Bool),v0 = .int .u64 x0_1 ∧ Aside0 (sacristyref01_Small.l0 kq x0_1 x3_1 = some r) ∧ Aside0 (kq ≤ k) ∧ Aside0 (Kd.R Kd.bool 4 w' w.heap.size (fun _ => True) v3 x3_1) ∧ Aside0 (Below w.heap.size w w'))
 case atStart => exact ⟨(a0),(y414),(by first|rfl|(simp;done)|(simp [*];done)),H',⟨Nat.le_refl _⟩,⟨qRm HO416⟩,⟨qS HB⟩⟩
 case round =>
  clear H'
  try clear p2
  obtain ⟨x0_1,x3_1,rfl,HA,HK1,HO_3,HB⟩:=hrel
  cases gk with
  |zero => exact absurd HA.out (by simp [sacristyref01_Small.l0])
  |succ k1 =>
   have H:=HA.out
   clear HA
   simp only [sacristyref01_Small.l0] at H
   by_cases c4 : x0_1 > 0
   ·rw [if_pos c4] at H
    have c4b0 : decide (0 < x0_1) = true:=decide_eq_true c4
    clear c4
    by_cases c5 : x3_1.length < 140737488355328
    ·rw [if_pos c5] at H
     have LMc5:=Aside0.mk c5
     clear c5
     obtain ⟨y417,hy417⟩ : ∃ y_ : List Bool,y_ = (x3_1 ++ [((Int.tmod x0_1 2) == 1)]):=⟨_,rfl⟩
     replace H : (sacristyref01_Small.l0 k1 (IntKind.u64.wrap (Int.tdiv x0_1 2)) y417) = some r:=by first|(rw [hy417];with_reducible exact H)|(have H2_:=(Option.bind_some _ _).symm.trans H;rw [hy417];with_reducible exact H2_)|(have H2_:=(Option.bind_some _ _).symm.trans H;with_reducible exact H2_)|with_reducible exact H|(rw [hy417];exact H)|exact H
     have Ny417:=Aside0.mk hy417
     clear hy417
     have H':=Aside0.mk H
     clear H
     go_wp2_with (first|((with_reducible refine gate_builtin (b:=.append) (xs:=#[.tmp 7,.tmp 11]) rfl ?_);at_builtin;refine Kd.R_append Kd.bool (w0:=w) w.heap.size rfl (.tmp 7) (.tmp 11) 42 4 (.bool false) 1 rfl Try.underlying42 info4 rfl (by decide) (by omega) u3 x3_1 ((Int.tmod x0_1 2) == 1) [.bool ((Int.tmod x0_1 2) == 1)] (fun _ => True) (fun _ => False) rfl rfl ?aP (fun _ hk => hk.elim) ?aF ?aO ?aB ?aS ?aL ?_;(case aP => exact rfl);(case aB => exact (qS HB));(case aF => exact (fun _ _ => trivial));(case aO => exact (qRm HO_3));(case aS => exact (below_size (qS HB)));(case aL => have:=LMc5.out;omega);intro v418 w6 ho hb hg hat;rw [← Ny417.out] at ho;replace HB:=Aside0.mk (hb);have HO419:=Aside0.mk (ho);(try clear HO_3);clear ho hb hg hat))
     go_roundg k1
     case measure => have:=HK1.out;omega
     case rel => exact ⟨(IntKind.u64.wrap (Int.tdiv x0_1 2)),(y417),(by first|rfl|(simp;done)|(simp [*];done)),H',⟨by have:=HK1.out;omega⟩,⟨qRm HO419⟩,⟨qS HB⟩⟩
    ·rw [if_neg c5] at H
     exact absurd H (by simp)
   ·rw [if_neg c4] at H
    have c4b0 : decide (0 < x0_1) = false:=decide_eq_false c4
    clear c4
    obtain rfl:=Option.some.inj H
    go_wp2
    (first|go_ret|(refine ⟨_,results_tmp rfl _ _ _,?_⟩))
    exact ⟨_,by first|rfl|(simp [errW_none,errW_some] <;> rfl)|(simp [*,errW_none,errW_some] <;> rfl),qRm HO_3,qS HB⟩
end Go.Proofs.Yteejcpbngnojkaa.P
end
section
namespace Go.Proofs.Yteejcpbngnojkaa.P
open Go.RowKit Go.Proofs.YteejcpbngnojkaaW.PrintWords Go.Proofs.YteejcpbngnojkaaW.PrintLast Go.Proofs.YteejcpbngnojkaaW.PrintMore
attribute [local go_sem] max2_int min2_int max_two min_two max_three min_three max_four min_four
set_option linter.unusedVariables false
set_option linter.unusedSimpArgs false
def sacristylaw01_lives.f (k : Nat)  : Option (Bool):=(nat_New.f k 7).bind fun t420 => ((nat_New.f k 2).bind fun t423 => ((nat_Nat_Div.f k t420 t423).bind fun bt426 => (if bt426.2.2 = 0 then ((sacristyref01_Small.f k 3).bind fun t435 => ((sacristylaw01_Same.f k bt426.1 t435).bind fun t438 => (if t438 = true then ((sacristyref01_Small.f k 1).bind fun t439 => ((sacristylaw01_Same.f k bt426.2.1 t439).bind fun t442 => (some t442))) else (some false)))) else (some false))))
theorem sacristylaw01_lives.mono : ∀ k,LeO (sacristylaw01_lives.f k ) (sacristylaw01_lives.f (k + 1) ):=by
 intro  k
 unfold sacristylaw01_lives.f
 repeat' first
   |(with_reducible exact nat_Nat_Div.mono _ _ _)
   |(with_reducible exact nat_New.mono _ _)
   |(with_reducible exact sacristylaw01_Same.mono _ _ _)
   |(with_reducible exact sacristyref01_Small.mono _ _)
   |(with_reducible exact LeO.refl _)
   |(with_reducible exact LeO.none _)
   |(with_reducible refine LeO.ite ?_ ?_)
   |(with_reducible refine LeO.bind ?_ (fun _ => ?_))
   |exact nat_Nat_Div.mono _ _ _
   |exact nat_New.mono _ _
   |exact sacristylaw01_Same.mono _ _ _
   |exact sacristyref01_Small.mono _ _
   |exact LeO.none _
   |refine LeO.ite ?_ ?_
   |refine LeO.bind ?_ (fun _ => ?_)
def sacristylaw01_lives.T2 : Bool × List (List Nat × List Nat):=(true,[([],[]),([0],[0]),([1],[1]),([2],[2]),([2,2],[2]),([3,4,4,2],[2,3,4]),([2,5],[2,5]),([6,5],[6]),([7],[7]),([7,7],[7]),([8,9,9,7],[7,8,9]),([7,10],[7,10]),([11,10,0,1,2,3,4,5,6,7,8,9,10,11],[11])])
def sacristylaw01_lives.B2 : List Nat:=[0,1,3,7,7,31,63,127,255,255,1023,2047,4095]
theorem sacristylaw01_lives.tab2 : rtab .any (opsOf Try.f34 2) = sacristylaw01_lives.T2:=by kernel_rfl
theorem sacristylaw01_lives.bits2 : waitsOk sacristylaw01_lives.T2.2 sacristylaw01_lives.B2 = true:=by kernel_rfl
set_option maxHeartbeats 8000000 in
set_option maxRecDepth 100000 in
theorem sacristylaw01_lives.calls (k : Nat)  (r : Bool) (w : World) (h : sacristylaw01_lives.f k  = some r) :
  Calls Try.prog 34 #[] w fun e w' => e = .returned (.bool r) ∧ Below w.heap.size w w':=by
 have hu38:=Try.underlying38
 have HB:=Aside0.mk (Below.refl w.heap.size w)
 have H : ((nat_New.f k 7).bind fun t420 => ((nat_New.f k 2).bind fun t423 => ((nat_Nat_Div.f k t420 t423).bind fun bt426 => (if bt426.2.2 = 0 then ((sacristyref01_Small.f k 3).bind fun t435 => ((sacristylaw01_Same.f k bt426.1 t435).bind fun t438 => (if t438 = true then ((sacristyref01_Small.f k 1).bind fun t439 => ((sacristylaw01_Same.f k bt426.2.1 t439).bind fun t442 => (some t442))) else (some false)))) else (some false))))) = some r:=h
 clear h
 obtain ⟨t420,A1,H⟩:=qH H
 obtain ⟨t423,A2,H⟩:=qH H
 obtain ⟨⟨t426,t429,t432⟩,A3,H⟩:=qH H
 dsimp only at H
 by_cases c4 : t432 = 0
 ·rw [if_pos c4] at H
  have c4b0 : (t432 == 0) = true:=beq_iff_eq.mpr c4
  have c4b1 : (t432 != 0) = false:=bne_eq_false_iff_eq.mpr c4
  clear c4
  obtain ⟨t435,A5,H⟩:=qH H
  obtain ⟨t438,A6,H⟩:=qH H
  by_cases c7 : t438 = true
  ·subst c7
   rw [if_pos rfl] at H
   obtain ⟨t439,A8,H⟩:=qH H
   obtain ⟨t442,A9,H⟩:=qH H
   obtain rfl:=Option.some.inj H
   go_enter Try.func34,Try.ntmps34
   try go_wp2_with (first|((with_reducible refine gate_callee (f:=54) rfl ?_);refine gL (some 5) Try.func54 #[.int .u64 7] ?_;(with_reducible refine (nat_New.calls k 7 t420 _ A1.out).mono ?_);rintro e w10 ⟨v421,rfl,ho0,hb⟩;refine ⟨_,rfl,?_⟩;have HO422:=Aside0.mk (Kd.V_lower (Kd.V_mono (ok':=fun k_ => True) ho0 (fun k_ hk_ => trivial)) (below_size (qS HB)));replace HB:=qs HB hb;clear hb ho0)|((with_reducible refine gate_callee (f:=54) rfl ?_);refine gL (some 6) Try.func54 #[.int .u64 2] ?_;(with_reducible refine (nat_New.calls k 2 t423 _ A2.out).mono ?_);rintro e w11 ⟨v424,rfl,ho0,hb⟩;refine ⟨_,rfl,?_⟩;replace HO422:=qVb HO422 hb;have HO425:=Aside0.mk (Kd.V_lower (Kd.V_mono (ok':=fun k_ => True) ho0 (fun k_ hk_ => trivial)) (below_size (qS HB)));replace HB:=qs HB hb;clear hb ho0;obtain ⟨Ao12,co12,eo12⟩:=Kd.V_slice HO422.out;subst eo12;obtain ⟨Ao13,co13,eo13⟩:=Kd.V_slice HO425.out;subst eo13)|((with_reducible refine gate_callee (f:=53) rfl ?_);refine gL (some 7) Try.func53 #[.agg #[.slice Ao12 t420.length co12],.agg #[.slice Ao13 t423.length co13]] ?_;(with_reducible refine (nat_Nat_Div.calls k (fun k_ => True) _ _ t420 _ _ t423 t426 t429 t432 _ ?side1 ?side2 ?side3 A3.out).mono ?_);(case side1 => first|exact HO422.out|exact qVm HO422);(case side2 => exact qCV HO425);(case side3 => exact qL HO425);rintro e w14 ⟨v427,v430,rfl,ho0,ho1,hb⟩;refine ⟨_,rfl,?_⟩;replace HO422:=qVb HO422 hb;replace HO425:=qVb HO425 hb;have HO428:=Aside0.mk (Kd.V_lower (Kd.V_mono (ok':=fun k_ => True) ho0 (fun k_ hk_ => trivial)) (below_size (qS HB)));have HO431:=Aside0.mk (Kd.V_lower (Kd.V_mono (ok':=fun k_ => True) ho1 (fun k_ hk_ => trivial)) (below_size (qS HB)));replace HB:=qs HB hb;clear hb ho0 ho1)|((with_reducible refine gate_dst (N:=1) rfl ?_);refine qX #[.slice none 0 0] 38 ?_;intro gb433 hg w15 hbox hb;replace HO422:=qVe HO422 hb hg;replace HO425:=qVe HO425 hb hg;replace HO428:=qVe HO428 hb hg;replace HO431:=qVe HO431 hb hg;have BK433:=Aside0.mk hbox;have GE433:=qh hg HB;replace HB:=qs HB hb;clear hb hbox hg)|((with_reducible refine gate_dst (N:=2) rfl ?_);refine qX #[.slice none 0 0] 38 ?_;intro gb434 hg w16 hbox hb;replace HO422:=qVe HO422 hb hg;replace HO425:=qVe HO425 hb hg;replace HO428:=qVe HO428 hb hg;replace HO431:=qVe HO431 hb hg;have BK434:=Aside0.mk hbox;have GE434:=qh hg HB;replace HB:=qs HB hb;have NB433_434:=ql hg BK433;have NB434_433:=qg hg BK433;replace BK433:=qb BK433 hb;clear hb hbox hg;obtain ⟨Ao17,co17,eo17⟩:=Kd.V_slice HO428.out;subst eo17;have hnb18:=NB433_434.out;have hnc18:=NB434_433.out;have hcz19_0:=bc BK433;have hfz19_0:=bz BK433;obtain ⟨Ao20,co20,eo20⟩:=Kd.V_slice HO431.out;subst eo20;have hcz21_0:=bc BK434;have hfz21_0:=bz BK434))
   generalize hw : ((w16.setCell ⟨gb433,0,none⟩ (.slice Ao17 t426.length co17)).setCell ⟨gb434,0,none⟩ (.slice Ao20 t429.length co20)) = w22
   replace hw:=hw.symm
   replace HO422:=qVh hw HO422
   replace HO425:=qVh hw HO425
   replace HO428:=qVh hw HO428
   replace HO431:=qVh hw HO431
   replace BK433:=qBp hw BK433
   replace BK434:=qBp hw BK434
   replace HB:=qSh hw HB
   clear hw
   replace HO422:=qVw HO422
   replace HO425:=qVw HO425
   replace HO428:=qVw HO428
   replace HO431:=qVw HO431
   replace BK433:=qbd BK433
   replace BK434:=qbd BK434
   replace HB:=qsd HB
   refine start_ (n:=13) (S:=fun w' => w'.cell? ⟨gb433,0,none⟩ = some (.slice Ao17 t426.length co17) ∧ w'.cell? ⟨gb434,0,none⟩ = some (.slice Ao20 t429.length co20)) (ds:=[]) #[false,false,false,false,false,false,false,false,false,false,false,false,false] (by kernel_rfl) rfl rfl ⟨bc BK433,bc BK434⟩ (fun hHeld => ?_);refine with_tabW sacristylaw01_lives.tab2 sacristylaw01_lives.bits2 (fun HT_ HW_ => ?_)
   generalize w22.drew = w23 at HO422 HO425 HO428 HO431 BK433 BK434 HB hHeld ⊢
   refine qP 0 11 HT_ ?_
   refine qP 1 12 HT_ ?_
   refine qP 2 13 HT_ ?_
   refine qT 3 14 HT_ HW_ hHeld ?_
   refine q1 4 (some 15) HT_ rfl (fun K hK => ?_)
   refine g_ Try.func56 #[.int .u64 3] ?_
   with_reducible refine (sacristyref01_Small.calls k 3 t435 _ A5.out).mono ?_
   rintro e w24 ⟨v436,rfl,ho0,hb⟩
   refine ⟨_,rfl,?_⟩
   replace HO422:=qVd HO422 ho0 hb
   replace HO425:=qVd HO425 ho0 hb
   replace HO428:=qVd HO428 ho0 hb
   replace HO431:=qVd HO431 ho0 hb
   have HO437:=Aside0.mk (Kd.R_lower ho0 (below_size (qS HB)))
   replace BK433:=qb BK433 hb
   replace BK434:=qb BK434 hb
   replace HB:=qs HB hb
   clear hb ho0
   obtain ⟨Ao25,co25,eo25⟩:=Kd.R_slice HO437.out
   (first|subst eo25|(injection eo25 with f1_ f2_ f3_;have f4_:=f1_.symm;have f5_:=f3_.symm;clear f1_ f2_ f3_;subst f4_;subst f5_))
   refine hK.out _ _ ⟨bc BK433,bc BK434⟩ (fun hHeld => ?_)
   clear hK K
   refine qO 15 ?_
   refine q1 5 (some 16) HT_ rfl (fun K hK => ?_)
   refine g_ Try.func37 #[.agg #[.slice Ao17 t426.length co17],.slice Ao25 t435.length co25] ?_
   with_reducible refine (sacristylaw01_Same.calls k _ _ t426 _ _ t435 true _ ?side1 ?side2 ?side3 ?side4 A6.out).mono ?_
   (case side1 => exact qCV HO428)
   (case side2 => exact qL HO428)
   (case side3 => exact qCR HO437)
   (case side4 => exact qLR HO437)
   rintro e w26 ⟨rfl,hb⟩
   refine ⟨_,rfl,?_⟩
   replace HO422:=qVb HO422 hb
   replace HO425:=qVb HO425 hb
   replace HO428:=qVb HO428 hb
   replace HO431:=qVb HO431 hb
   replace HO437:=qRb HO437 hb
   replace BK433:=qb BK433 hb
   replace BK434:=qb BK434 hb
   replace HB:=qs HB hb
   clear hb
   refine hK.out _ _ ⟨bc BK433,bc BK434⟩ (fun hHeld => ?_)
   clear hK K
   refine qO 16 ?_
   refine qP 6 17 HT_ ?_
   refine qP 7 18 HT_ ?_
   refine qT 8 19 HT_ HW_ hHeld ?_
   refine q1 9 (some 20) HT_ rfl (fun K hK => ?_)
   refine g_ Try.func56 #[.int .u64 1] ?_
   with_reducible refine (sacristyref01_Small.calls k 1 t439 _ A8.out).mono ?_
   rintro e w27 ⟨v440,rfl,ho0,hb⟩
   refine ⟨_,rfl,?_⟩
   replace HO422:=qVd HO422 ho0 hb
   replace HO425:=qVd HO425 ho0 hb
   replace HO428:=qVd HO428 ho0 hb
   replace HO431:=qVd HO431 ho0 hb
   have HO441:=Aside0.mk (Kd.R_lower (Kd.R_new' ho0 (Kd.R_lt (qRm HO437))) (below_size (qS HB)))
   replace HO437:=qRd HO437 ho0 hb
   replace BK433:=qb BK433 hb
   replace BK434:=qb BK434 hb
   replace HB:=qs HB hb
   clear hb ho0
   obtain ⟨Ao28,co28,eo28⟩:=Kd.R_slice HO441.out
   (first|subst eo28|(injection eo28 with f1_ f2_ f3_;have f4_:=f1_.symm;have f5_:=f3_.symm;clear f1_ f2_ f3_;subst f4_;subst f5_))
   refine hK.out _ _ ⟨bc BK433,bc BK434⟩ (fun hHeld => ?_)
   clear hK K
   refine qO 20 ?_
   refine q1 10 (some 21) HT_ rfl (fun K hK => ?_)
   refine g_ Try.func37 #[.agg #[.slice Ao20 t429.length co20],.slice Ao28 t439.length co28] ?_
   with_reducible refine (sacristylaw01_Same.calls k _ _ t429 _ _ t439 t442 _ ?side1 ?side2 ?side3 ?side4 A9.out).mono ?_
   (case side1 => exact qCV HO431)
   (case side2 => exact qL HO431)
   (case side3 => exact qCR HO441)
   (case side4 => exact qLR HO441)
   rintro e w29 ⟨rfl,hb⟩
   refine ⟨_,rfl,?_⟩
   replace HO422:=qVb HO422 hb
   replace HO425:=qVb HO425 hb
   replace HO428:=qVb HO428 hb
   replace HO431:=qVb HO431 hb
   replace HO437:=qRb HO437 hb
   replace HO441:=qRb HO441 hb
   replace BK433:=qb BK433 hb
   replace BK434:=qb BK434 hb
   replace HB:=qs HB hb
   clear hb
   refine hK.out _ _ ⟨bc BK433,bc BK434⟩ (fun hHeld => ?_)
   clear hK K
   refine qO 21 ?_
   refine qP 11 22 HT_ ?_
   refine qP 12 0 HT_ ?_
   refine qD HT_ ?_
   try go_wp2
   (first|go_ret|(refine ⟨_,results_tmp rfl _ _ _,?_⟩))
   exact ⟨by first|rfl|(simp [errW_none,errW_some] <;> rfl)|(simp [*,errW_none,errW_some] <;> rfl),qS HB⟩
  ·replace c7:=Bool.eq_false_iff.mpr c7
   subst c7
   rw [qFT] at H
   obtain rfl:=Option.some.inj H
   go_enter Try.func34,Try.ntmps34
   try go_wp2_with (first|((with_reducible refine gate_callee (f:=54) rfl ?_);refine gL (some 5) Try.func54 #[.int .u64 7] ?_;(with_reducible refine (nat_New.calls k 7 t420 _ A1.out).mono ?_);rintro e w30 ⟨v421,rfl,ho0,hb⟩;refine ⟨_,rfl,?_⟩;have HO422:=Aside0.mk (Kd.V_lower (Kd.V_mono (ok':=fun k_ => True) ho0 (fun k_ hk_ => trivial)) (below_size (qS HB)));replace HB:=qs HB hb;clear hb ho0)|((with_reducible refine gate_callee (f:=54) rfl ?_);refine gL (some 6) Try.func54 #[.int .u64 2] ?_;(with_reducible refine (nat_New.calls k 2 t423 _ A2.out).mono ?_);rintro e w31 ⟨v424,rfl,ho0,hb⟩;refine ⟨_,rfl,?_⟩;replace HO422:=qVb HO422 hb;have HO425:=Aside0.mk (Kd.V_lower (Kd.V_mono (ok':=fun k_ => True) ho0 (fun k_ hk_ => trivial)) (below_size (qS HB)));replace HB:=qs HB hb;clear hb ho0;obtain ⟨Ao32,co32,eo32⟩:=Kd.V_slice HO422.out;subst eo32;obtain ⟨Ao33,co33,eo33⟩:=Kd.V_slice HO425.out;subst eo33)|((with_reducible refine gate_callee (f:=53) rfl ?_);refine gL (some 7) Try.func53 #[.agg #[.slice Ao32 t420.length co32],.agg #[.slice Ao33 t423.length co33]] ?_;(with_reducible refine (nat_Nat_Div.calls k (fun k_ => True) _ _ t420 _ _ t423 t426 t429 t432 _ ?side1 ?side2 ?side3 A3.out).mono ?_);(case side1 => first|exact HO422.out|exact qVm HO422);(case side2 => exact qCV HO425);(case side3 => exact qL HO425);rintro e w34 ⟨v427,v430,rfl,ho0,ho1,hb⟩;refine ⟨_,rfl,?_⟩;replace HO422:=qVb HO422 hb;replace HO425:=qVb HO425 hb;have HO428:=Aside0.mk (Kd.V_lower (Kd.V_mono (ok':=fun k_ => True) ho0 (fun k_ hk_ => trivial)) (below_size (qS HB)));have HO431:=Aside0.mk (Kd.V_lower (Kd.V_mono (ok':=fun k_ => True) ho1 (fun k_ hk_ => trivial)) (below_size (qS HB)));replace HB:=qs HB hb;clear hb ho0 ho1)|((with_reducible refine gate_dst (N:=1) rfl ?_);refine qX #[.slice none 0 0] 38 ?_;intro gb433 hg w35 hbox hb;replace HO422:=qVe HO422 hb hg;replace HO425:=qVe HO425 hb hg;replace HO428:=qVe HO428 hb hg;replace HO431:=qVe HO431 hb hg;have BK433:=Aside0.mk hbox;have GE433:=qh hg HB;replace HB:=qs HB hb;clear hb hbox hg)|((with_reducible refine gate_dst (N:=2) rfl ?_);refine qX #[.slice none 0 0] 38 ?_;intro gb434 hg w36 hbox hb;replace HO422:=qVe HO422 hb hg;replace HO425:=qVe HO425 hb hg;replace HO428:=qVe HO428 hb hg;replace HO431:=qVe HO431 hb hg;have BK434:=Aside0.mk hbox;have GE434:=qh hg HB;replace HB:=qs HB hb;have NB433_434:=ql hg BK433;have NB434_433:=qg hg BK433;replace BK433:=qb BK433 hb;clear hb hbox hg;obtain ⟨Ao37,co37,eo37⟩:=Kd.V_slice HO428.out;subst eo37;have hnb38:=NB433_434.out;have hnc38:=NB434_433.out;have hcz39_0:=bc BK433;have hfz39_0:=bz BK433;obtain ⟨Ao40,co40,eo40⟩:=Kd.V_slice HO431.out;subst eo40;have hcz41_0:=bc BK434;have hfz41_0:=bz BK434))
   generalize hw : ((w36.setCell ⟨gb433,0,none⟩ (.slice Ao37 t426.length co37)).setCell ⟨gb434,0,none⟩ (.slice Ao40 t429.length co40)) = w42
   replace hw:=hw.symm
   replace HO422:=qVh hw HO422
   replace HO425:=qVh hw HO425
   replace HO428:=qVh hw HO428
   replace HO431:=qVh hw HO431
   replace BK433:=qBp hw BK433
   replace BK434:=qBp hw BK434
   replace HB:=qSh hw HB
   clear hw
   replace HO422:=qVw HO422
   replace HO425:=qVw HO425
   replace HO428:=qVw HO428
   replace HO431:=qVw HO431
   replace BK433:=qbd BK433
   replace BK434:=qbd BK434
   replace HB:=qsd HB
   refine start_ (n:=13) (S:=fun w' => w'.cell? ⟨gb433,0,none⟩ = some (.slice Ao37 t426.length co37)) (ds:=[]) #[false,false,false,false,false,false,false,false,false,false,false,false,false] (by kernel_rfl) rfl rfl (bc BK433) (fun hHeld => ?_);refine with_tabW sacristylaw01_lives.tab2 sacristylaw01_lives.bits2 (fun HT_ HW_ => ?_)
   generalize w42.drew = w43 at HO422 HO425 HO428 HO431 BK433 BK434 HB hHeld ⊢
   refine qP 0 11 HT_ ?_
   refine qP 1 12 HT_ ?_
   refine qP 2 13 HT_ ?_
   refine qT 3 14 HT_ HW_ hHeld ?_
   refine q1 4 (some 15) HT_ rfl (fun K hK => ?_)
   refine g_ Try.func56 #[.int .u64 3] ?_
   with_reducible refine (sacristyref01_Small.calls k 3 t435 _ A5.out).mono ?_
   rintro e w44 ⟨v436,rfl,ho0,hb⟩
   refine ⟨_,rfl,?_⟩
   replace HO422:=qVd HO422 ho0 hb
   replace HO425:=qVd HO425 ho0 hb
   replace HO428:=qVd HO428 ho0 hb
   replace HO431:=qVd HO431 ho0 hb
   have HO437:=Aside0.mk (Kd.R_lower ho0 (below_size (qS HB)))
   replace BK433:=qb BK433 hb
   replace BK434:=qb BK434 hb
   replace HB:=qs HB hb
   clear hb ho0
   obtain ⟨Ao45,co45,eo45⟩:=Kd.R_slice HO437.out
   (first|subst eo45|(injection eo45 with f1_ f2_ f3_;have f4_:=f1_.symm;have f5_:=f3_.symm;clear f1_ f2_ f3_;subst f4_;subst f5_))
   refine hK.out _ _ (bc BK433) (fun hHeld => ?_)
   clear hK K
   refine qO 15 ?_
   refine q1 5 (some 16) HT_ rfl (fun K hK => ?_)
   refine g_ Try.func37 #[.agg #[.slice Ao37 t426.length co37],.slice Ao45 t435.length co45] ?_
   with_reducible refine (sacristylaw01_Same.calls k _ _ t426 _ _ t435 false _ ?side1 ?side2 ?side3 ?side4 A6.out).mono ?_
   (case side1 => exact qCV HO428)
   (case side2 => exact qL HO428)
   (case side3 => exact qCR HO437)
   (case side4 => exact qLR HO437)
   rintro e w46 ⟨rfl,hb⟩
   refine ⟨_,rfl,?_⟩
   replace HO422:=qVb HO422 hb
   replace HO425:=qVb HO425 hb
   replace HO428:=qVb HO428 hb
   replace HO431:=qVb HO431 hb
   replace HO437:=qRb HO437 hb
   replace BK433:=qb BK433 hb
   replace BK434:=qb BK434 hb
   replace HB:=qs HB hb
   clear hb
   refine hK.out _ _ (bc BK433) (fun hHeld => ?_)
   clear hK K
   refine qO 16 ?_
   refine qP 6 17 HT_ ?_
   refine qP 7 18 HT_ ?_
   refine qU 8 19 HT_ ?_
   refine qU 9 20 HT_ ?_
   refine qU 10 21 HT_ ?_
   refine qP 11 22 HT_ ?_
   refine qP 12 0 HT_ ?_
   refine qD HT_ ?_
   try go_wp2
   (first|go_ret|(refine ⟨_,results_tmp rfl _ _ _,?_⟩))
   exact ⟨by first|rfl|(simp [errW_none,errW_some] <;> rfl)|(simp [*,errW_none,errW_some] <;> rfl),qS HB⟩
 ·rw [if_neg c4] at H
  have c4b0 : (t432 == 0) = false:=beq_eq_false_iff_ne.mpr c4
  have c4b1 : (t432 != 0) = true:=bne_iff_ne.mpr c4
  obtain rfl:=Option.some.inj H
  go_enter Try.func34,Try.ntmps34
  try go_wp2_with (first|((with_reducible refine gate_callee (f:=54) rfl ?_);refine gL (some 5) Try.func54 #[.int .u64 7] ?_;(with_reducible refine (nat_New.calls k 7 t420 _ A1.out).mono ?_);rintro e w47 ⟨v421,rfl,ho0,hb⟩;refine ⟨_,rfl,?_⟩;have HO422:=Aside0.mk (Kd.V_lower (Kd.V_mono (ok':=fun k_ => True) ho0 (fun k_ hk_ => trivial)) (below_size (qS HB)));replace HB:=qs HB hb;clear hb ho0)|((with_reducible refine gate_callee (f:=54) rfl ?_);refine gL (some 6) Try.func54 #[.int .u64 2] ?_;(with_reducible refine (nat_New.calls k 2 t423 _ A2.out).mono ?_);rintro e w48 ⟨v424,rfl,ho0,hb⟩;refine ⟨_,rfl,?_⟩;replace HO422:=qVb HO422 hb;have HO425:=Aside0.mk (Kd.V_lower (Kd.V_mono (ok':=fun k_ => True) ho0 (fun k_ hk_ => trivial)) (below_size (qS HB)));replace HB:=qs HB hb;clear hb ho0;obtain ⟨Ao49,co49,eo49⟩:=Kd.V_slice HO422.out;subst eo49;obtain ⟨Ao50,co50,eo50⟩:=Kd.V_slice HO425.out;subst eo50)|((with_reducible refine gate_callee (f:=53) rfl ?_);refine gL (some 7) Try.func53 #[.agg #[.slice Ao49 t420.length co49],.agg #[.slice Ao50 t423.length co50]] ?_;(with_reducible refine (nat_Nat_Div.calls k (fun k_ => True) _ _ t420 _ _ t423 t426 t429 t432 _ ?side1 ?side2 ?side3 A3.out).mono ?_);(case side1 => first|exact HO422.out|exact qVm HO422);(case side2 => exact qCV HO425);(case side3 => exact qL HO425);rintro e w51 ⟨v427,v430,rfl,ho0,ho1,hb⟩;refine ⟨_,rfl,?_⟩;replace HO422:=qVb HO422 hb;replace HO425:=qVb HO425 hb;have HO428:=Aside0.mk (Kd.V_lower (Kd.V_mono (ok':=fun k_ => True) ho0 (fun k_ hk_ => trivial)) (below_size (qS HB)));have HO431:=Aside0.mk (Kd.V_lower (Kd.V_mono (ok':=fun k_ => True) ho1 (fun k_ hk_ => trivial)) (below_size (qS HB)));replace HB:=qs HB hb;clear hb ho0 ho1)|((with_reducible refine gate_dst (N:=1) rfl ?_);refine qX #[.slice none 0 0] 38 ?_;intro gb433 hg w52 hbox hb;replace HO422:=qVe HO422 hb hg;replace HO425:=qVe HO425 hb hg;replace HO428:=qVe HO428 hb hg;replace HO431:=qVe HO431 hb hg;have BK433:=Aside0.mk hbox;have GE433:=qh hg HB;replace HB:=qs HB hb;clear hb hbox hg)|((with_reducible refine gate_dst (N:=2) rfl ?_);refine qX #[.slice none 0 0] 38 ?_;intro gb434 hg w53 hbox hb;replace HO422:=qVe HO422 hb hg;replace HO425:=qVe HO425 hb hg;replace HO428:=qVe HO428 hb hg;replace HO431:=qVe HO431 hb hg;have BK434:=Aside0.mk hbox;have GE434:=qh hg HB;replace HB:=qs HB hb;have NB433_434:=ql hg BK433;have NB434_433:=qg hg BK433;replace BK433:=qb BK433 hb;clear hb hbox hg;obtain ⟨Ao54,co54,eo54⟩:=Kd.V_slice HO428.out;subst eo54;have hnb55:=NB433_434.out;have hnc55:=NB434_433.out;have hcz56_0:=bc BK433;have hfz56_0:=bz BK433;obtain ⟨Ao57,co57,eo57⟩:=Kd.V_slice HO431.out;subst eo57;have hcz58_0:=bc BK434;have hfz58_0:=bz BK434))
  generalize hw : ((w53.setCell ⟨gb433,0,none⟩ (.slice Ao54 t426.length co54)).setCell ⟨gb434,0,none⟩ (.slice Ao57 t429.length co57)) = w59
  replace hw:=hw.symm
  replace HO422:=qVh hw HO422
  replace HO425:=qVh hw HO425
  replace HO428:=qVh hw HO428
  replace HO431:=qVh hw HO431
  replace BK433:=qBp hw BK433
  replace BK434:=qBp hw BK434
  replace HB:=qSh hw HB
  clear hw
  replace HO422:=qVw HO422
  replace HO425:=qVw HO425
  replace HO428:=qVw HO428
  replace HO431:=qVw HO431
  replace BK433:=qbd BK433
  replace BK434:=qbd BK434
  replace HB:=qsd HB
  refine start_ (n:=13) (S:=fun w' => True) (ds:=[]) #[false,false,false,false,false,false,false,false,false,false,false,false,false] (by kernel_rfl) rfl rfl trivial (fun hHeld => ?_);refine with_tabW sacristylaw01_lives.tab2 sacristylaw01_lives.bits2 (fun HT_ HW_ => ?_)
  generalize w59.drew = w60 at HO422 HO425 HO428 HO431 BK433 BK434 HB hHeld ⊢
  refine qP 0 11 HT_ ?_
  refine qP 1 12 HT_ ?_
  refine qP 2 13 HT_ ?_
  refine qU 3 14 HT_ ?_
  refine qU 4 15 HT_ ?_
  refine qU 5 16 HT_ ?_
  refine qP 6 17 HT_ ?_
  refine qP 7 18 HT_ ?_
  refine qU 8 19 HT_ ?_
  refine qU 9 20 HT_ ?_
  refine qU 10 21 HT_ ?_
  refine qP 11 22 HT_ ?_
  refine qP 12 0 HT_ ?_
  refine qD HT_ ?_
  try go_wp2
  (first|go_ret|(refine ⟨_,results_tmp rfl _ _ _,?_⟩))
  exact ⟨by first|rfl|(simp [errW_none,errW_some] <;> rfl)|(simp [*,errW_none,errW_some] <;> rfl),qS HB⟩
end Go.Proofs.Yteejcpbngnojkaa.P
end
section
namespace Go.Proofs.Yteejcpbngnojkaa.P
open Go.RowKit Go.Proofs.YteejcpbngnojkaaW.PrintWords Go.Proofs.YteejcpbngnojkaaW.PrintLast Go.Proofs.YteejcpbngnojkaaW.PrintMore
attribute [local go_sem] max2_int min2_int max_two min_two max_three min_three max_four min_four
set_option linter.unusedVariables false
set_option linter.unusedSimpArgs false
def nat_FromBytes.l0 : Nat → List Int → List Int → Int → Int → Option (List Int × Int)
 |0,_,_,_,_ => none
 |k + 1,x0,x4,x17,x18 => if x18 < x17 then (if 0 ≤ (wrap64 ((wrap64 ((x0.length : Int) - 1)) - x18)) then (if (wrap64 ((wrap64 ((x0.length : Int) - 1)) - x18)) < (x0.length : Int) then (if 0 ≤ (wrap64 (Int.tdiv x18 4)) then (if (wrap64 (Int.tdiv x18 4)) < (x4.length : Int) then (if 0 ≤ (wrap64 (8 * (Int.tmod x18 4))) then (nat_FromBytes.l0 k x0 (x4.set ((wrap64 (Int.tdiv x18 4)) : Int).toNat (Go.bits .or .u32 (rd x4 (wrap64 (Int.tdiv x18 4))) (shl .u32 ((rd x0 (wrap64 ((wrap64 ((x0.length : Int) - 1)) - x18))) % 4294967296) (wrap64 (8 * (Int.tmod x18 4)))))) x17 (wrap64 (x18 + 1))) else (none)) else (none)) else (none)) else (none)) else (none)) else ((nat_trim.f k x4).bind fun t450 => (some (t450,0)))
def nat_FromBytes.f (k : Nat) (l0 : List Int) : Option (List Int × Int):=if (l0.length : Int) > 128 then (some (([] : List Int),4)) else (if 0 ≤ (wrap64 (Int.tdiv (wrap64 ((l0.length : Int) + 3)) 4)) then (if (wrap64 (Int.tdiv (wrap64 ((l0.length : Int) + 3)) 4) : Int).toNat ≤ 70368744177664 then (nat_FromBytes.l0 k l0 (List.replicate (wrap64 (Int.tdiv (wrap64 ((l0.length : Int) + 3)) 4) : Int).toNat 0) (l0.length : Int) 0) else (none)) else (none))
theorem nat_FromBytes.mono_l : ∀ k,(∀ y0 y1 y2 y3,LeO (nat_FromBytes.l0 k y0 y1 y2 y3) (nat_FromBytes.l0 (k + 1) y0 y1 y2 y3))
 |0 => fun _ _ _ _ r h => by simp [nat_FromBytes.l0] at h
 |k + 1 => by
  have ih0:=nat_FromBytes.mono_l k
  ·intro y0 y1 y2 y3
   unfold nat_FromBytes.l0
   repeat' first
   |(with_reducible exact ih0 _ _ _ _)
   |(with_reducible exact nat_trim.mono _ _)
   |(with_reducible exact LeO.refl _)
   |(with_reducible exact LeO.none _)
   |(with_reducible refine LeO.ite ?_ ?_)
   |(with_reducible refine LeO.bind ?_ (fun _ => ?_))
   |exact ih0 _ _ _ _
   |exact nat_trim.mono _ _
   |exact LeO.none _
   |refine LeO.ite ?_ ?_
   |refine LeO.bind ?_ (fun _ => ?_)
theorem nat_FromBytes.mono : ∀ a0 k,LeO (nat_FromBytes.f k a0) (nat_FromBytes.f (k + 1) a0):=by
 intro a0 k
 have ih0:=nat_FromBytes.mono_l k
 unfold nat_FromBytes.f
 repeat' first
   |(with_reducible exact ih0 _ _ _ _)
   |(with_reducible exact nat_trim.mono _ _)
   |(with_reducible exact LeO.refl _)
   |(with_reducible exact LeO.none _)
   |(with_reducible refine LeO.ite ?_ ?_)
   |(with_reducible refine LeO.bind ?_ (fun _ => ?_))
   |exact ih0 _ _ _ _
   |exact nat_trim.mono _ _
   |exact LeO.none _
   |refine LeO.ite ?_ ?_
   |refine LeO.bind ?_ (fun _ => ?_)
def nat_FromBytes.T8 : Bool × List (List Nat × List Nat):=(true,[([],[]),([],[]),([1],[1]),([0,2],[0,2]),([3],[3]),([],[]),([5],[5]),([],[]),([7],[7]),([8],[8]),([6,9],[6,9]),([4,10],[4,10]),([0,2,0,1,2,3,4,5,6,7,8,9,10,11],[0,2]),([12,11,0,1,2,3,4,5,6,7,8,9,10,11],[11,12])])
def nat_FromBytes.B8 : List Nat:=[0,0,2,7,15,0,32,0,128,384,992,2047,4095,8191]
theorem nat_FromBytes.tab8 : rtab .any (opsOf Try.f35 8) = nat_FromBytes.T8:=by kernel_rfl
theorem nat_FromBytes.bits8 : waitsOk nat_FromBytes.T8.2 nat_FromBytes.B8 = true:=by kernel_rfl
set_option maxHeartbeats 8000000 in
set_option maxRecDepth 100000 in
theorem nat_FromBytes.calls (k : Nat) (A0 : Option Addr) (c0 : Nat) (l0 : List Int) (r1 : List Int) (r2 : Int) (w : World) (hr0 : Kd.C (Kd.int .u8) w A0 l0.length l0) (hc0 : l0.length ≤ c0) (h : nat_FromBytes.f k l0 = some (r1,r2)) :
  Calls Try.prog 35 #[.slice A0 l0.length c0] w fun e w' => ∃ v0_ : Value,e = .returned (.tuple #[.agg #[v0_],.int .i64 r2]) ∧ Kd.V (Kd.int .u32) 23 w' w.heap.size (fun k_ => (w.heap.size ≤ k_)) v0_ r1 ∧ Below w.heap.size w w':=by
 have hu38:=Try.underlying38
 have HR0:=Aside0.mk hr0
 have HC0:=Aside0.mk hc0
 clear hr0 hc0
 have HB:=Aside0.mk (Below.refl w.heap.size w)
 have H : (if (l0.length : Int) > 128 then (some (([] : List Int),4)) else (if 0 ≤ (wrap64 (Int.tdiv (wrap64 ((l0.length : Int) + 3)) 4)) then (if (wrap64 (Int.tdiv (wrap64 ((l0.length : Int) + 3)) 4) : Int).toNat ≤ 70368744177664 then (nat_FromBytes.l0 k l0 (List.replicate (wrap64 (Int.tdiv (wrap64 ((l0.length : Int) + 3)) 4) : Int).toNat 0) (l0.length : Int) 0) else (none)) else (none))) = some (r1,r2):=h
 clear h
 by_cases c2 : (l0.length : Int) > 128
 ·rw [if_pos c2] at H
  have c2b0 : decide (128 < (l0.length : Int)) = true:=decide_eq_true c2
  have c2b1 : decide (128 < l0.length) = true:=decide_eq_true (by omega)
  clear c2
  simp only [Option.some.injEq,Prod.mk.injEq] at H
  obtain ⟨rfl,rfl⟩:=H
  go_enter Try.func35,Try.ntmps35
  go_wp2_with (first|((with_reducible refine gate_dst (N:=2) rfl ?_);refine qX #[.slice none 0 0] 38 ?_;intro gb443 hg w3 hbox hb;have BK443:=Aside0.mk hbox;have GE443:=qh hg HB;replace HB:=qs HB hb;clear hb hbox hg;have hcz4_0:=bc BK443;have hfz4_0:=bz BK443))
  refine bodyPost_ret (results_ct rfl _ _ gb443 38 #[.slice none 0 0] (0,0) _ rfl (by (with_reducible repeat (first|refine blk_drewN ?_ _|refine blk_drew ?_|refine blk_alloc ?_ _));refine blk_put (cs:=#[.slice none 0 0]) ?_ 0 _ rfl;(with_reducible repeat (first|refine blk_drewN ?_ _|refine blk_drew ?_|refine blk_alloc ?_ _));exact BK443.out) Try.underlying38 rfl (by kernel_rfl)) rfl ?_
  exact ⟨_,by first|rfl|(simp [errW_none,errW_some] <;> rfl)|(simp [*,errW_none,errW_some] <;> rfl),Kd.V_nil _ _ _ _ _,qS HB⟩
 ·rw [if_neg c2] at H
  have c2b0 : decide (128 < (l0.length : Int)) = false:=decide_eq_false c2
  have c2b1 : decide (128 < l0.length) = false:=decide_eq_false (by omega)
  clear c2
  obtain ⟨ji5,hji5⟩ : ∃ j_ : Int,(wrap64 (Int.tdiv (wrap64 ((l0.length : Int) + 3)) 4)) = j_:=⟨_,rfl⟩
  (first|rw [hji5] at H|simp only [hji5] at H)
  have hji5w : (IntKind.i64.wrap (Int.tdiv (wrap64 ((l0.length : Int) + 3)) 4)) = ji5:=(i64_w _).trans hji5
  by_cases c6 : 0 ≤ (ji5)
  ·rw [if_pos c6] at H
   have c6b0:=eq_true c6
   have c6b1 : decide (0 ≤ (ji5)) = true:=decide_eq_true c6
   clear c6
   by_cases c7 : (ji5 : Int).toNat ≤ 70368744177664
   ·rw [if_pos c7] at H
    have c7b0:=eq_true c7
    have c7b1 : decide ((ji5 : Int).toNat ≤ 70368744177664) = true:=decide_eq_true c7
    clear c7
    obtain ⟨y444,hy444⟩ : ∃ y_ : List Int,y_ = (List.replicate (ji5 : Int).toNat 0):=⟨_,rfl⟩
    replace H : (nat_FromBytes.l0 k l0 y444 (l0.length : Int) 0) = some (r1,r2):=by first|(rw [hy444];with_reducible exact H)|(have H2_:=(Option.bind_some _ _).symm.trans H;rw [hy444];with_reducible exact H2_)|(have H2_:=(Option.bind_some _ _).symm.trans H;with_reducible exact H2_)|with_reducible exact H|(rw [hy444];exact H)|exact H
    have Ny444:=Aside0.mk hy444
    clear hy444
    have H':=Aside0.mk H
    clear H
    go_enter Try.func35,Try.ntmps35
    go_wp2_with (first|((with_reducible refine gate_dst (N:=2) rfl ?_);refine qX #[.slice none 0 0] 38 ?_;intro gb443 hg w8 hbox hb;have BK443:=Aside0.mk hbox;have GE443:=qh hg HB;replace HB:=qs HB hb;clear hb hbox hg)|((with_reducible refine gate_dst (N:=15) rfl ?_);refine Kd.R_make (Kd.int .u32) _ 23 rfl (N:=15) rfl 36 _ _ rfl ji5 rfl rfl Try.underlying36 (.int .u32 0) 4 info23 rfl (by decide) (by omega) 0 (ok:=fun _ => True) (okp:=fun _ => True) rfl (fun _ hk => hk) trivial (od) (Nat.le_trans (Nat.mul_le_mul_right _ (od : ji5.toNat ≤ 70368744177664)) (by omega)) (Below.refl _ _) (Nat.le_refl _) ?_;intro v445 w9 ho10 hb hg_ hnew_;clear hg_ hnew_;(first|rw [← Ny444.out] at ho10|(simp only [Int.reduceToNat] at ho10;rw [← Ny444.out] at ho10));have HO446:=Aside0.mk (Kd.R_lower (Kd.R_newM (M:=fun k_ => (w.heap.size ≤ k_)) ho10 (below_size (qS HB)) (fun k_ h_ => h_)) (below_size (qS HB)));replace BK443:=qb BK443 hb;replace HB:=qs HB hb;clear hb ho10))
    go_loopg [18] k (fun kq v18 w' => ∃ (x4_1 : List Int) (x18_1 : Int),v18 = .int .i64 x18_1 ∧ Aside0 (nat_FromBytes.l0 kq l0 x4_1 (l0.length : Int) x18_1 = some (r1,r2)) ∧ Aside0 (kq ≤ k) ∧ Aside0 (Kd.R (Kd.int .u32) 23 w' w.heap.size (fun k_ => (w.heap.size ≤ k_)) v445 x4_1) ∧ Aside0 (w'.heap[gb443]? = some (.cells #[(.slice none 0 0)] 38 (0,0))) ∧ Aside0 (Below w.heap.size w w'))
    case atStart => exact ⟨(y444),(0),(by first|rfl|(simp;done)|(simp [*];done)),H',⟨Nat.le_refl _⟩,⟨qRm HO446⟩,⟨qB BK443.out⟩,⟨qS HB⟩⟩
    case round =>
     clear H'
     try clear c2
     try clear c2b0
     try clear c2b1
     try clear p2
     try clear c3
     try clear c6
     try clear c6b0
     try clear c6b1
     try clear p6
     try clear c7
     try clear c7b0
     try clear c7b1
     try clear hcz4_0
     try clear hfz4_0
     obtain ⟨x4_1,x18_1,rfl,HA,HK1,HO_4,BK443,HB⟩:=hrel
     cases gk with
     |zero => exact absurd HA.out (by simp [nat_FromBytes.l0])
     |succ k1 =>
      have H:=HA.out
      clear HA
      simp only [nat_FromBytes.l0] at H
      by_cases c11 : x18_1 < (l0.length : Int)
      ·rw [if_pos c11] at H
       have c11b0 : decide (x18_1 < (l0.length : Int)) = true:=decide_eq_true c11
       clear c11
       obtain ⟨ji12,hji12⟩ : ∃ j_ : Int,(wrap64 ((wrap64 ((l0.length : Int) - 1)) - x18_1)) = j_:=⟨_,rfl⟩
       (first|rw [hji12] at H|simp only [hji12] at H)
       have hji12w : (IntKind.i64.wrap ((wrap64 ((l0.length : Int) - 1)) - x18_1)) = ji12:=(i64_w _).trans hji12
       by_cases c13 : 0 ≤ (ji12)
       ·rw [if_pos c13] at H
        have c13b0 : decide (0 ≤ (ji12)) = true:=decide_eq_true c13
        clear c13
        by_cases c14 : (ji12) < (l0.length : Int)
        ·rw [if_pos c14] at H
         have c14b0 : decide ((ji12) < (l0.length : Int)) = true:=decide_eq_true c14
         clear c14
         obtain ⟨ji15,hji15⟩ : ∃ j_ : Int,(wrap64 (Int.tdiv x18_1 4)) = j_:=⟨_,rfl⟩
         (first|rw [hji15] at H|simp only [hji15] at H)
         have hji15w : (IntKind.i64.wrap (Int.tdiv x18_1 4)) = ji15:=(i64_w _).trans hji15
         by_cases c16 : 0 ≤ (ji15)
         ·rw [if_pos c16] at H
          have c16b0 : decide (0 ≤ (ji15)) = true:=decide_eq_true c16
          clear c16
          by_cases c17 : (ji15) < (x4_1.length : Int)
          ·rw [if_pos c17] at H
           have c17b0 : decide ((ji15) < (x4_1.length : Int)) = true:=decide_eq_true c17
           clear c17
           obtain ⟨ji18,hji18⟩ : ∃ j_ : Int,(wrap64 (8 * (Int.tmod x18_1 4))) = j_:=⟨_,rfl⟩
           (first|rw [hji18] at H|simp only [hji18] at H)
           have hji18w : (IntKind.i64.wrap (8 * (Int.tmod x18_1 4))) = ji18:=(i64_w _).trans hji18
           by_cases c19 : 0 ≤ (ji18)
           ·rw [if_pos c19] at H
            have c19b0:=eq_true c19
            have c19b1 : decide (0 ≤ (ji18)) = true:=decide_eq_true c19
            clear c19
            obtain ⟨ji20,hji20⟩ : ∃ j_ : Int,(shl .u32 ((rd l0 (ji12)) % 4294967296) (ji18)) = j_:=⟨_,rfl⟩
            (first|rw [hji20] at H|simp only [hji20] at H)
            have hji20_ : (IntKind.u32.wrap (((rd l0 (ji12)) % 4294967296) * 2 ^ min (ji18).toNat 32)) = ji20:=hji20
            have hji20m : ((rd l0 (ji12)) % 4294967296) * 2 ^ min (ji18).toNat 32 % 4294967296 = ji20:=hji20_
            have hji20z : (ji18) ≤ 32 → (IntKind.u32.wrap (((rd l0 (ji12)) % 4294967296) * 2 ^ (ji18).toNat)) = ji20:=shl_small hji20
            obtain ⟨y449,hy449⟩ : ∃ y_ : List Int,y_ = (x4_1.set ((ji15) : Int).toNat (Go.bits .or .u32 (rd x4_1 (ji15)) (ji20))):=⟨_,rfl⟩
            replace H : (nat_FromBytes.l0 k1 l0 y449 (l0.length : Int) (wrap64 (x18_1 + 1))) = some (r1,r2):=by first|(rw [hy449];with_reducible exact H)|(have H2_:=(Option.bind_some _ _).symm.trans H;rw [hy449];with_reducible exact H2_)|(have H2_:=(Option.bind_some _ _).symm.trans H;with_reducible exact H2_)|with_reducible exact H|(rw [hy449];exact H)|exact H
            have Ny449:=Aside0.mk hy449
            clear hy449
            have H':=Aside0.mk H
            clear H
            have p447 : 0 ≤ ((ji12) : Int):=od
            have q447 : (ji12) < (l0.length : Int):=od
            obtain ⟨ad447,e447,hx447_0⟩:=Kd.at_int HR0.out (ji12) p447 q447
            cases e447
            replace hx447_0:=(HB.out.cell (World.block_lt_of_cell? w _ hx447_0)).trans hx447_0
            replace p447:=eq_true p447
            replace q447:=eq_true q447
            try go_wp2
            replace HO_4:=qRw HO_4
            replace BK443:=qbd BK443
            replace HB:=qsd HB
            obtain ⟨Ao23,co23,eo23⟩:=Kd.R_slice HO_4.out
            (first|subst eo23|(injection eo23 with f1_ f2_ f3_;have f4_:=f1_.symm;have f5_:=f3_.symm;clear f1_ f2_ f3_;subst f4_;subst f5_))
            have p448 : 0 ≤ ((ji15) : Int):=od
            have q448 : (ji15) < (x4_1.length : Int):=od
            obtain ⟨ad448,e448,hx448_0⟩:=Kd.at_int (Kd.R_reads' HO_4.out).2.2 (ji15) p448 q448
            cases e448
            replace p448:=eq_true p448
            replace q448:=eq_true q448
            have p21 : 0 ≤ ((ji15) : Int):=od
            have q21 : ((ji15) : Int) < ((x4_1.length : Int) : Int):=od
            obtain ⟨go21,co21,eo21,gb21,gl21,cl21,HG21⟩:=Kd.R_form HO_4.out (by omega)
            (first|cases eo21|(injection eo21 with ea_ en_ ec_;(first|subst ea_|(injection ea_ with ea_;subst ea_));subst ec_;clear en_))
            have GB21:=Aside0.mk gb21
            have GG21:=Aside0.mk HG21
            clear gb21 gl21 HG21
            (first|simp only [add_plain] at hx448_0|skip)
            obtain ⟨hx21_0,hf21_0⟩:=Kd.R_celln 0 HO_4.out ((ji15) : Int) p21 q21
            replace p21:=eq_true p21
            replace q21:=eq_true q21
            have HP24:=Kd.R_putn HO_4.out ((ji15) : Int) (Go.bits .or .u32 (rd x4_1 (ji15)) (ji20))
            rw [← Ny449.out] at HP24
            have HQ24:=Aside0.mk HP24
            clear HP24
            refine start_ (n:=14) (S:=fun w' => w'.cell? ⟨go21,((ji15)).toNat,none⟩ = some (.int .u32 (rd x4_1 (ji15)))) (ds:=[13]) #[false,false,false,false,false,false,false,false,false,false,false,false,false,false] (by kernel_rfl) rfl rfl (hx448_0) (fun hHeld => ?_);refine with_tabW nat_FromBytes.tab8 nat_FromBytes.bits8 (fun HT_ HW_ => ?_)
            generalize wr.drew = w22 at HO_4 BK443 HB GG21 HQ24 hf21_0 hx21_0 hx448_0 hHeld ⊢
            refine qP 0 29 HT_ ?_
            refine qP 1 30 HT_ ?_
            refine qP 2 31 HT_ ?_
            refine qP 3 32 HT_ ?_
            refine qP 5 34 HT_ ?_
            refine qP 6 35 HT_ ?_
            refine qP 7 36 HT_ ?_
            refine qP 8 37 HT_ ?_
            refine qP 9 38 HT_ ?_
            refine qP 10 39 HT_ ?_
            refine qT 4 33 HT_ HW_ hHeld ?_
            refine qP 11 40 HT_ ?_
            refine qP 12 41 HT_ ?_
            refine last_ (i:=13) (N:=none) #[true,true,true,true,true,true,true,true,true,true,true,true,true,true] rfl rfl (one_of HT_.out (by kernel_rfl)) (by decide) (fun K hK => ?_)
            refine skip_ (w1:=?_) (by rfl) rfl ?_ ?_
            rotate_left
            ·go_simp
             rfl
            refine hK.out _ _ ?_
            clear hK K
            refine qD HT_ ?_
            try go_wp2
            go_roundg k1
            case measure => have:=HK1.out;omega
            case rel => exact ⟨(y449),(wrap64 (x18_1 + 1)),(by first|rfl|(simp;done)|(simp [*];done)),H',⟨by have:=HK1.out;omega⟩,⟨by (with_reducible repeat (first|apply Kd.R_alloc|apply Kd.R_drewN|apply Kd.R_drew));(first|exact HQ24.out|(rw [hji20m];exact HQ24.out))⟩,⟨by (with_reducible repeat (first|refine blk_drewN ?_ _|refine blk_drew ?_|refine blk_alloc ?_ _));refine blk_far ?_ (by have h_:=Kd.R_ne HO_4.out BK443.out (by decide);intro e_;exact h_ (by rw [e_];rfl)) _;(with_reducible repeat (first|refine blk_drewN ?_ _|refine blk_drew ?_|refine blk_alloc ?_ _));exact BK443.out⟩,⟨qS HB⟩⟩
           ·rw [if_neg c19] at H
            exact absurd H (by simp)
          ·rw [if_neg c17] at H
           exact absurd H (by simp)
         ·rw [if_neg c16] at H
          exact absurd H (by simp)
        ·rw [if_neg c14] at H
         exact absurd H (by simp)
       ·rw [if_neg c13] at H
        exact absurd H (by simp)
      ·rw [if_neg c11] at H
       have c11b0 : decide (x18_1 < (l0.length : Int)) = false:=decide_eq_false c11
       clear c11
       obtain ⟨t450,A25,H⟩:=qH H
       simp only [Option.some.injEq,Prod.mk.injEq] at H
       obtain ⟨rfl,rfl⟩:=H
       obtain ⟨Ao26,co26,eo26⟩:=Kd.R_slice HO_4.out
       subst eo26
       go_wp2_with (first|((with_reducible refine gate_callee (f:=100) rfl ?_);refine gL (some 44) Try.func100 #[.slice Ao26 x4_1.length co26] ?_;(with_reducible refine (nat_trim.calls k1 (fun k_ => some k_ = (.slice Ao26 x4_1.length co26 : Value).ownBlock) _ _ x4_1 t450 _ ?side1 A25.out).mono ?_);(case side1 => exact Kd.R_V (Kd.R_tight rfl (Kd.R_types (HO_4.out) BK443.out (by decide))));rintro e w27 ⟨v451,rfl,ho0,hb⟩;refine ⟨_,rfl,?_⟩;have HO452:=Aside0.mk (Kd.V_lower (Kd.V_mono (ok':=fun k_ => (w.heap.size ≤ k_) ∧ k_ ≠ gb443) ho0 (fun k_ hk_ => ⟨Or.elim hk_ (fun hs_ => ((Kd.R_types (HO_4.out) BK443.out (by decide)).1 k_ hs_.symm).1) (fun hn_ => (Nat.le_trans (below_size (qS HB)) hn_)),Or.elim hk_ (fun hs_ => ((Kd.R_types (HO_4.out) BK443.out (by decide)).1 k_ hs_.symm).2) (fun hn_ => (Kd.freshB (qB BK443.out) k_ hn_))⟩)) (below_size (qS HB)));replace HO_4:=qRb HO_4 hb;replace BK443:=qb BK443 hb;replace HB:=qs HB hb;clear hb ho0;obtain ⟨Ao28,co28,eo28⟩:=Kd.V_slice HO452.out;subst eo28;have hcz29_0:=bc BK443;have hfz29_0:=bz BK443))
       refine bodyPost_ret (results_ct rfl _ _ gb443 38 #[.slice Ao28 t450.length co28] (0,0) _ rfl (by (with_reducible repeat (first|refine blk_drewN ?_ _|refine blk_drew ?_|refine blk_alloc ?_ _));refine blk_put (cs:=#[.slice none 0 0]) ?_ 0 _ rfl;(with_reducible repeat (first|refine blk_drewN ?_ _|refine blk_drew ?_|refine blk_alloc ?_ _));exact BK443.out) Try.underlying38 rfl (by kernel_rfl)) rfl ?_
       exact ⟨_,by first|rfl|(simp [errW_none,errW_some] <;> rfl)|(simp only [← hji5];first|rfl|(simp [errW_none,errW_some] <;> rfl))|(simp [*,errW_none,errW_some] <;> rfl),qVm HO452,qS HB⟩
   ·rw [if_neg c7] at H
    exact absurd H (by simp)
  ·rw [if_neg c6] at H
   exact absurd H (by simp)
end Go.Proofs.Yteejcpbngnojkaa.P
end
section
namespace Go.Proofs.Yteejcpbngnojkaa.P
open Go.RowKit Go.Proofs.YteejcpbngnojkaaW.PrintWords Go.Proofs.YteejcpbngnojkaaW.PrintLast Go.Proofs.YteejcpbngnojkaaW.PrintMore
attribute [local go_sem] max2_int min2_int max_two min_two max_three min_three max_four min_four
set_option linter.unusedVariables false
set_option linter.unusedSimpArgs false
def sacristylaw01_Num.f (k : Nat) (l0 : List Int) : Option (List Int):=if 0 ≤ (mn (l0.length : Int) 48) then (if (mn (l0.length : Int) 48) ≤ (l0.length : Int) then ((nat_FromBytes.f k (l0.take ((mn (l0.length : Int) 48) : Int).toNat)).bind fun bt506 => (some bt506.1)) else (none)) else (none)
theorem sacristylaw01_Num.mono : ∀ a0 k,LeO (sacristylaw01_Num.f k a0) (sacristylaw01_Num.f (k + 1) a0):=by
 intro a0 k
 unfold sacristylaw01_Num.f
 repeat' first
   |(with_reducible exact nat_FromBytes.mono _ _)
   |(with_reducible exact LeO.refl _)
   |(with_reducible exact LeO.none _)
   |(with_reducible refine LeO.ite ?_ ?_)
   |(with_reducible refine LeO.bind ?_ (fun _ => ?_))
   |exact nat_FromBytes.mono _ _
   |exact LeO.none _
   |refine LeO.ite ?_ ?_
   |refine LeO.bind ?_ (fun _ => ?_)
set_option maxHeartbeats 8000000 in
set_option maxRecDepth 100000 in
theorem sacristylaw01_Num.calls (k : Nat) (A0 : Option Addr) (c0 : Nat) (l0 : List Int) (r : List Int) (w : World) (hr0 : Kd.C (Kd.int .u8) w A0 l0.length l0) (hc0 : l0.length ≤ c0) (h : sacristylaw01_Num.f k l0 = some r) :
  Calls Try.prog 40 #[.slice A0 l0.length c0] w fun e w' => ∃ v0_ : Value,e = .returned (.agg #[v0_]) ∧ Kd.V (Kd.int .u32) 23 w' w.heap.size (fun k_ => (w.heap.size ≤ k_)) v0_ r ∧ Below w.heap.size w w':=by
 have hu38:=Try.underlying38
 have HR0:=Aside0.mk hr0
 have HC0:=Aside0.mk hc0
 clear hr0 hc0
 have HB:=Aside0.mk (Below.refl w.heap.size w)
 have H : (if 0 ≤ (mn (l0.length : Int) 48) then (if (mn (l0.length : Int) 48) ≤ (l0.length : Int) then ((nat_FromBytes.f k (l0.take ((mn (l0.length : Int) 48) : Int).toNat)).bind fun bt506 => (some bt506.1)) else (none)) else (none)) = some r:=h
 clear h
 obtain ⟨ji2,hji2⟩ : ∃ j_ : Int,(mn (l0.length : Int) 48) = j_:=⟨_,rfl⟩
 (first|rw [hji2] at H|simp only [hji2] at H)
 (try (have hji2h : ji2 ≤ 48:=by (rw [← hji2];unfold mn;(repeat' split) <;> omega)))
 (try (have hji2g : ji2 ≤ 64:=by omega))
 (try (have hji2l : 0 ≤ ji2:=by (rw [← hji2];unfold mn;(repeat' split) <;> omega)))
 (try (have hji2m : 0 ≤ ji2:=by omega))
 have hji2_ : (if 48 < (l0.length : Int) then 48 else (l0.length : Int)) = ji2:=hji2
 by_cases c3 : 0 ≤ (ji2)
 ·rw [if_pos c3] at H
  have c3b0:=eq_true c3
  have c3b1 : decide (0 ≤ (ji2)) = true:=decide_eq_true c3
  clear c3
  by_cases c4 : (ji2) ≤ (l0.length : Int)
  ·rw [if_pos c4] at H
   have c4b0:=eq_true c4
   have c4b1 : decide ((ji2) ≤ (l0.length : Int)) = true:=decide_eq_true c4
   clear c4
   obtain ⟨⟨t506,t509⟩,A5,H⟩:=qH H
   dsimp only at H
   obtain rfl:=Option.some.inj H
   go_enter Try.func40,Try.ntmps40
   go_wp2_with (first|((with_reducible refine gate_dst (N:=2) rfl ?_);refine qX #[.slice none 0 0] 38 ?_;intro gb504 hg w6 hbox hb;have BK504:=Aside0.mk hbox;have GE504:=qh hg HB;replace HB:=qs HB hb;clear hb hbox hg;obtain ⟨i07,hi07,_,hsz7,_⟩:=info_parts info5;obtain ⟨hcut7,hA7,hC7⟩:=print_take_of (P:=Try.prog) (Value.int .u8) 0 22 5 .i64 Try.underlying22 hi07 hsz7 A0 c0 l0 (ji2) (od) (od) HC0.out;have HR505:=Aside0.mk (Kd.C_of_reads (h1:=fun _ => rfl) (hA7 _ (Kd.reads_of_C HR0.out)));have HC505:=Aside0.mk hC7;clear hA7 hC7 hi07 hsz7)|((with_reducible refine gate_callee (f:=35) rfl ?_);refine goesL_ (some 11) rfl rfl Try.func35 (by kernel_rfl) rfl #[.slice A0 (l0.take ((ji2) : Int).toNat).length c0] rfl (by (try simp only [List.map_toArray,List.map_cons,List.map_nil]);first|done|(rw [show (l0.take ((ji2) : Int).toNat).length = (ji2).toNat from (by rw [List.length_take];have h_ : ((ji2) : Int) ≤ (l0.length : Int):=od;omega)] <;> rfl)|(simp only [hji2];rfl)|rfl|(simp only [List.length_drop,List.length_take];rfl)) ?_;(with_reducible refine (nat_FromBytes.calls k _ _ (l0.take ((ji2) : Int).toNat) t506 t509 _ ?side1 ?side2 A5.out).mono ?_);(case side1 => exact qCB HR505 HB);(case side2 => exact HC505.out);rintro e w8 ⟨v507,rfl,ho0,hb⟩;refine ⟨_,rfl,?_⟩;have HO508:=Aside0.mk (Kd.V_lower (Kd.V_mono (ok':=fun k_ => (w.heap.size ≤ k_) ∧ k_ ≠ gb504) ho0 (fun k_ hk_ => ⟨(Nat.le_trans (below_size (qS HB)) hk_),(Kd.freshB (qB BK504.out) k_ hk_)⟩)) (below_size (qS HB)));replace BK504:=qb BK504 hb;replace HB:=qs HB hb;clear hb ho0)|((with_reducible refine gate_dst (N:=3) rfl ?_);refine qX #[.slice none 0 0] 38 ?_;intro gb510 hg w9 hbox hb;replace HO508:=qVe HO508 hb hg;have BK510:=Aside0.mk hbox;have GE510:=qh hg HB;replace HB:=qs HB hb;have NB504_510:=ql hg BK504;have NB510_504:=qg hg BK504;replace BK504:=qb BK504 hb;clear hb hbox hg;obtain ⟨Ao10,co10,eo10⟩:=Kd.V_slice HO508.out;subst eo10;have hnb11:=NB510_504.out;have hnc11:=NB504_510.out;have hcz12_0:=bc BK510;have hfz12_0:=bz BK510;have hcz13_0:=bc BK504;have hfz13_0:=bz BK504))
   refine bodyPost_ret (results_cell_row rfl _ _ gb504 38 #[.slice Ao10 t506.length co10] (0,0) _ rfl (by (with_reducible repeat (first|refine blk_drewN ?_ _|refine blk_drew ?_|refine blk_alloc ?_ _));refine blk_put (cs:=#[.slice none 0 0]) ?_ 0 _ rfl;(with_reducible repeat (first|refine blk_drewN ?_ _|refine blk_drew ?_|refine blk_alloc ?_ _));refine blk_far ?_ NB504_510.out _;(with_reducible repeat (first|refine blk_drewN ?_ _|refine blk_drew ?_|refine blk_alloc ?_ _));exact BK504.out) Try.underlying38 rfl (by kernel_rfl)) rfl ?_
   exact ⟨_,by first|rfl|(simp [errW_none,errW_some] <;> rfl)|(simp only [← hji2];first|rfl|(simp [errW_none,errW_some] <;> rfl))|(simp [*,errW_none,errW_some] <;> rfl),qVm HO508,qS HB⟩
  ·rw [if_neg c4] at H
   exact absurd H (by simp)
 ·rw [if_neg c3] at H
  exact absurd H (by simp)
end Go.Proofs.Yteejcpbngnojkaa.P
end
section
namespace Go.Proofs.Yteejcpbngnojkaa.P
open Go.RowKit Go.Proofs.YteejcpbngnojkaaW.PrintWords Go.Proofs.YteejcpbngnojkaaW.PrintLast Go.Proofs.YteejcpbngnojkaaW.PrintMore
attribute [local go_sem] max2_int min2_int max_two min_two max_three min_three max_four min_four
set_option linter.unusedVariables false
set_option linter.unusedSimpArgs false
def sacristyref01_Trim.l0 : Nat → List Bool → Option (List Bool)
 |0,_ => none
 |k + 1,x0 => if (x0.length : Int) > 0 then (if 0 ≤ (wrap64 ((x0.length : Int) - 1)) then (if (wrap64 ((x0.length : Int) - 1)) < (x0.length : Int) then (if (rdOf false x0 (wrap64 ((x0.length : Int) - 1)) = true) then (some x0) else (if (wrap64 ((x0.length : Int) - 1)) ≤ (x0.length : Int) then (sacristyref01_Trim.l0 k (x0.take ((wrap64 ((x0.length : Int) - 1)) : Int).toNat)) else (none))) else (none)) else (none)) else (some x0)
def sacristyref01_Trim.f (k : Nat) (l0 : List Bool) : Option (List Bool):=sacristyref01_Trim.l0 k l0
theorem sacristyref01_Trim.mono_l : ∀ k,(∀ y0,LeO (sacristyref01_Trim.l0 k y0) (sacristyref01_Trim.l0 (k + 1) y0))
 |0 => fun _ r h => by simp [sacristyref01_Trim.l0] at h
 |k + 1 => by
  have ih0:=sacristyref01_Trim.mono_l k
  ·intro y0
   unfold sacristyref01_Trim.l0
   repeat' first
   |(with_reducible exact ih0 _)
   |(with_reducible exact LeO.refl _)
   |(with_reducible exact LeO.none _)
   |(with_reducible refine LeO.ite ?_ ?_)
   |(with_reducible refine LeO.bind ?_ (fun _ => ?_))
   |exact ih0 _
   |exact LeO.none _
   |refine LeO.ite ?_ ?_
   |refine LeO.bind ?_ (fun _ => ?_)
theorem sacristyref01_Trim.mono : ∀ a0 k,LeO (sacristyref01_Trim.f k a0) (sacristyref01_Trim.f (k + 1) a0):=by
 intro a0 k
 have ih0:=sacristyref01_Trim.mono_l k
 unfold sacristyref01_Trim.f
 repeat' first
   |(with_reducible exact ih0 _)
   |(with_reducible exact LeO.refl _)
   |(with_reducible exact LeO.none _)
   |(with_reducible refine LeO.ite ?_ ?_)
   |(with_reducible refine LeO.bind ?_ (fun _ => ?_))
   |exact ih0 _
   |exact LeO.none _
   |refine LeO.ite ?_ ?_
   |refine LeO.bind ?_ (fun _ => ?_)
set_option maxHeartbeats 8000000 in
set_option maxRecDepth 100000 in
theorem sacristyref01_Trim.calls (k : Nat) (P0_ : Nat → Prop) (A0 : Option Addr) (c0 : Nat) (l0 : List Bool) (r : List Bool) (w : World) (hs0 : Kd.V Kd.bool 4 w w.heap.size (fun k_ => P0_ k_) (.slice A0 l0.length c0) l0) (h : sacristyref01_Trim.f k l0 = some r) :
  Calls Try.prog 111 #[.slice A0 l0.length c0] w fun e w' => ∃ v0_ : Value,e = .returned (v0_) ∧ Kd.V Kd.bool 4 w' w.heap.size (fun k_ => (P0_ k_ ∨ w.heap.size ≤ k_)) v0_ r ∧ Below w.heap.size w w':=by
 have HO0:=Aside0.mk (show Kd.V Kd.bool 4 w w.heap.size (fun k_ => (P0_ k_ ∨ w.heap.size ≤ k_)) (.slice A0 l0.length c0) l0 from Kd.V_mono hs0 (fun k_ hk => .inl hk))
 have HB:=Aside0.mk (Below.refl w.heap.size w)
 have H : (sacristyref01_Trim.l0 k l0) = some r:=h
 clear h
 have H':=Aside0.mk H
 clear H
 go_enter Try.func111,Try.ntmps111
 go_wp2
 go_loopg [0] k (fun kq v0 w' => ∃ (x0_1 : List Bool),Aside0 (sacristyref01_Trim.l0 kq x0_1 = some r) ∧ Aside0 (kq ≤ k) ∧ Aside0 (Kd.V Kd.bool 4 w' w.heap.size (fun k_ => (P0_ k_ ∨ w.heap.size ≤ k_)) v0 x0_1) ∧ Aside0 (Below w.heap.size w w'))
 case atStart => exact ⟨(l0),H',⟨Nat.le_refl _⟩,⟨qVm HO0⟩,⟨qS HB⟩⟩
 case round =>
  clear H'
  try clear c1
  obtain ⟨x0_1,HA,HK1,HO_0,HB⟩:=hrel
  cases gk with
  |zero => exact absurd HA.out (by simp [sacristyref01_Trim.l0])
  |succ k1 =>
   have H:=HA.out
   clear HA
   simp only [sacristyref01_Trim.l0] at H
   by_cases c2 : (x0_1.length : Int) > 0
   ·rw [if_pos c2] at H
    have c2b0 : decide (0 < (x0_1.length : Int)) = true:=decide_eq_true c2
    have c2b1 : decide (0 < x0_1.length) = true:=decide_eq_true (by omega)
    clear c2
    obtain ⟨ji3,hji3⟩ : ∃ j_ : Int,(wrap64 ((x0_1.length : Int) - 1)) = j_:=⟨_,rfl⟩
    (first|rw [hji3] at H|simp only [hji3] at H)
    have hji3w : (IntKind.i64.wrap ((x0_1.length : Int) - 1)) = ji3:=(i64_w _).trans hji3
    by_cases c4 : 0 ≤ (ji3)
    ·rw [if_pos c4] at H
     have c4b0 : decide (0 ≤ (ji3)) = true:=decide_eq_true c4
     clear c4
     by_cases c5 : (ji3) < (x0_1.length : Int)
     ·rw [if_pos c5] at H
      have c5b0 : decide ((ji3) < (x0_1.length : Int)) = true:=decide_eq_true c5
      clear c5
      obtain ⟨bq6,hbq6⟩ : ∃ b_ : Bool,b_ = (rdOf false x0_1 (ji3)):=⟨_,rfl⟩
      replace H : (if (bq6 = true) then (some x0_1) else (if (ji3) ≤ (x0_1.length : Int) then (sacristyref01_Trim.l0 k1 (x0_1.take ((ji3) : Int).toNat)) else (none))) = some r:=by rw [← hbq6] at H;exact H
      have Nbq6:=Aside0.mk hbq6
      clear hbq6
      by_cases c7 : (bq6 = true)
      ·subst c7
       rw [if_pos rfl] at H
       obtain rfl:=Option.some.inj H
       obtain ⟨Ao8,co8,eo8⟩:=Kd.V_slice HO_0.out
       subst eo8
       have p453 : 0 ≤ ((ji3) : Int):=od
       have q453 : (ji3) < (x0_1.length : Int):=od
       obtain ⟨ad453,e453,hx453_0⟩:=Kd.at_bool (Kd.V_reads' HO_0.out).2.2 (ji3) p453 q453
       (try rw [← Nbq6.out] at hx453_0)
       cases e453
       replace p453:=eq_true p453
       replace q453:=eq_true q453
       go_wp2
       (first|go_ret|(refine ⟨_,results_tmp rfl _ _ _,?_⟩))
       exact ⟨_,by first|rfl|(simp [errW_none,errW_some] <;> rfl)|(simp only [← hji3];first|rfl|(simp [errW_none,errW_some] <;> rfl))|(simp [*,errW_none,errW_some] <;> rfl),qVm HO_0,qS HB⟩
      ·replace c7:=Bool.eq_false_iff.mpr c7
       subst c7
       rw [qFT] at H
       have c9b0:=eq_true (od : 0 ≤ (ji3))
       by_cases c10 : (ji3) ≤ (x0_1.length : Int)
       ·rw [if_pos c10] at H
        have c10b0:=eq_true c10
        have c10b1 : decide ((ji3) ≤ (x0_1.length : Int)) = true:=decide_eq_true c10
        clear c10
        obtain ⟨y454,hy454⟩ : ∃ y_ : List Bool,y_ = (x0_1.take ((ji3) : Int).toNat):=⟨_,rfl⟩
        replace H : (sacristyref01_Trim.l0 k1 y454) = some r:=by first|(rw [hy454];with_reducible exact H)|(have H2_:=(Option.bind_some _ _).symm.trans H;rw [hy454];with_reducible exact H2_)|(have H2_:=(Option.bind_some _ _).symm.trans H;with_reducible exact H2_)|with_reducible exact H|(rw [hy454];exact H)|exact H
        have Ny454:=Aside0.mk hy454
        clear hy454
        have H':=Aside0.mk H
        clear H
        obtain ⟨Ao11,co11,eo11⟩:=Kd.V_slice HO_0.out
        subst eo11
        have p453 : 0 ≤ ((ji3) : Int):=od
        have q453 : (ji3) < (x0_1.length : Int):=od
        obtain ⟨ad453,e453,hx453_0⟩:=Kd.at_bool (Kd.V_reads' HO_0.out).2.2 (ji3) p453 q453
        (try rw [← Nbq6.out] at hx453_0)
        cases e453
        replace p453:=eq_true p453
        replace q453:=eq_true q453
        have q12 : ((ji3) : Int) ≤ ((x0_1.length : Int) : Int):=od
        obtain ⟨i012,hi012,_,hsz12,_⟩:=info_parts info4
        have hroom12 : x0_1.length ≤ co11:=(Kd.V_reads' HO_0.out).2.1
        have hC12 : Kd.F Kd.bool _ _ (some ad453) x0_1.length x0_1:=(Kd.V_at (base:=w.heap.size) HO_0.out).2.2
        have hcut12:=cut_to (P:=Try.prog) 42 4 .i64 Try.underlying42 hi012 (some ad453) x0_1.length co11 (ji3) (od) q12 hroom12
        have hr12:=Kd.F_take (m:=((ji3) : Int).toNat) hC12 (by omega)
        have hy12 : y454.length = ((ji3) : Int).toNat:=(by rw [Ny454.out,List.length_take];omega)
        rw [← Ny454.out] at hr12
        rw [← hy12] at hcut12
        have HO458:=Aside0.mk (show Kd.V Kd.bool 4 _ w.heap.size _ (.slice (some ad453) y454.length co11) y454 from Kd.V_mk (by omega) hr12)
        have HC458:=Aside0.mk (show y454.length ≤ co11 from by omega)
        clear hr12 hC12 hroom12 hi012 hsz12
        have KY12:=Aside0.mk hy12
        clear hy12
        replace q12:=eq_true q12
        go_wp2
        go_roundg k1
        case measure => have:=HK1.out;omega
        case rel => exact ⟨(y454),H',⟨by have:=HK1.out;omega⟩,⟨qVm HO458⟩,⟨qS HB⟩⟩
       ·rw [if_neg c10] at H
        exact absurd H (by simp)
     ·rw [if_neg c5] at H
      exact absurd H (by simp)
    ·rw [if_neg c4] at H
     exact absurd H (by simp)
   ·rw [if_neg c2] at H
    have c2b0 : decide (0 < (x0_1.length : Int)) = false:=decide_eq_false c2
    have c2b1 : decide (0 < x0_1.length) = false:=decide_eq_false (by omega)
    clear c2
    obtain rfl:=Option.some.inj H
    obtain ⟨Ao13,co13,eo13⟩:=Kd.V_slice HO_0.out
    subst eo13
    go_wp2
    (first|go_ret|(refine ⟨_,results_tmp rfl _ _ _,?_⟩))
    exact ⟨_,by first|rfl|(simp [errW_none,errW_some] <;> rfl)|(simp [*,errW_none,errW_some] <;> rfl),qVm HO_0,qS HB⟩
end Go.Proofs.Yteejcpbngnojkaa.P
end
section
namespace Go.Proofs.Yteejcpbngnojkaa.P
open Go.RowKit Go.Proofs.YteejcpbngnojkaaW.PrintWords Go.Proofs.YteejcpbngnojkaaW.PrintLast Go.Proofs.YteejcpbngnojkaaW.PrintMore
attribute [local go_sem] max2_int min2_int max_two min_two max_three min_three max_four min_four
set_option linter.unusedVariables false
set_option linter.unusedSimpArgs false
mutual
def sacristyref01_Of.l0 : Nat → List Int → List Bool → Int → Option (List Bool)
 |0,_,_,_ => none
 |k + 1,x0,x3,x4 => if x4 ≥ 0 then (sacristyref01_Of.l1 k x0 x3 x4 0) else ((sacristyref01_Trim.f k x3).bind fun t462 => (some t462))
def sacristyref01_Of.l1 : Nat → List Int → List Bool → Int → Int → Option (List Bool)
 |0,_,_,_,_ => none
 |k + 1,x0,x3,x4,x5 => if x5 < 8 then (if 0 ≤ x4 then (if x4 < (x0.length : Int) then (if 0 ≤ x5 then (if x3.length < 140737488355328 then (sacristyref01_Of.l1 k x0 (x3 ++ [((Int.tmod (shr .u8 (rd x0 x4) x5) 2) == 1)]) x4 (wrap64 (x5 + 1))) else (none)) else (none)) else (none)) else (none)) else (sacristyref01_Of.l0 k x0 x3 (wrap64 (x4 - 1)))
end
def sacristyref01_Of.f (k : Nat) (l0 : List Int) : Option (List Bool):=sacristyref01_Of.l0 k l0 (([] : List Bool)) (wrap64 ((l0.length : Int) - 1))
theorem sacristyref01_Of.mono_l : ∀ k,(∀ y0 y1 y2,LeO (sacristyref01_Of.l0 k y0 y1 y2) (sacristyref01_Of.l0 (k + 1) y0 y1 y2)) ∧ (∀ y0 y1 y2 y3,LeO (sacristyref01_Of.l1 k y0 y1 y2 y3) (sacristyref01_Of.l1 (k + 1) y0 y1 y2 y3))
 |0 => ⟨fun _ _ _ r h => by simp [sacristyref01_Of.l0] at h,fun _ _ _ _ r h => by simp [sacristyref01_Of.l1] at h⟩
 |k + 1 => by
  obtain ⟨ih0,ih1⟩:=sacristyref01_Of.mono_l k
  refine ⟨?_,?_⟩
  ·intro y0 y1 y2
   unfold sacristyref01_Of.l0
   repeat' first
   |(with_reducible exact ih0 _ _ _)
   |(with_reducible exact ih1 _ _ _ _)
   |(with_reducible exact sacristyref01_Trim.mono _ _)
   |(with_reducible exact LeO.refl _)
   |(with_reducible exact LeO.none _)
   |(with_reducible refine LeO.ite ?_ ?_)
   |(with_reducible refine LeO.bind ?_ (fun _ => ?_))
   |exact ih0 _ _ _
   |exact ih1 _ _ _ _
   |exact sacristyref01_Trim.mono _ _
   |exact LeO.none _
   |refine LeO.ite ?_ ?_
   |refine LeO.bind ?_ (fun _ => ?_)
  ·intro y0 y1 y2 y3
   unfold sacristyref01_Of.l1
   repeat' first
   |(with_reducible exact ih0 _ _ _)
   |(with_reducible exact ih1 _ _ _ _)
   |(with_reducible exact sacristyref01_Trim.mono _ _)
   |(with_reducible exact LeO.refl _)
   |(with_reducible exact LeO.none _)
   |(with_reducible refine LeO.ite ?_ ?_)
   |(with_reducible refine LeO.bind ?_ (fun _ => ?_))
   |exact ih0 _ _ _
   |exact ih1 _ _ _ _
   |exact sacristyref01_Trim.mono _ _
   |exact LeO.none _
   |refine LeO.ite ?_ ?_
   |refine LeO.bind ?_ (fun _ => ?_)
theorem sacristyref01_Of.mono : ∀ a0 k,LeO (sacristyref01_Of.f k a0) (sacristyref01_Of.f (k + 1) a0):=by
 intro a0 k
 obtain ⟨ih0,ih1⟩:=sacristyref01_Of.mono_l k
 unfold sacristyref01_Of.f
 repeat' first
   |(with_reducible exact ih0 _ _ _)
   |(with_reducible exact ih1 _ _ _ _)
   |(with_reducible exact sacristyref01_Trim.mono _ _)
   |(with_reducible exact LeO.refl _)
   |(with_reducible exact LeO.none _)
   |(with_reducible refine LeO.ite ?_ ?_)
   |(with_reducible refine LeO.bind ?_ (fun _ => ?_))
   |exact ih0 _ _ _
   |exact ih1 _ _ _ _
   |exact sacristyref01_Trim.mono _ _
   |exact LeO.none _
   |refine LeO.ite ?_ ?_
   |refine LeO.bind ?_ (fun _ => ?_)
set_option maxHeartbeats 8000000 in
set_option maxRecDepth 100000 in
theorem sacristyref01_Of.calls (k : Nat) (A0 : Option Addr) (c0 : Nat) (l0 : List Int) (r : List Bool) (w : World) (hr0 : Kd.C (Kd.int .u8) w A0 l0.length l0) (hc0 : l0.length ≤ c0) (h : sacristyref01_Of.f k l0 = some r) :
  Calls Try.prog 101 #[.slice A0 l0.length c0] w fun e w' => ∃ v0_ : Value,e = .returned (v0_) ∧ Kd.V Kd.bool 4 w' w.heap.size (fun k_ => (w.heap.size ≤ k_)) v0_ r ∧ Below w.heap.size w w':=by
 have HR0:=Aside0.mk hr0
 have HC0:=Aside0.mk hc0
 clear hr0 hc0
 have HB:=Aside0.mk (Below.refl w.heap.size w)
 have H : (sacristyref01_Of.l0 k l0 (([] : List Bool)) (wrap64 ((l0.length : Int) - 1))) = some r:=h
 clear h
 obtain ⟨y459,hy459⟩ : ∃ y_ : List Bool,y_ = (([] : List Bool)):=⟨_,rfl⟩
 replace H : (sacristyref01_Of.l0 k l0 y459 (wrap64 ((l0.length : Int) - 1))) = some r:=by first|(rw [hy459];with_reducible exact H)|(have H2_:=(Option.bind_some _ _).symm.trans H;rw [hy459];with_reducible exact H2_)|(have H2_:=(Option.bind_some _ _).symm.trans H;with_reducible exact H2_)|with_reducible exact H|(rw [hy459];exact H)|exact H
 have Ny459:=Aside0.mk hy459
 clear hy459
 have H':=Aside0.mk H
 clear H
 go_enter Try.func101,Try.ntmps101
 go_wp2_with (first|((with_reducible refine gate_dst (N:=6) rfl ?_);refine Kd.R_lit Kd.bool _ 4 ?hg (N:=6) ?hd (xs:=([] : List Bool)) (inner:=[]) (ok:=fun _ => True) (okp:=fun _ => True) ?hr ?hp (fun _ hk => hk) trivial (Below.refl _ _) (Nat.le_refl _) (by simp) ?_;(case hd => rfl);(case hg => rfl);(case hr => first|(go_simp;done)|(go_simp;rfl));(case hp => exact (Reps.none _ _));intro v460 w2 ho3 hb hg_ hnew_;clear hg_ hnew_;(first|rw [← Ny459.out] at ho3|(simp only [Int.reduceToNat] at ho3;rw [← Ny459.out] at ho3));have HO461:=Aside0.mk (Kd.R_lower (Kd.R_newM (M:=fun k_ => (w.heap.size ≤ k_)) ho3 (below_size (qS HB)) (fun k_ h_ => h_)) (below_size (qS HB)));replace HB:=qs HB hb;clear hb ho3))
 go_loopg [3,4] k (fun kq v3 v4 w' => ∃ (x3_1 : List Bool) (x4_1 : Int),v4 = .int .i64 x4_1 ∧ Aside0 (sacristyref01_Of.l0 kq l0 x3_1 x4_1 = some r) ∧ Aside0 (kq ≤ k) ∧ Aside0 (Kd.R Kd.bool 4 w' w.heap.size (fun k_ => (w.heap.size ≤ k_)) v3 x3_1) ∧ Aside0 (Below w.heap.size w w'))
 case atStart => exact ⟨(y459),(wrap64 ((l0.length : Int) - 1)),(by first|rfl|(simp;done)|(simp [*];done)),H',⟨Nat.le_refl _⟩,⟨qRm HO461⟩,⟨qS HB⟩⟩
 case round =>
  clear H'
  try clear c1
  try clear p2
  obtain ⟨x3_1,x4_1,rfl,HA,HK1,HO_3,HB⟩:=hrel
  cases gk with
  |zero => exact absurd HA.out (by simp [sacristyref01_Of.l0])
  |succ k1 =>
   have H:=HA.out
   clear HA
   simp only [sacristyref01_Of.l0] at H
   by_cases c4 : x4_1 ≥ 0
   ·rw [if_pos c4] at H
    have c4b0 : decide (0 ≤ x4_1) = true:=decide_eq_true c4
    clear c4
    have H':=Aside0.mk H
    clear H
    go_wp2
    go_loopg [3,5] k1 (fun kq v3 v5 w' => ∃ (x3_2 : List Bool) (x5_2 : Int),v5 = .int .i64 x5_2 ∧ Aside0 (sacristyref01_Of.l1 kq l0 x3_2 x4_1 x5_2 = some r) ∧ Aside0 (kq ≤ k1) ∧ Aside0 (Kd.R Kd.bool 4 w' w.heap.size (fun k_ => (w.heap.size ≤ k_)) v3 x3_2) ∧ Aside0 (Below w.heap.size w w'))
    case atStart => exact ⟨(x3_1),(0),(by first|rfl|(simp;done)|(simp [*];done)),H',⟨Nat.le_refl _⟩,⟨qRm HO_3⟩,⟨qS HB⟩⟩
    case round =>
     clear H'
     try clear c1
     try clear p2
     try clear c4
     try clear c4b0
     try clear p2
     obtain ⟨x3_2,x5_2,rfl,HA,HK2,HO_3,HB⟩:=hrel
     cases gk with
     |zero => exact absurd HA.out (by simp [sacristyref01_Of.l1])
     |succ k2 =>
      have H:=HA.out
      clear HA
      simp only [sacristyref01_Of.l1] at H
      by_cases c5 : x5_2 < 8
      ·rw [if_pos c5] at H
       have c5b0 : decide (x5_2 < 8) = true:=decide_eq_true c5
       clear c5
       by_cases c6 : 0 ≤ x4_1
       ·rw [if_pos c6] at H
        have c6b0 : decide (0 ≤ x4_1) = true:=decide_eq_true c6
        clear c6
        by_cases c7 : x4_1 < (l0.length : Int)
        ·rw [if_pos c7] at H
         have c7b0 : decide (x4_1 < (l0.length : Int)) = true:=decide_eq_true c7
         clear c7
         by_cases c8 : 0 ≤ x5_2
         ·rw [if_pos c8] at H
          have c8b0:=eq_true c8
          have c8b1 : decide (0 ≤ x5_2) = true:=decide_eq_true c8
          clear c8
          obtain ⟨ji9,hji9⟩ : ∃ j_ : Int,(shr .u8 (rd l0 x4_1) x5_2) = j_:=⟨_,rfl⟩
          (first|rw [hji9] at H|simp only [hji9] at H)
          have hji9_ : ((rd l0 x4_1) / 2 ^ min x5_2.toNat 8) = ji9:=hji9
          have hji9z : x5_2 ≤ 8 → ((rd l0 x4_1) / 2 ^ x5_2.toNat) = ji9:=shr_small hji9
          by_cases c10 : x3_2.length < 140737488355328
          ·rw [if_pos c10] at H
           have LMc10:=Aside0.mk c10
           clear c10
           obtain ⟨y466,hy466⟩ : ∃ y_ : List Bool,y_ = (x3_2 ++ [((Int.tmod (ji9) 2) == 1)]):=⟨_,rfl⟩
           replace H : (sacristyref01_Of.l1 k2 l0 y466 x4_1 (wrap64 (x5_2 + 1))) = some r:=by first|(rw [hy466];with_reducible exact H)|(have H2_:=(Option.bind_some _ _).symm.trans H;rw [hy466];with_reducible exact H2_)|(have H2_:=(Option.bind_some _ _).symm.trans H;with_reducible exact H2_)|with_reducible exact H|(rw [hy466];exact H)|exact H
           have Ny466:=Aside0.mk hy466
           clear hy466
           have H':=Aside0.mk H
           clear H
           have p465 : 0 ≤ (x4_1 : Int):=od
           have q465 : x4_1 < (l0.length : Int):=od
           obtain ⟨ad465,e465,hx465_0⟩:=Kd.at_int HR0.out x4_1 p465 q465
           cases e465
           replace hx465_0:=(HB.out.cell (World.block_lt_of_cell? w _ hx465_0)).trans hx465_0
           replace p465:=eq_true p465
           replace q465:=eq_true q465
           go_wp2_with (first|((with_reducible refine gate_builtin (b:=.append) (xs:=#[.tmp 18,.tmp 27]) rfl ?_);at_builtin;refine Kd.R_append Kd.bool (w0:=w) w.heap.size rfl (.tmp 18) (.tmp 27) 42 4 (.bool false) 1 rfl Try.underlying42 info4 rfl (by decide) (by omega) u3 x3_2 ((Int.tmod (ji9) 2) == 1) [.bool ((Int.tmod (ji9) 2) == 1)] (fun k_ => (w.heap.size ≤ k_)) (fun _ => False) rfl rfl ?aP (fun _ hk => hk.elim) ?aF ?aO ?aB ?aS ?aL ?_;(case aP => exact rfl);(case aB => exact (qS HB));(case aF => exact (fun k_ hk => (Nat.le_trans (below_size (qS HB)) hk)));(case aO => exact (qRm HO_3));(case aS => exact (below_size (qS HB)));(case aL => have:=LMc10.out;omega);intro v467 w11 ho hb hg hat;rw [← Ny466.out] at ho;replace HB:=Aside0.mk (hb);have HO468:=Aside0.mk (ho);(try clear HO_3);clear ho hb hg hat))
           go_roundg k2
           case measure => have:=HK1.out;have:=HK2.out;omega
           case rel => exact ⟨(y466),(wrap64 (x5_2 + 1)),(by first|rfl|(simp;done)|(simp [*];done)),H',⟨by have:=HK1.out;have:=HK2.out;omega⟩,⟨qRm HO468⟩,⟨qS HB⟩⟩
          ·rw [if_neg c10] at H
           exact absurd H (by simp)
         ·rw [if_neg c8] at H
          exact absurd H (by simp)
        ·rw [if_neg c7] at H
         exact absurd H (by simp)
       ·rw [if_neg c6] at H
        exact absurd H (by simp)
      ·rw [if_neg c5] at H
       have c5b0 : decide (x5_2 < 8) = false:=decide_eq_false c5
       clear c5
       have H':=Aside0.mk H
       clear H
       go_wp2
       go_roundg k2
       case measure => have:=HK1.out;have:=HK2.out;omega
       case rel => exact ⟨(x3_2),(wrap64 (x4_1 - 1)),(by first|rfl|(simp;done)|(simp [*];done)),H',⟨by have:=HK1.out;have:=HK2.out;omega⟩,⟨qRm HO_3⟩,⟨qS HB⟩⟩
   ·rw [if_neg c4] at H
    have c4b0 : decide (0 ≤ x4_1) = false:=decide_eq_false c4
    clear c4
    obtain ⟨t462,A12,H⟩:=qH H
    obtain rfl:=Option.some.inj H
    obtain ⟨Ao13,co13,eo13⟩:=Kd.R_slice HO_3.out
    subst eo13
    go_wp2_with (first|((with_reducible refine gate_callee (f:=111) rfl ?_);refine gL (some 30) Try.func111 #[.slice Ao13 x3_1.length co13] ?_;(with_reducible refine (sacristyref01_Trim.calls k1 (fun k_ => some k_ = (.slice Ao13 x3_1.length co13 : Value).ownBlock) _ _ x3_1 t462 _ ?side1 A12.out).mono ?_);(case side1 => exact Kd.R_V (Kd.R_tight rfl (HO_3.out)));rintro e w14 ⟨v463,rfl,ho0,hb⟩;refine ⟨_,rfl,?_⟩;have HO464:=Aside0.mk (Kd.V_lower (Kd.V_mono (ok':=fun k_ => (w.heap.size ≤ k_)) ho0 (fun k_ hk_ => Or.elim hk_ (fun hs_ => ((HO_3.out).1 k_ hs_.symm)) (fun hn_ => (Nat.le_trans (below_size (qS HB)) hn_)))) (below_size (qS HB)));replace HO_3:=qRb HO_3 hb;replace HB:=qs HB hb;clear hb ho0))
    (first|go_ret|(refine ⟨_,results_tmp rfl _ _ _,?_⟩))
    exact ⟨_,by first|rfl|(simp [errW_none,errW_some] <;> rfl)|(simp [*,errW_none,errW_some] <;> rfl),qVm HO464,qS HB⟩
end Go.Proofs.Yteejcpbngnojkaa.P
end
section
namespace Go.Proofs.Yteejcpbngnojkaa.P
open Go.RowKit Go.Proofs.YteejcpbngnojkaaW.PrintWords Go.Proofs.YteejcpbngnojkaaW.PrintLast Go.Proofs.YteejcpbngnojkaaW.PrintMore
attribute [local go_sem] max2_int min2_int max_two min_two max_three min_three max_four min_four
set_option linter.unusedVariables false
set_option linter.unusedSimpArgs false
def sacristylaw01_ref.f (k : Nat) (l0 : List Int) : Option (List Bool):=if 0 ≤ (mn (l0.length : Int) 48) then (if (mn (l0.length : Int) 48) ≤ (l0.length : Int) then ((sacristyref01_Of.f k (l0.take ((mn (l0.length : Int) 48) : Int).toNat)).bind fun t512 => (some t512)) else (none)) else (none)
theorem sacristylaw01_ref.mono : ∀ a0 k,LeO (sacristylaw01_ref.f k a0) (sacristylaw01_ref.f (k + 1) a0):=by
 intro a0 k
 unfold sacristylaw01_ref.f
 repeat' first
   |(with_reducible exact sacristyref01_Of.mono _ _)
   |(with_reducible exact LeO.refl _)
   |(with_reducible exact LeO.none _)
   |(with_reducible refine LeO.ite ?_ ?_)
   |(with_reducible refine LeO.bind ?_ (fun _ => ?_))
   |exact sacristyref01_Of.mono _ _
   |exact LeO.none _
   |refine LeO.ite ?_ ?_
   |refine LeO.bind ?_ (fun _ => ?_)
set_option maxHeartbeats 8000000 in
set_option maxRecDepth 100000 in
theorem sacristylaw01_ref.calls (k : Nat) (A0 : Option Addr) (c0 : Nat) (l0 : List Int) (r : List Bool) (w : World) (hr0 : Kd.C (Kd.int .u8) w A0 l0.length l0) (hc0 : l0.length ≤ c0) (h : sacristylaw01_ref.f k l0 = some r) :
  Calls Try.prog 41 #[.slice A0 l0.length c0] w fun e w' => ∃ v0_ : Value,e = .returned (v0_) ∧ Kd.V Kd.bool 4 w' w.heap.size (fun k_ => (w.heap.size ≤ k_)) v0_ r ∧ Below w.heap.size w w':=by
 have HR0:=Aside0.mk hr0
 have HC0:=Aside0.mk hc0
 clear hr0 hc0
 have HB:=Aside0.mk (Below.refl w.heap.size w)
 have H : (if 0 ≤ (mn (l0.length : Int) 48) then (if (mn (l0.length : Int) 48) ≤ (l0.length : Int) then ((sacristyref01_Of.f k (l0.take ((mn (l0.length : Int) 48) : Int).toNat)).bind fun t512 => (some t512)) else (none)) else (none)) = some r:=h
 clear h
 obtain ⟨ji2,hji2⟩ : ∃ j_ : Int,(mn (l0.length : Int) 48) = j_:=⟨_,rfl⟩
 (first|rw [hji2] at H|simp only [hji2] at H)
 (try (have hji2h : ji2 ≤ 48:=by (rw [← hji2];unfold mn;(repeat' split) <;> omega)))
 (try (have hji2g : ji2 ≤ 64:=by omega))
 (try (have hji2l : 0 ≤ ji2:=by (rw [← hji2];unfold mn;(repeat' split) <;> omega)))
 (try (have hji2m : 0 ≤ ji2:=by omega))
 have hji2_ : (if 48 < (l0.length : Int) then 48 else (l0.length : Int)) = ji2:=hji2
 by_cases c3 : 0 ≤ (ji2)
 ·rw [if_pos c3] at H
  have c3b0:=eq_true c3
  have c3b1 : decide (0 ≤ (ji2)) = true:=decide_eq_true c3
  clear c3
  by_cases c4 : (ji2) ≤ (l0.length : Int)
  ·rw [if_pos c4] at H
   have c4b0:=eq_true c4
   have c4b1 : decide ((ji2) ≤ (l0.length : Int)) = true:=decide_eq_true c4
   clear c4
   obtain ⟨t512,A5,H⟩:=qH H
   obtain rfl:=Option.some.inj H
   obtain ⟨i06,hi06,_,hsz6,_⟩:=info_parts info5
   obtain ⟨hcut6,hA6,hC6⟩:=print_take_of (P:=Try.prog) (Value.int .u8) 0 22 5 .i64 Try.underlying22 hi06 hsz6 A0 c0 l0 (ji2) (od) (od) HC0.out
   have HR511:=Aside0.mk (Kd.C_of_reads (h1:=fun _ => rfl) (hA6 _ (Kd.reads_of_C HR0.out)))
   have HC511:=Aside0.mk hC6
   clear hA6 hC6 hi06 hsz6
   go_enter Try.func41,Try.ntmps41
   go_wp2_with (first|((with_reducible refine gate_callee (f:=101) rfl ?_);refine goesL_ (some 8) rfl rfl Try.func101 (by kernel_rfl) rfl #[.slice A0 (l0.take ((ji2) : Int).toNat).length c0] rfl (by (try simp only [List.map_toArray,List.map_cons,List.map_nil]);first|done|(rw [show (l0.take ((ji2) : Int).toNat).length = (ji2).toNat from (by rw [List.length_take];have h_ : ((ji2) : Int) ≤ (l0.length : Int):=od;omega)] <;> rfl)|(simp only [hji2];rfl)|rfl|(simp only [List.length_drop,List.length_take];rfl)) ?_;(with_reducible refine (sacristyref01_Of.calls k _ _ (l0.take ((ji2) : Int).toNat) t512 _ ?side1 ?side2 A5.out).mono ?_);(case side1 => exact qC HR511);(case side2 => exact HC511.out);rintro e w7 ⟨v513,rfl,ho0,hb⟩;refine ⟨_,rfl,?_⟩;have HO514:=Aside0.mk (Kd.V_lower (Kd.V_mono (ok':=fun k_ => (w.heap.size ≤ k_)) ho0 (fun k_ hk_ => (Nat.le_trans (below_size (qS HB)) hk_))) (below_size (qS HB)));replace HB:=qs HB hb;clear hb ho0))
   (first|go_ret|(refine ⟨_,results_tmp rfl _ _ _,?_⟩))
   exact ⟨_,by first|rfl|(simp [errW_none,errW_some] <;> rfl)|(simp only [← hji2];first|rfl|(simp [errW_none,errW_some] <;> rfl))|(simp [*,errW_none,errW_some] <;> rfl),qVm HO514,qS HB⟩
  ·rw [if_neg c4] at H
   exact absurd H (by simp)
 ·rw [if_neg c3] at H
  exact absurd H (by simp)
end Go.Proofs.Yteejcpbngnojkaa.P
end
section
namespace Go.Proofs.Yteejcpbngnojkaa.P
open Go.RowKit Go.Proofs.YteejcpbngnojkaaW.PrintWords Go.Proofs.YteejcpbngnojkaaW.PrintLast Go.Proofs.YteejcpbngnojkaaW.PrintMore
attribute [local go_sem] max2_int min2_int max_two min_two max_three min_three max_four min_four
set_option linter.unusedVariables false
set_option linter.unusedSimpArgs false
def sacristyref01_Cmp.l0 : Nat → List Bool → List Bool → Int → Option (Int)
 |0,_,_,_ => none
 |k + 1,x0,x1,x5 => if x5 ≥ 0 then (if 0 ≤ x5 then (if x5 < (x0.length : Int) then (if x5 < (x1.length : Int) then (if ((rdOf false x0 x5) != (rdOf false x1 x5)) = true then (if rdOf false x1 x5 = true then (some (-1)) else (some 1)) else (sacristyref01_Cmp.l0 k x0 x1 (wrap64 (x5 - 1)))) else (none)) else (none)) else (none)) else (some 0)
def sacristyref01_Cmp.f (k : Nat) (l0 : List Bool) (l1 : List Bool) : Option (Int):=if (l0.length : Int) < (l1.length : Int) then (some (-1)) else (if (l0.length : Int) > (l1.length : Int) then (some 1) else (sacristyref01_Cmp.l0 k l0 l1 (wrap64 ((l0.length : Int) - 1))))
theorem sacristyref01_Cmp.mono_l : ∀ k,(∀ y0 y1 y2,LeO (sacristyref01_Cmp.l0 k y0 y1 y2) (sacristyref01_Cmp.l0 (k + 1) y0 y1 y2))
 |0 => fun _ _ _ r h => by simp [sacristyref01_Cmp.l0] at h
 |k + 1 => by
  have ih0:=sacristyref01_Cmp.mono_l k
  ·intro y0 y1 y2
   unfold sacristyref01_Cmp.l0
   repeat' first
   |(with_reducible exact ih0 _ _ _)
   |(with_reducible exact LeO.refl _)
   |(with_reducible exact LeO.none _)
   |(with_reducible refine LeO.ite ?_ ?_)
   |(with_reducible refine LeO.bind ?_ (fun _ => ?_))
   |exact ih0 _ _ _
   |exact LeO.none _
   |refine LeO.ite ?_ ?_
   |refine LeO.bind ?_ (fun _ => ?_)
theorem sacristyref01_Cmp.mono : ∀ a0 a1 k,LeO (sacristyref01_Cmp.f k a0 a1) (sacristyref01_Cmp.f (k + 1) a0 a1):=by
 intro a0 a1 k
 have ih0:=sacristyref01_Cmp.mono_l k
 unfold sacristyref01_Cmp.f
 repeat' first
   |(with_reducible exact ih0 _ _ _)
   |(with_reducible exact LeO.refl _)
   |(with_reducible exact LeO.none _)
   |(with_reducible refine LeO.ite ?_ ?_)
   |(with_reducible refine LeO.bind ?_ (fun _ => ?_))
   |exact ih0 _ _ _
   |exact LeO.none _
   |refine LeO.ite ?_ ?_
   |refine LeO.bind ?_ (fun _ => ?_)
set_option maxHeartbeats 8000000 in
set_option maxRecDepth 100000 in
theorem sacristyref01_Cmp.calls (k : Nat) (A0 : Option Addr) (c0 : Nat) (l0 : List Bool) (A1 : Option Addr) (c1 : Nat) (l1 : List Bool) (r : Int) (w : World) (hr0 : Kd.C Kd.bool w A0 l0.length l0) (hc0 : l0.length ≤ c0) (hr1 : Kd.C Kd.bool w A1 l1.length l1) (hc1 : l1.length ≤ c1) (h : sacristyref01_Cmp.f k l0 l1 = some r) :
  Calls Try.prog 46 #[.slice A0 l0.length c0,.slice A1 l1.length c1] w fun e w' => e = .returned (.int .i64 r) ∧ Drawn0 w w':=by
 have HR0:=Aside0.mk hr0
 have HC0:=Aside0.mk hc0
 clear hr0 hc0
 have HR1:=Aside0.mk hr1
 have HC1:=Aside0.mk hc1
 clear hr1 hc1
 have H : (if (l0.length : Int) < (l1.length : Int) then (some (-1)) else (if (l0.length : Int) > (l1.length : Int) then (some 1) else (sacristyref01_Cmp.l0 k l0 l1 (wrap64 ((l0.length : Int) - 1))))) = some r:=h
 clear h
 by_cases c3 : (l0.length : Int) < (l1.length : Int)
 ·rw [if_pos c3] at H
  have c3b0 : decide ((l0.length : Int) < (l1.length : Int)) = true:=decide_eq_true c3
  have c3b1 : decide (l0.length < l1.length) = true:=decide_eq_true (Int.ofNat_lt.mp c3)
  clear c3
  obtain rfl:=Option.some.inj H
  go_enter Try.func46,Try.ntmps46
  go_wp2
  repeat (go_quiet (fail);try go_wp2)
  (first|go_ret|(refine ⟨_,results_tmp rfl _ _ _,?_⟩))
  exact ⟨by first|rfl|(simp;done)|(simp [*];done),by repeat (first|exact Drawn0.refl _|apply Drawn0.step)⟩
 ·rw [if_neg c3] at H
  have c3b0 : decide ((l0.length : Int) < (l1.length : Int)) = false:=decide_eq_false c3
  have c3b1 : decide (l0.length < l1.length) = false:=decide_eq_false (fun h => c3 (Int.ofNat_lt.mpr h))
  clear c3
  by_cases c4 : (l0.length : Int) > (l1.length : Int)
  ·rw [if_pos c4] at H
   have c4b0 : decide ((l1.length : Int) < (l0.length : Int)) = true:=decide_eq_true c4
   have c4b1 : decide (l1.length < l0.length) = true:=decide_eq_true (Int.ofNat_lt.mp c4)
   clear c4
   obtain rfl:=Option.some.inj H
   go_enter Try.func46,Try.ntmps46
   go_wp2
   repeat (go_quiet (fail);try go_wp2)
   (first|go_ret|(refine ⟨_,results_tmp rfl _ _ _,?_⟩))
   exact ⟨by first|rfl|(simp;done)|(simp [*];done),by repeat (first|exact Drawn0.refl _|apply Drawn0.step)⟩
  ·rw [if_neg c4] at H
   have c4b0 : decide ((l1.length : Int) < (l0.length : Int)) = false:=decide_eq_false c4
   have c4b1 : decide (l1.length < l0.length) = false:=decide_eq_false (fun h => c4 (Int.ofNat_lt.mpr h))
   clear c4
   have H':=Aside0.mk H
   clear H
   go_enter Try.func46,Try.ntmps46
   go_wp2
   repeat (go_quiet (fail);try go_wp2)
   go_loopg [5] k (fun kq v5 w' => ∃ (x5_1 : Int),v5 = .int .i64 x5_1 ∧ Aside0 (sacristyref01_Cmp.l0 kq l0 l1 x5_1 = some r) ∧ Aside0 (kq ≤ k) ∧ Drawn0 w w')
   case atStart => exact ⟨(wrap64 ((l0.length : Int) - 1)),(by first|rfl|(simp;done)|(simp [*];done)),H',⟨Nat.le_refl _⟩,by repeat (first|exact Drawn0.refl _|apply Drawn0.step)⟩
   case round =>
    clear H'
    try clear c1
    try clear p2
    try clear c3
    try clear c3b0
    try clear c3b1
    try clear c4
    try clear c4b0
    try clear c4b1
    obtain ⟨x5_1,rfl,HA,HK1,⟨m1,rfl⟩⟩:=hrel
    cases gk with
    |zero => exact absurd HA.out (by simp [sacristyref01_Cmp.l0])
    |succ k1 =>
     have H:=HA.out
     clear HA
     simp only [sacristyref01_Cmp.l0] at H
     by_cases c5 : x5_1 ≥ 0
     ·rw [if_pos c5] at H
      have c5b0 : decide (0 ≤ x5_1) = true:=decide_eq_true c5
      clear c5
      by_cases c6 : 0 ≤ x5_1
      ·rw [if_pos c6] at H
       have c6b0 : decide (0 ≤ x5_1) = true:=decide_eq_true c6
       clear c6
       by_cases c7 : x5_1 < (l0.length : Int)
       ·rw [if_pos c7] at H
        have c7b0 : decide (x5_1 < (l0.length : Int)) = true:=decide_eq_true c7
        clear c7
        by_cases c8 : x5_1 < (l1.length : Int)
        ·rw [if_pos c8] at H
         have c8b0 : decide (x5_1 < (l1.length : Int)) = true:=decide_eq_true c8
         clear c8
         by_cases c9 : ((rdOf false l0 x5_1) != (rdOf false l1 x5_1)) = true
         ·rw [if_pos c9] at H
          have c9b0 : ((rdOf false l0 x5_1) != (rdOf false l1 x5_1)) = true:=c9
          (try (have c9b1 : decide ((rdOf false l0 x5_1) = (rdOf false l1 x5_1)) = false:=by simpa using c9))
          (try (have c9b2 : ((rdOf false l0 x5_1) == (rdOf false l1 x5_1)) = false:=by simpa using c9))
          (try (have c9b3 : ¬ ((rdOf false l0 x5_1) = (rdOf false l1 x5_1)):=by simpa using c9))
          clear c9
          obtain ⟨bq10,hbq10⟩ : ∃ b_ : Bool,b_ = (rdOf false l1 x5_1):=⟨_,rfl⟩
          replace H : (if bq10 = true then (some (-1)) else (some 1)) = some r:=by rw [← hbq10] at H;exact H
          have Nbq10:=Aside0.mk hbq10
          clear hbq10
          by_cases c11 : bq10 = true
          ·subst c11
           rw [if_pos rfl] at H
           obtain rfl:=Option.some.inj H
           have p517 : 0 ≤ (x5_1 : Int):=od
           have q517 : x5_1 < (l0.length : Int):=od
           obtain ⟨ad517,e517,hx517_0⟩:=Kd.at_bool HR0.out x5_1 p517 q517
           (try rw [← Nbq10.out] at hx517_0)
           cases e517
           replace p517:=eq_true p517
           replace q517:=eq_true q517
           have p518 : 0 ≤ (x5_1 : Int):=od
           have q518 : x5_1 < (l1.length : Int):=od
           obtain ⟨ad518,e518,hx518_0⟩:=Kd.at_bool HR1.out x5_1 p518 q518
           (try rw [← Nbq10.out] at hx518_0)
           cases e518
           replace p518:=eq_true p518
           replace q518:=eq_true q518
           have p519 : 0 ≤ (x5_1 : Int):=od
           have q519 : x5_1 < (l1.length : Int):=od
           obtain ⟨ad519,e519,hx519_0⟩:=Kd.at_bool HR1.out x5_1 p519 q519
           (try rw [← Nbq10.out] at hx519_0)
           obtain rfl : ad518 = ad519:=(by injection e519)
           replace p519:=eq_true p519
           replace q519:=eq_true q519
           have hz:=c9b0
           rw [← Nbq10.out] at hz
           have hz2 : rdOf false l0 x5_1 = false:=by simpa using hz
           rw [hz2] at hx517_0
           clear hz hz2 c9b0 c9b1 c9b2 c9b3
           go_wp2
           repeat (go_quiet (fail);try go_wp2)
           (first|go_ret|(refine ⟨_,results_tmp rfl _ _ _,?_⟩))
           exact ⟨by first|rfl|(simp;done)|(simp [*];done),by repeat (first|exact Drawn0.refl _|apply Drawn0.step)⟩
          ·replace c11:=Bool.eq_false_iff.mpr c11
           subst c11
           rw [qFT] at H
           obtain rfl:=Option.some.inj H
           have p517 : 0 ≤ (x5_1 : Int):=od
           have q517 : x5_1 < (l0.length : Int):=od
           obtain ⟨ad517,e517,hx517_0⟩:=Kd.at_bool HR0.out x5_1 p517 q517
           (try rw [← Nbq10.out] at hx517_0)
           cases e517
           replace p517:=eq_true p517
           replace q517:=eq_true q517
           have p518 : 0 ≤ (x5_1 : Int):=od
           have q518 : x5_1 < (l1.length : Int):=od
           obtain ⟨ad518,e518,hx518_0⟩:=Kd.at_bool HR1.out x5_1 p518 q518
           (try rw [← Nbq10.out] at hx518_0)
           cases e518
           replace p518:=eq_true p518
           replace q518:=eq_true q518
           have p519 : 0 ≤ (x5_1 : Int):=od
           have q519 : x5_1 < (l1.length : Int):=od
           obtain ⟨ad519,e519,hx519_0⟩:=Kd.at_bool HR1.out x5_1 p519 q519
           (try rw [← Nbq10.out] at hx519_0)
           obtain rfl : ad518 = ad519:=(by injection e519)
           replace p519:=eq_true p519
           replace q519:=eq_true q519
           have hz:=c9b0
           rw [← Nbq10.out] at hz
           have hz2 : rdOf false l0 x5_1 = true:=by simpa using hz
           rw [hz2] at hx517_0
           clear hz hz2 c9b0 c9b1 c9b2 c9b3
           go_wp2
           repeat (go_quiet (fail);try go_wp2)
           (first|go_ret|(refine ⟨_,results_tmp rfl _ _ _,?_⟩))
           exact ⟨by first|rfl|(simp;done)|(simp [*];done),by repeat (first|exact Drawn0.refl _|apply Drawn0.step)⟩
         ·rw [if_neg c9] at H
          have c9b0 : ((rdOf false l0 x5_1) != (rdOf false l1 x5_1)) = false:=by simpa using c9
          (try (have c9b1 : decide ((rdOf false l0 x5_1) = (rdOf false l1 x5_1)) = true:=by simpa using c9))
          (try (have c9b2 : ((rdOf false l0 x5_1) == (rdOf false l1 x5_1)) = true:=by simpa using c9))
          clear c9
          have H':=Aside0.mk H
          clear H
          have p517 : 0 ≤ (x5_1 : Int):=od
          have q517 : x5_1 < (l0.length : Int):=od
          obtain ⟨ad517,e517,hx517_0⟩:=Kd.at_bool HR0.out x5_1 p517 q517
          cases e517
          replace p517:=eq_true p517
          replace q517:=eq_true q517
          have p518 : 0 ≤ (x5_1 : Int):=od
          have q518 : x5_1 < (l1.length : Int):=od
          obtain ⟨ad518,e518,hx518_0⟩:=Kd.at_bool HR1.out x5_1 p518 q518
          cases e518
          replace p518:=eq_true p518
          replace q518:=eq_true q518
          go_wp2
          repeat (go_quiet (fail);try go_wp2)
          go_roundg k1
          case measure => have:=HK1.out;omega
          case rel => exact ⟨(wrap64 (x5_1 - 1)),(by first|rfl|(simp;done)|(simp [*];done)),H',⟨by have:=HK1.out;omega⟩,by repeat (first|exact Drawn0.refl _|apply Drawn0.step)⟩
        ·rw [if_neg c8] at H
         exact absurd H (by simp)
       ·rw [if_neg c7] at H
        exact absurd H (by simp)
      ·rw [if_neg c6] at H
       exact absurd H (by simp)
     ·rw [if_neg c5] at H
      have c5b0 : decide (0 ≤ x5_1) = false:=decide_eq_false c5
      clear c5
      obtain rfl:=Option.some.inj H
      go_wp2
      repeat (go_quiet (fail);try go_wp2)
      (first|go_ret|(refine ⟨_,results_tmp rfl _ _ _,?_⟩))
      exact ⟨by first|rfl|(simp;done)|(simp [*];done),by repeat (first|exact Drawn0.refl _|apply Drawn0.step)⟩
end Go.Proofs.Yteejcpbngnojkaa.P
end
section
namespace Go.Proofs.Yteejcpbngnojkaa.P
open Go.RowKit Go.Proofs.YteejcpbngnojkaaW.PrintWords Go.Proofs.YteejcpbngnojkaaW.PrintLast Go.Proofs.YteejcpbngnojkaaW.PrintMore
attribute [local go_sem] max2_int min2_int max_two min_two max_three min_three max_four min_four
set_option linter.unusedVariables false
set_option linter.unusedSimpArgs false
section
variable {ops : Array Oper} {rest : List Oper} {o : Oper} {a : Act} {Q : Exit → Act → World → Prop}
theorem make_op {P : Program} {W w1 : World} {v : Value} {x y : Operand} {t : TypeId} {m c : Value} (ho : o.op = .makeSlice t x y) (hx : a.eval x = m) (hy : a.eval y = c) (hr : (Instr.makeSlice t m c).run P W = .ok v w1) : (execOp a.eval o).run P W = .ok (.value v) w1 := by
  simp [execOp, ho, hx, hy, hr]
theorem make0 {W : World} (base : Nat) (hgd : o.guard = none) (x y : Operand) (ho : o.op = .makeSlice 36 x y) (c : Nat) (hx : a.eval x = .int .i64 0) (hy : a.eval y = .int .i64 (c : Int)) (hc : c ≤ 70368744177664) (hbase : base ≤ W.heap.size) {ok : Nat → Prop} (hok : ok W.heap.size)
    (h : ∀ g w1, Kd.R (Kd.int .u32) 23 w1 base ok (.slice (some ⟨g, 0, none⟩) 0 c) [] → Below W.heap.size W w1 → wpList Try.prog ops Q rest (a.put o.dst (.slice (some ⟨g, 0, none⟩) 0 c)) w1) : wpList Try.prog ops Q (o :: rest) a W := by
  have hr := make32 W 0 c (Nat.zero_le _) hc
  refine Kd.event_run hgd ?_ (h W.heap.size (W.alloc (.cells (nums .u32 (List.replicate c 0)).toArray 23)) ?_ (below_alloc (Below.refl _ _) _))
  · exact make_op ho hx hy hr
  · exact Kd.R_of_own ⟨by simp [encs], .inr ⟨W.heap.size, c, (nums .u32 (List.replicate c 0)).toArray, rfl, hbase, blk_new W _, Nat.zero_le _, by simp only [maxLen]; omega, by simp [nums], by simp [encs]⟩⟩ (fun k hk => by cases hk; exact hok)
end
def nat_Nat_Add.l0 : Nat → List Int → Int → List Int → Int → Int → List Int → Option (List Int)
  | 0, _, _, _, _, _, _ => none
  | k + 1, x5, x6, x24, x25, x26, x296000 => if x26 < x25 then (if 0 ≤ x26 then (if x26 < (x24.length : Int) then (if x26 < (x296000.length : Int) then (if x5.length < 35184372088832 then (nat_Nat_Add.l0 k (x5 ++ [(IntKind.u64.wrap ((IntKind.u64.wrap (x6 + (IntKind.u64.wrap (rd x24 x26)))) + (IntKind.u64.wrap (rd x296000 x26)))) % 4294967296]) ((IntKind.u64.wrap ((IntKind.u64.wrap (x6 + (IntKind.u64.wrap (rd x24 x26)))) + (IntKind.u64.wrap (rd x296000 x26)))) / 4294967296) x24 x25 (wrap64 (x26 + 1)) x296000) else (none)) else (if x5.length < 35184372088832 then (nat_Nat_Add.l0 k (x5 ++ [(IntKind.u64.wrap (x6 + (IntKind.u64.wrap (rd x24 x26)))) % 4294967296]) ((IntKind.u64.wrap (x6 + (IntKind.u64.wrap (rd x24 x26)))) / 4294967296) x24 x25 (wrap64 (x26 + 1)) x296000) else (none))) else (none)) else (none)) else (if x5.length < 35184372088832 then ((nat_trim.f k (x5 ++ [(x6) % 4294967296])).bind fun t311 => (some t311)) else (none))
set_option maxHeartbeats 8000000 in
set_option maxRecDepth 100000 in
theorem nat_Nat_Add.calls_s (sw : Bool) (k : Nat) (A0_0 : Option Addr) (c0_0 : Nat) (l0_0 : List Int) (A1_0 : Option Addr) (c1_0 : Nat) (l1_0 : List Int) (r : List Int) (w : World) (hr0_0 : Kd.C (Kd.int .u32) w A0_0 l0_0.length l0_0) (hc0_0 : l0_0.length ≤ c0_0) (hr1_0 : Kd.C (Kd.int .u32) w A1_0 l1_0.length l1_0) (hc1_0 : l1_0.length ≤ c1_0)
    (hb_ : l0_0.length < 1000) (hle_ : l1_0.length ≤ l0_0.length) (hs_ : sw = true → l1_0.length < l0_0.length) (h : nat_Nat_Add.l0 k [] 0 l0_0 (l0_0.length : Int) 0 l1_0 = some r) :
    Calls Try.prog 60 (bif sw then #[.agg #[.slice A1_0 l1_0.length c1_0], .agg #[.slice A0_0 l0_0.length c0_0]] else #[.agg #[.slice A0_0 l0_0.length c0_0], .agg #[.slice A1_0 l1_0.length c1_0]]) w fun e w' => ∃ v0_ : Value, e = .returned (.agg #[v0_]) ∧ Kd.V (Kd.int .u32) 23 w' w.heap.size (fun k_ => (w.heap.size ≤ k_)) v0_ r ∧ Below w.heap.size w w' := by
  have hu38 := Try.underlying38
  have HR0_0 := Aside0.mk hr0_0
  have HC0_0 := Aside0.mk hc0_0
  clear hr0_0 hc0_0
  have HR1_0 := Aside0.mk hr1_0
  have HC1_0 := Aside0.mk hc1_0
  clear hr1_0 hc1_0
  have HB := Aside0.mk (Below.refl w.heap.size w)
  have H' := Aside0.mk h
  clear h
  cases sw
  case' false =>
    clear hs_
    have t1_ : decide (l0_0.length < l1_0.length) = false := decide_eq_false (by omega)
    have t2_ : decide ((l0_0.length : Int) < (l1_0.length : Int)) = false := decide_eq_false (by omega)
    show Calls Try.prog 60 #[.agg #[.slice A0_0 l0_0.length c0_0], .agg #[.slice A1_0 l1_0.length c1_0]] w _
    go_enter Try.func60, Try.ntmps60
    go_wp2_with (first | ((with_reducible refine gate_dst (N := 2) rfl ?_); refine qX #[.slice A0_0 l0_0.length c0_0] 38 ?_; intro gb294 hg w4 hbox hb; have BK294 := Aside0.mk hbox; have GE294 := qh hg HB; replace HB := qs HB hb; clear hb hbox hg) | ((with_reducible refine gate_dst (N := 3) rfl ?_); refine qX #[.slice A1_0 l1_0.length c1_0] 38 ?_; intro gb295 hg w5 hbox hb; have BK295 := Aside0.mk hbox; have GE295 := qh hg HB; replace HB := qs HB hb; have NB294_295 := ql hg BK294; have NB295_294 := qg hg BK294; replace BK294 := qb BK294 hb; clear hb hbox hg) | ((with_reducible refine gate_dst (N := 4) rfl ?_); refine qX #[.slice none 0 0] 38 ?_; intro gb296 hg w6 hbox hb; have BK296 := Aside0.mk hbox; have GE296 := qh hg HB; replace HB := qs HB hb; have NB294_296 := ql hg BK294; have NB296_294 := qg hg BK294; replace BK294 := qb BK294 hb; have NB295_296 := ql hg BK295; have NB296_295 := qg hg BK295; replace BK295 := qb BK295 hb; clear hb hbox hg; have hnb7 := NB294_295.out; have hnc7 := NB295_294.out; have hnb8 := NB294_296.out; have hnc8 := NB296_294.out; have hcz9_0 := bc BK294; have hfz9_0 := bz BK294; have hnb10 := NB295_296.out; have hnc10 := NB296_295.out; have hcz11_0 := bc BK295; have hfz11_0 := bz BK295) | ((with_reducible refine gate_dst (N := 22) rfl ?_); refine make0 w.heap.size rfl _ _ rfl (l0_0.length + 1) rfl (by first | rfl | (simp; done)) (by omega) (below_size (qS HB)) (ok := fun k_ => w.heap.size ≤ k_) (below_size (qS HB)) ?_; intro g298 w12 ho13 hb; have HO299 := Aside0.mk ho13; replace BK294 := qb BK294 hb; replace BK295 := qb BK295 hb; replace BK296 := qb BK296 hb; replace HB := qs HB hb; clear hb ho13; have hcz14_0 := bc BK294; have hfz14_0 := bz BK294))
  case' true =>
    have t0_ : l1_0.length < l0_0.length := hs_ rfl
    clear hs_
    have t1_ : decide (l1_0.length < l0_0.length) = true := decide_eq_true t0_
    have t2_ : decide ((l1_0.length : Int) < (l0_0.length : Int)) = true := decide_eq_true (by omega)
    clear t0_
    show Calls Try.prog 60 #[.agg #[.slice A1_0 l1_0.length c1_0], .agg #[.slice A0_0 l0_0.length c0_0]] w _
    go_enter Try.func60, Try.ntmps60
    go_wp2_with (first | ((with_reducible refine gate_dst (N := 2) rfl ?_); refine qX #[.slice A1_0 l1_0.length c1_0] 38 ?_; intro gb294 hg w4 hbox hb; have BK294 := Aside0.mk hbox; have GE294 := qh hg HB; replace HB := qs HB hb; clear hb hbox hg) | ((with_reducible refine gate_dst (N := 3) rfl ?_); refine qX #[.slice A0_0 l0_0.length c0_0] 38 ?_; intro gb295 hg w5 hbox hb; have BK295 := Aside0.mk hbox; have GE295 := qh hg HB; replace HB := qs HB hb; have NB294_295 := ql hg BK294; have NB295_294 := qg hg BK294; replace BK294 := qb BK294 hb; clear hb hbox hg) | ((with_reducible refine gate_dst (N := 4) rfl ?_); refine qX #[.slice none 0 0] 38 ?_; intro gb296 hg w6 hbox hb; have BK296 := Aside0.mk hbox; have GE296 := qh hg HB; replace HB := qs HB hb; have NB294_296 := ql hg BK294; have NB296_294 := qg hg BK294; replace BK294 := qb BK294 hb; have NB295_296 := ql hg BK295; have NB296_295 := qg hg BK295; replace BK295 := qb BK295 hb; clear hb hbox hg; have hnb7 := NB294_295.out; have hnc7 := NB295_294.out; have hnb8 := NB294_296.out; have hnc8 := NB296_294.out; have hcz9_0 := bc BK294; have hfz9_0 := bz BK294; have hnb10 := NB295_296.out; have hnc10 := NB296_295.out; have hcz11_0 := bc BK295; have hfz11_0 := bz BK295) | ((with_reducible refine gate_store (t := 38) (p := 2) rfl ?_); refine qSt (w6.setCell ⟨gb294, 0, none⟩ (.slice A0_0 l0_0.length c0_0)) ?_; intro w7 hw; replace BK294 := qBp hw BK294; replace BK295 := qBh hw BK295; replace BK296 := qBh hw BK296; replace HB := qSh hw HB; clear hw; have hcz12_0 := bc BK295; have hfz12_0 := bz BK295; have hcz13_0 := bc BK294; have hfz13_0 := bz BK294) | ((with_reducible refine gate_store (t := 38) (p := 3) rfl ?_); refine qSt (w7.setCell ⟨gb295, 0, none⟩ (.slice A1_0 l1_0.length c1_0)) ?_; intro w8 hw; replace BK294 := qBh hw BK294; replace BK295 := qBp hw BK295; replace BK296 := qBh hw BK296; replace HB := qSh hw HB; clear hw; have hcz16_0 := bc BK294; have hfz16_0 := bz BK294) | ((with_reducible refine gate_dst (N := 22) rfl ?_); refine make0 w.heap.size rfl _ _ rfl (l0_0.length + 1) rfl (by first | rfl | (simp; done)) (by omega) (below_size (qS HB)) (ok := fun k_ => w.heap.size ≤ k_) (below_size (qS HB)) ?_; intro g298 w12 ho13 hb; have HO299 := Aside0.mk ho13; replace BK294 := qb BK294 hb; replace BK295 := qb BK295 hb; replace BK296 := qb BK296 hb; replace HB := qs HB hb; clear hb ho13; have hcz14_0 := bc BK294; have hfz14_0 := bz BK294))
  all_goals
    go_loopg [5, 6, 26] k (fun kq v5 v6 v26 w' => ∃ (x5_1 : List Int) (x6_1 : Int) (x26_1 : Int), v6 = .int .u64 x6_1 ∧ v26 = .int .i64 x26_1 ∧ Aside0 (nat_Nat_Add.l0 kq x5_1 x6_1 l0_0 (l0_0.length : Int) x26_1 l1_0 = some r) ∧ Aside0 (kq ≤ k) ∧ Aside0 (Kd.R (Kd.int .u32) 23 w' w.heap.size (fun k_ => (w.heap.size ≤ k_)) v5 x5_1) ∧ Aside0 (w'.heap[gb294]? = some (.cells #[(.slice A0_0 l0_0.length c0_0)] 38 (0, 0))) ∧ Aside0 (w'.heap[gb295]? = some (.cells #[(.slice A1_0 l1_0.length c1_0)] 38 (0, 0))) ∧ Aside0 (w'.heap[gb296]? = some (.cells #[(.slice none 0 0)] 38 (0, 0))) ∧ Aside0 (Below w.heap.size w w'))
    case atStart => exact ⟨([] : List Int), (0), (0), (by first | rfl | (simp; done) | (simp [*]; done)), (by first | rfl | (simp; done) | (simp [*]; done)), H', ⟨Nat.le_refl _⟩, ⟨qRm HO299⟩, ⟨qB BK294.out⟩, ⟨qB BK295.out⟩, ⟨qB BK296.out⟩, ⟨qS HB⟩⟩
    case round =>
      clear H'
      try clear c1
      try clear p2
      try clear c3
      try clear c3b0
      try clear c3b1
      try clear c6
      try clear c7
      try clear c8
      try clear c10
      try clear hcz11_0
      try clear hcz14_0
      try clear hcz9_0
      try clear hfz11_0
      try clear hfz14_0
      try clear hfz9_0
      obtain ⟨x5_1, x6_1, x26_1, rfl, rfl, HA, HK1, HO_5, BK294, BK295, BK296, HB⟩ := hrel
      cases gk with
      | zero => exact absurd HA.out (by simp [nat_Nat_Add.l0])
      | succ k1 =>
        have H := HA.out
        clear HA
        simp only [nat_Nat_Add.l0] at H
        by_cases c15 : x26_1 < (l0_0.length : Int)
        · rw [if_pos c15] at H
          have c15b0 : decide (x26_1 < (l0_0.length : Int)) = true := decide_eq_true c15
          clear c15
          by_cases c16 : 0 ≤ x26_1
          · rw [if_pos c16] at H
            have c16b0 : decide (0 ≤ x26_1) = true := decide_eq_true c16
            clear c16
            by_cases c17 : x26_1 < (l0_0.length : Int)
            · rw [if_pos c17] at H
              have c17b0 : decide (x26_1 < (l0_0.length : Int)) = true := decide_eq_true c17
              clear c17
              by_cases c18 : x26_1 < (l1_0.length : Int)
              · rw [if_pos c18] at H
                have c18b0 : decide (x26_1 < (l1_0.length : Int)) = true := decide_eq_true c18
                clear c18
                by_cases c19 : x5_1.length < 35184372088832
                · rw [if_pos c19] at H
                  have LMc19 := Aside0.mk c19
                  clear c19
                  obtain ⟨y302, hy302⟩ : ∃ y_ : List Int, y_ = (x5_1 ++ [(IntKind.u64.wrap ((IntKind.u64.wrap (x6_1 + (IntKind.u64.wrap (rd l0_0 x26_1)))) + (IntKind.u64.wrap (rd l1_0 x26_1)))) % 4294967296]) := ⟨_, rfl⟩
                  replace H : (nat_Nat_Add.l0 k1 y302 ((IntKind.u64.wrap ((IntKind.u64.wrap (x6_1 + (IntKind.u64.wrap (rd l0_0 x26_1)))) + (IntKind.u64.wrap (rd l1_0 x26_1)))) / 4294967296) l0_0 (l0_0.length : Int) (wrap64 (x26_1 + 1)) l1_0) = some r := by first | (rw [hy302]; with_reducible exact H) | (have H2_ := (Option.bind_some _ _).symm.trans H; rw [hy302]; with_reducible exact H2_) | (have H2_ := (Option.bind_some _ _).symm.trans H; with_reducible exact H2_) | with_reducible exact H | (rw [hy302]; exact H) | exact H
                  have Ny302 := Aside0.mk hy302
                  clear hy302
                  have H' := Aside0.mk H
                  clear H
                  have p300 : 0 ≤ (x26_1 : Int) := od
                  have q300 : x26_1 < (l0_0.length : Int) := od
                  obtain ⟨ad300, e300, hx300_0⟩ := Kd.at_int HR0_0.out x26_1 p300 q300
                  cases e300
                  replace hx300_0 := (HB.out.cell (World.block_lt_of_cell? w _ hx300_0)).trans hx300_0
                  replace p300 := eq_true p300
                  replace q300 := eq_true q300
                  have hnb20 := NB295_294.out
                  have hnc20 := NB294_295.out
                  have hnb21 := NB295_296.out
                  have hnc21 := NB296_295.out
                  have hcz22_0 : wr.cell? ⟨gb295, 0, none⟩ = some (.slice A1_0 l1_0.length c1_0) := bc BK295
                  have hfz22_0 := bz BK295
                  have p301 : 0 ≤ (x26_1 : Int) := od
                  have q301 : x26_1 < (l1_0.length : Int) := od
                  obtain ⟨ad301, e301, hx301_0⟩ := Kd.at_int HR1_0.out x26_1 p301 q301
                  cases e301
                  replace hx301_0 := (HB.out.cell (World.block_lt_of_cell? w _ hx301_0)).trans hx301_0
                  replace p301 := eq_true p301
                  replace q301 := eq_true q301
                  go_wp2_with (first | ((with_reducible refine gate_builtin (b := .append) (xs := #[.tmp 48, .tmp 51]) rfl ?_); at_builtin; refine Kd.R_append (Kd.int .u32) (w0 := w) w.heap.size rfl (.tmp 48) (.tmp 51) 36 23 (.int .u32 0) 4 rfl Try.underlying36 info23 rfl (by decide) (by omega) u5 x5_1 ((IntKind.u64.wrap ((IntKind.u64.wrap (x6_1 + (IntKind.u64.wrap (rd l0_0 x26_1)))) + (IntKind.u64.wrap (rd l1_0 x26_1)))) % 4294967296) [.int .u32 ((IntKind.u64.wrap ((IntKind.u64.wrap (x6_1 + (IntKind.u64.wrap (rd l0_0 x26_1)))) + (IntKind.u64.wrap (rd l1_0 x26_1)))) % 4294967296)] (fun k_ => (w.heap.size ≤ k_)) (fun _ => False) rfl rfl ?aP (fun _ hk => hk.elim) ?aF ?aO ?aB ?aS ?aL ?_; (case aP => exact rfl); (case aB => exact (qS HB)); (case aF => exact (fun k_ hk => (Nat.le_trans (below_size (qS HB)) hk))); (case aO => exact (qRm HO_5)); (case aS => exact (below_size (qS HB))); (case aL => have := LMc19.out; omega); intro v303 w23 ho hb hg hat; rw [← Ny302.out] at ho; replace BK294 := Aside0.mk (blk_grown (g := gb294) (o := .cells #[.slice (some ad300) l0_0.length c0_0] 38 (0, 0)) (qB BK294.out) hg (Kd.R_ne HO_5.out BK294.out (by decide))); replace BK295 := Aside0.mk (blk_grown (g := gb295) (o := .cells #[.slice (some ad301) l1_0.length c1_0] 38 (0, 0)) (qB BK295.out) hg (Kd.R_ne HO_5.out BK295.out (by decide))); replace BK296 := Aside0.mk (blk_grown (g := gb296) (o := .cells #[.slice none 0 0] 38 (0, 0)) (qB BK296.out) hg (Kd.R_ne HO_5.out BK296.out (by decide))); replace HB := Aside0.mk (hb); have HO304 := Aside0.mk (ho); (try clear HO_5); clear ho hb hg hat))
                  go_roundg k1
                  case measure => have := HK1.out; omega
                  case rel => exact ⟨(y302), ((IntKind.u64.wrap ((IntKind.u64.wrap (x6_1 + (IntKind.u64.wrap (rd l0_0 x26_1)))) + (IntKind.u64.wrap (rd l1_0 x26_1)))) / 4294967296), (wrap64 (x26_1 + 1)), (by first | rfl | (simp; done) | (simp [*]; done)), (by first | rfl | (simp; done) | (simp [*]; done)), H', ⟨by have := HK1.out; omega⟩, ⟨qRm HO304⟩, ⟨qB BK294.out⟩, ⟨qB BK295.out⟩, ⟨qB BK296.out⟩, ⟨qS HB⟩⟩
                · rw [if_neg c19] at H
                  exact absurd H (by simp)
              · rw [if_neg c18] at H
                have c18b0 : decide (x26_1 < (l1_0.length : Int)) = false := decide_eq_false c18
                clear c18
                by_cases c24 : x5_1.length < 35184372088832
                · rw [if_pos c24] at H
                  have LMc24 := Aside0.mk c24
                  clear c24
                  obtain ⟨y305, hy305⟩ : ∃ y_ : List Int, y_ = (x5_1 ++ [(IntKind.u64.wrap (x6_1 + (IntKind.u64.wrap (rd l0_0 x26_1)))) % 4294967296]) := ⟨_, rfl⟩
                  replace H : (nat_Nat_Add.l0 k1 y305 ((IntKind.u64.wrap (x6_1 + (IntKind.u64.wrap (rd l0_0 x26_1)))) / 4294967296) l0_0 (l0_0.length : Int) (wrap64 (x26_1 + 1)) l1_0) = some r := by first | (rw [hy305]; with_reducible exact H) | (have H2_ := (Option.bind_some _ _).symm.trans H; rw [hy305]; with_reducible exact H2_) | (have H2_ := (Option.bind_some _ _).symm.trans H; with_reducible exact H2_) | with_reducible exact H | (rw [hy305]; exact H) | exact H
                  have Ny305 := Aside0.mk hy305
                  clear hy305
                  have H' := Aside0.mk H
                  clear H
                  have p300 : 0 ≤ (x26_1 : Int) := od
                  have q300 : x26_1 < (l0_0.length : Int) := od
                  obtain ⟨ad300, e300, hx300_0⟩ := Kd.at_int HR0_0.out x26_1 p300 q300
                  cases e300
                  replace hx300_0 := (HB.out.cell (World.block_lt_of_cell? w _ hx300_0)).trans hx300_0
                  replace p300 := eq_true p300
                  replace q300 := eq_true q300
                  have hnb25 := NB295_294.out
                  have hnc25 := NB294_295.out
                  have hnb26 := NB295_296.out
                  have hnc26 := NB296_295.out
                  have hcz27_0 : wr.cell? ⟨gb295, 0, none⟩ = some (.slice A1_0 l1_0.length c1_0) := bc BK295
                  have hfz27_0 := bz BK295
                  go_wp2_with (first | ((with_reducible refine gate_builtin (b := .append) (xs := #[.tmp 48, .tmp 51]) rfl ?_); at_builtin; refine Kd.R_append (Kd.int .u32) (w0 := w) w.heap.size rfl (.tmp 48) (.tmp 51) 36 23 (.int .u32 0) 4 rfl Try.underlying36 info23 rfl (by decide) (by omega) u5 x5_1 ((IntKind.u64.wrap (x6_1 + (IntKind.u64.wrap (rd l0_0 x26_1)))) % 4294967296) [.int .u32 ((IntKind.u64.wrap (x6_1 + (IntKind.u64.wrap (rd l0_0 x26_1)))) % 4294967296)] (fun k_ => (w.heap.size ≤ k_)) (fun _ => False) rfl rfl ?aP (fun _ hk => hk.elim) ?aF ?aO ?aB ?aS ?aL ?_; (case aP => exact rfl); (case aB => exact (qS HB)); (case aF => exact (fun k_ hk => (Nat.le_trans (below_size (qS HB)) hk))); (case aO => exact (qRm HO_5)); (case aS => exact (below_size (qS HB))); (case aL => have := LMc24.out; omega); intro v306 w28 ho hb hg hat; rw [← Ny305.out] at ho; replace BK294 := Aside0.mk (blk_grown (g := gb294) (o := .cells #[.slice (some ad300) l0_0.length c0_0] 38 (0, 0)) (qB BK294.out) hg (Kd.R_ne HO_5.out BK294.out (by decide))); replace BK295 := Aside0.mk (blk_grown (g := gb295) (o := .cells #[.slice A1_0 l1_0.length c1_0] 38 (0, 0)) (qB BK295.out) hg (Kd.R_ne HO_5.out BK295.out (by decide))); replace BK296 := Aside0.mk (blk_grown (g := gb296) (o := .cells #[.slice none 0 0] 38 (0, 0)) (qB BK296.out) hg (Kd.R_ne HO_5.out BK296.out (by decide))); replace HB := Aside0.mk (hb); have HO307 := Aside0.mk (ho); (try clear HO_5); clear ho hb hg hat))
                  go_roundg k1
                  case measure => have := HK1.out; omega
                  case rel => exact ⟨(y305), ((IntKind.u64.wrap (x6_1 + (IntKind.u64.wrap (rd l0_0 x26_1)))) / 4294967296), (wrap64 (x26_1 + 1)), (by first | rfl | (simp; done) | (simp [*]; done)), (by first | rfl | (simp; done) | (simp [*]; done)), H', ⟨by have := HK1.out; omega⟩, ⟨qRm HO307⟩, ⟨qB BK294.out⟩, ⟨qB BK295.out⟩, ⟨qB BK296.out⟩, ⟨qS HB⟩⟩
                · rw [if_neg c24] at H
                  exact absurd H (by simp)
            · rw [if_neg c17] at H
              exact absurd H (by simp)
          · rw [if_neg c16] at H
            exact absurd H (by simp)
        · rw [if_neg c15] at H
          have c15b0 : decide (x26_1 < (l0_0.length : Int)) = false := decide_eq_false c15
          clear c15
          by_cases c29 : x5_1.length < 35184372088832
          · rw [if_pos c29] at H
            have LMc29 := Aside0.mk c29
            clear c29
            obtain ⟨y308, hy308⟩ : ∃ y_ : List Int, y_ = (x5_1 ++ [(x6_1) % 4294967296]) := ⟨_, rfl⟩
            replace H : ((nat_trim.f k1 y308).bind fun t311 => (some t311)) = some r := by first | (rw [hy308]; with_reducible exact H) | (have H2_ := (Option.bind_some _ _).symm.trans H; rw [hy308]; with_reducible exact H2_) | (have H2_ := (Option.bind_some _ _).symm.trans H; with_reducible exact H2_) | with_reducible exact H | (rw [hy308]; exact H) | exact H
            have Ny308 := Aside0.mk hy308
            clear hy308
            obtain ⟨t311, A30, H⟩ := qH H
            obtain rfl := Option.some.inj H
            go_wp2_with (first | ((with_reducible refine gate_builtin (b := .append) (xs := #[.tmp 56, .tmp 59]) rfl ?_); at_builtin; refine Kd.R_append (Kd.int .u32) (w0 := w) w.heap.size rfl (.tmp 56) (.tmp 59) 36 23 (.int .u32 0) 4 rfl Try.underlying36 info23 rfl (by decide) (by omega) u5 x5_1 ((x6_1) % 4294967296) [.int .u32 ((x6_1) % 4294967296)] (fun k_ => (w.heap.size ≤ k_)) (fun _ => False) rfl rfl ?aP (fun _ hk => hk.elim) ?aF ?aO ?aB ?aS ?aL ?_; (case aP => exact rfl); (case aB => exact (qS HB)); (case aF => exact (fun k_ hk => (Nat.le_trans (below_size (qS HB)) hk))); (case aO => exact (qRm HO_5)); (case aS => exact (below_size (qS HB))); (case aL => have := LMc29.out; omega); intro v309 w31 ho hb hg hat; rw [← Ny308.out] at ho; replace BK294 := Aside0.mk (blk_grown (g := gb294) (o := .cells #[.slice A0_0 l0_0.length c0_0] 38 (0, 0)) (qB BK294.out) hg (Kd.R_ne HO_5.out BK294.out (by decide))); replace BK295 := Aside0.mk (blk_grown (g := gb295) (o := .cells #[.slice A1_0 l1_0.length c1_0] 38 (0, 0)) (qB BK295.out) hg (Kd.R_ne HO_5.out BK295.out (by decide))); replace BK296 := Aside0.mk (blk_grown (g := gb296) (o := .cells #[.slice none 0 0] 38 (0, 0)) (qB BK296.out) hg (Kd.R_ne HO_5.out BK296.out (by decide))); replace HB := Aside0.mk (hb); have HO310 := Aside0.mk (ho); (try clear HO_5); clear ho hb hg hat; obtain ⟨Ao32, co32, eo32⟩ := Kd.R_slice HO310.out; subst eo32) | ((with_reducible refine gate_callee (f := 100) rfl ?_); refine gL (some 61) Try.func100 #[.slice Ao32 y308.length co32] ?_; (with_reducible refine (nat_trim.calls k1 (fun k_ => some k_ = (.slice Ao32 y308.length co32 : Value).ownBlock) _ _ y308 t311 _ ?side1 A30.out).mono ?_); (case side1 => exact Kd.R_V (Kd.R_tight rfl (Kd.R_types (Kd.R_types (Kd.R_types (HO310.out) BK294.out (by decide)) BK295.out (by decide)) BK296.out (by decide)))); rintro e w33 ⟨v312, rfl, ho0, hb⟩; refine ⟨_, rfl, ?_⟩; have HO313 := Aside0.mk (Kd.V_lower (Kd.V_mono (ok' := fun k_ => (w.heap.size ≤ k_) ∧ k_ ≠ gb294 ∧ k_ ≠ gb295 ∧ k_ ≠ gb296) ho0 (fun k_ hk_ => ⟨Or.elim hk_ (fun hs_ => ((Kd.R_types (Kd.R_types (Kd.R_types (HO310.out) BK294.out (by decide)) BK295.out (by decide)) BK296.out (by decide)).1 k_ hs_.symm).1.1.1) (fun hn_ => (Nat.le_trans (below_size (qS HB)) hn_)), Or.elim hk_ (fun hs_ => ((Kd.R_types (Kd.R_types (Kd.R_types (HO310.out) BK294.out (by decide)) BK295.out (by decide)) BK296.out (by decide)).1 k_ hs_.symm).1.1.2) (fun hn_ => (Kd.freshB (qB BK294.out) k_ hn_)), Or.elim hk_ (fun hs_ => ((Kd.R_types (Kd.R_types (Kd.R_types (HO310.out) BK294.out (by decide)) BK295.out (by decide)) BK296.out (by decide)).1 k_ hs_.symm).1.2) (fun hn_ => (Kd.freshB (qB BK295.out) k_ hn_)), Or.elim hk_ (fun hs_ => ((Kd.R_types (Kd.R_types (Kd.R_types (HO310.out) BK294.out (by decide)) BK295.out (by decide)) BK296.out (by decide)).1 k_ hs_.symm).2) (fun hn_ => (Kd.freshB (qB BK296.out) k_ hn_))⟩)) (below_size (qS HB))); replace HO310 := qRb HO310 hb; replace BK294 := qb BK294 hb; replace BK295 := qb BK295 hb; replace BK296 := qb BK296 hb; replace HB := qs HB hb; clear hb ho0; obtain ⟨Ao34, co34, eo34⟩ := Kd.V_slice HO313.out; subst eo34; have hnb35 := NB296_294.out; have hnc35 := NB294_296.out; have hnb36 := NB296_295.out; have hnc36 := NB295_296.out; have hcz37_0 := bc BK296; have hfz37_0 := bz BK296))
            refine bodyPost_ret (results_cell_row rfl _ _ gb296 38 #[.slice Ao34 t311.length co34] (0, 0) _ rfl (by (with_reducible repeat (first | refine blk_drewN ?_ _ | refine blk_drew ?_ | refine blk_alloc ?_ _)); refine blk_put (cs := #[.slice none 0 0]) ?_ 0 _ rfl; (with_reducible repeat (first | refine blk_drewN ?_ _ | refine blk_drew ?_ | refine blk_alloc ?_ _)); exact BK296.out) Try.underlying38 rfl (by kernel_rfl)) rfl ?_
            exact ⟨_, by first | rfl | (simp [errW_none, errW_some] <;> rfl) | (simp [*, errW_none, errW_some] <;> rfl), qVm HO313, qS HB⟩
          · rw [if_neg c29] at H
            exact absurd H (by simp)
end Go.Proofs.Yteejcpbngnojkaa.P
end
section
namespace Go.Proofs.Yteejcpbngnojkaa.P
open Go.RowKit Go.Proofs.YteejcpbngnojkaaW.PrintWords Go.Proofs.YteejcpbngnojkaaW.PrintLast Go.Proofs.YteejcpbngnojkaaW.PrintMore
open Go.Proofs.Yteejcpbngnojkaa.Num
set_option linter.unusedVariables false
theorem valW_snocA (l : List Int) (j : Nat) : valW (l.take (j + 1)) = valW (l.take j) + pw j * (gw l j).toNat := by
  by_cases h : j < l.length
  · exact valW_snoc h
  · rw [List.take_of_length_le (by omega), List.take_of_length_le (by omega), gw_out (by omega)]; simp
theorem add_eq {A B O P x y c s : Nat} (h : O + P * c = A + B) (he : s = c + x + y) : O + P * (s % 4294967296) + P * 4294967296 * (s / 4294967296) = A + P * x + (B + P * y) := by
  have h1 := Nat.mod_add_div s 4294967296
  have h2 : P * (s % 4294967296) + P * 4294967296 * (s / 4294967296) = P * s := by rw [Nat.mul_assoc, ← Nat.mul_add, h1]
  have h3 : P * s = P * c + P * x + P * y := by rw [he, Nat.mul_add, Nat.mul_add]
  omega
theorem add_w (x y c : Nat) (hx : x < 4294967296) (hy : y < 4294967296) (hc : c ≤ 1) : IntKind.u64.wrap (x : Int) = (x : Int) ∧ IntKind.u64.wrap (y : Int) = (y : Int) ∧ IntKind.u64.wrap ((c : Int) + (x : Int)) = ((c + x : Nat) : Int) ∧ IntKind.u64.wrap (((c + x : Nat) : Int) + (y : Int)) = ((c + x + y : Nat) : Int) := by
  refine ⟨wu64 (by omega) (by omega), wu64 (by omega) (by omega), ?_, ?_⟩
  · rw [← Int.natCast_add]; exact wu64 (by omega) (by omega)
  · rw [← Int.natCast_add]; exact wu64 (by omega) (by omega)
theorem add_round (l m out : List Int) (i c x y : Nat) (hx : gw l i = (x : Int)) (hy : gw m i = (y : Int)) (hx4 : x < 4294967296) (hy4 : y < 4294967296) (hc : c ≤ 1) (hi : i < l.length) (hll : l.length < 1000) (hol : out.length = i) (k : Nat) :
    nat_Nat_Add.l0 (k + 1) out (c : Int) l (l.length : Int) (i : Int) m = nat_Nat_Add.l0 k (out ++ [(((c + x + y) % 4294967296 : Nat) : Int)]) (((c + x + y) / 4294967296 : Nat) : Int) l (l.length : Int) ((i + 1 : Nat) : Int) m := by
  have c1 : (i : Int) < (l.length : Int) := by omega
  have c2 : (0 : Int) ≤ (i : Int) := by omega
  have c3 : out.length < 35184372088832 := by omega
  have hyo : ¬ (i : Int) < (m.length : Int) → y = 0 := fun h => by
    rw [gw_out (by omega)] at hy; omega
  have hw : wrap64 ((i : Int) + 1) = ((i + 1 : Nat) : Int) := by rw [w64 (by omega) (by omega)]; omega
  obtain ⟨e1, e2, e3, e4⟩ := add_w x y c hx4 hy4 hc
  have m1 : ((c + x + y : Nat) : Int) % 4294967296 = (((c + x + y) % 4294967296 : Nat) : Int) := rfl
  have m2 : ((c + x + y : Nat) : Int) / 4294967296 = (((c + x + y) / 4294967296 : Nat) : Int) := rfl
  simp only [nat_Nat_Add.l0]
  rw [if_pos c1, if_pos c2, if_pos c1, rd_gw, rd_gw, hx, hy, e1, e2, e3, e4, hw]
  by_cases hm : (i : Int) < (m.length : Int)
  · rw [if_pos hm, if_pos c3, m1, m2]
  · rw [if_neg hm]
    have h0 := hyo hm
    subst h0
    have ez : c + x + 0 = c + x := Nat.add_zero _
    rw [ez] at m1 m2 ⊢
    rw [if_pos c3, m1, m2]
theorem add_loop (l m : List Int) (hl : Sized l) (hm : Sized m) (hll : l.length < 1000) (hmm : m.length ≤ l.length) (d : Nat) : ∀ (i c : Nat) (out : List Int), i + d = l.length → out.length = i → Sized out → c ≤ 1 →
    valW out + pw i * c = valW (l.take i) + valW (m.take i) → Ev (fun k => nat_Nat_Add.l0 k out (c : Int) l (l.length : Int) (i : Int) m) (toW (valW l + valW m)) := by
  induction d with
  | zero =>
    intro i c out hi hol hos hc he
    obtain rfl : i = l.length := by omega
    have hs : Sized (out ++ [(c : Int)]) := fun z hz => by
      rcases List.mem_append.1 hz with h | h
      · exact hos z h
      · rw [List.mem_singleton.1 h]; omega
    have ht := trim_ev (out ++ [(c : Int)]) hs (by rw [List.length_append, List.length_singleton]; omega)
    rw [List.take_length, List.take_of_length_le (l := m) hmm] at he
    have hv : valW (out ++ [(c : Int)]) = valW l + valW m := by rw [valW_append, valW_one, hol, Int.toNat_natCast]; exact he
    rw [hv] at ht
    have c1 : ¬ ((l.length : Nat) : Int) < (l.length : Int) := by omega
    have c3 : out.length < 35184372088832 := by omega
    have ec : (c : Int) % 4294967296 = (c : Int) := by omega
    refine Ev.step (fun k => ?_) (Ev.bind (f := fun _ t => some t) ht (Ev.now _))
    simp only [nat_Nat_Add.l0]
    rw [if_neg c1, if_pos c3, ec]
  | succ d ih =>
    intro i c out hi hol hos hc he
    have gx := hl.gw i
    have gy := hm.gw i
    obtain ⟨x, hx⟩ := Int.eq_ofNat_of_zero_le gx.1
    obtain ⟨y, hy⟩ := Int.eq_ofNat_of_zero_le gy.1
    rw [hx] at gx
    rw [hy] at gy
    have hx4 : x < 4294967296 := by omega
    have hy4 : y < 4294967296 := by omega
    have hil : i < l.length := by omega
    have hcc : (c + x + y) / 4294967296 ≤ 1 := by omega
    have ex := valW_snocA l i
    have ey := valW_snocA m i
    rw [hx, Int.toNat_natCast] at ex
    rw [hy, Int.toNat_natCast] at ey
    have hs : Sized (out ++ [(((c + x + y) % 4294967296 : Nat) : Int)]) := fun z hz => by
      rcases List.mem_append.1 hz with h | h
      · exact hos z h
      · rw [List.mem_singleton.1 h]; omega
    refine Ev.step (fun k => add_round l m out i c x y hx hy hx4 hy4 hc hil hll hol k) (ih (i + 1) ((c + x + y) / 4294967296) _ (by omega) (by rw [List.length_append, List.length_singleton, hol]) hs hcc ?_)
    rw [ex, ey, valW_append, valW_one, hol, Int.toNat_natCast, pw_succ]
    exact add_eq he rfl
theorem add_ev (l m : List Int) (hl : Sized l) (hm : Sized m) (hll : l.length < 1000) (hmm : m.length ≤ l.length) : Ev (fun k => nat_Nat_Add.l0 k [] 0 l (l.length : Int) 0 m) (toW (valW l + valW m)) :=
  add_loop l m hl hm hll hmm l.length 0 0 [] (by omega) rfl (fun z hz => by cases hz) (by omega) (by simp [valW_nil])
end Go.Proofs.Yteejcpbngnojkaa.P
end
section
namespace Go.Proofs.Yteejcpbngnojkaa.P
open Go.RowKit Go.Shelf Go.Proofs.YteejcpbngnojkaaW.PrintWords Go.Proofs.YteejcpbngnojkaaW.PrintLast Go.Proofs.YteejcpbngnojkaaW.PrintMore
open Go.Proofs.Yteejcpbngnojkaa.Num
set_option linter.unusedVariables false
def nat_Nat_Add.f (_k : Nat) (l0_0 : List Int) (l1_0 : List Int) : Option (List Int) :=
  if canonB l0_0 && canonB l1_0 && decide (l0_0.length < 1000) && decide (l1_0.length < 1000) then some (toW (valW l0_0 + valW l1_0)) else none
theorem nat_Nat_Add.mono : ∀ a0 a1 k, LeO (nat_Nat_Add.f k a0 a1) (nat_Nat_Add.f (k + 1) a0 a1) := fun _ _ _ => LeO.refl _
theorem Add_toW (k a b : Nat) (ha : (toW a).length < 1000) (hb : (toW b).length < 1000) : nat_Nat_Add.f k (toW a) (toW b) = some (toW (a + b)) := by
  unfold nat_Nat_Add.f
  rw [if_pos (by rw [canonB_toW, canonB_toW]; simp [ha, hb]), valW_toW, valW_toW]
theorem nat_Nat_Add.calls (k : Nat) (A0_0 : Option Addr) (c0_0 : Nat) (l0_0 : List Int) (A1_0 : Option Addr) (c1_0 : Nat) (l1_0 : List Int) (r : List Int) (w : World) (hr0_0 : Kd.C (Kd.int .u32) w A0_0 l0_0.length l0_0) (hc0_0 : l0_0.length ≤ c0_0) (hr1_0 : Kd.C (Kd.int .u32) w A1_0 l1_0.length l1_0) (hc1_0 : l1_0.length ≤ c1_0) (h : nat_Nat_Add.f k l0_0 l1_0 = some r) :
    Calls Try.prog 60 #[.agg #[.slice A0_0 l0_0.length c0_0], .agg #[.slice A1_0 l1_0.length c1_0]] w fun e w' => ∃ v0_ : Value, e = .returned (.agg #[v0_]) ∧ Kd.V (Kd.int .u32) 23 w' w.heap.size (fun k_ => (w.heap.size ≤ k_)) v0_ r ∧ Below w.heap.size w w' := by
  unfold nat_Nat_Add.f at h
  split at h
  case isFalse => cases h
  case isTrue hc =>
    simp only [Bool.and_eq_true, decide_eq_true_eq] at hc
    obtain ⟨⟨⟨q0, q1⟩, n0⟩, n1⟩ := hc
    obtain rfl := Option.some.inj h
    have s0 : Sized l0_0 := canonB_sized q0
    have s1 : Sized l1_0 := canonB_sized q1
    by_cases hlt : l0_0.length < l1_0.length
    · obtain ⟨k2, hk⟩ := Ev.rounds (add_ev l1_0 l0_0 s1 s0 n1 (Nat.le_of_lt hlt))
      rw [Nat.add_comm] at hk
      exact nat_Nat_Add.calls_s true k2 A1_0 c1_0 l1_0 A0_0 c0_0 l0_0 _ w hr1_0 hc1_0 hr0_0 hc0_0 n1 (Nat.le_of_lt hlt) (fun _ => hlt) hk
    · obtain ⟨k2, hk⟩ := Ev.rounds (add_ev l0_0 l1_0 s0 s1 n0 (Nat.not_lt.1 hlt))
      exact nat_Nat_Add.calls_s false k2 A0_0 c0_0 l0_0 A1_0 c1_0 l1_0 _ w hr0_0 hc0_0 hr1_0 hc1_0 n0 (Nat.not_lt.1 hlt) (fun e => by cases e) hk
end Go.Proofs.Yteejcpbngnojkaa.P
end
section
namespace Go.Proofs.Yteejcpbngnojkaa.P
open Go.RowKit Go.Proofs.YteejcpbngnojkaaW.PrintWords Go.Proofs.YteejcpbngnojkaaW.PrintLast Go.Proofs.YteejcpbngnojkaaW.PrintMore
attribute [local go_sem] max2_int min2_int max_two min_two max_three min_three max_four min_four
set_option linter.unusedVariables false
set_option linter.unusedSimpArgs false
def nat_Nat_Sub.l0 : Nat → List Int → Int → List Int → Int → Int → List Int → Option (List Int × Bool)
 |0,_,_,_,_,_,_ => none
 |k + 1,x6,x7,x21,x22,x23,x584000 => if x23 < x22 then (if 0 ≤ x23 then (if x23 < (x21.length : Int) then (if x23 < (x584000.length : Int) then (if (wrap64 ((wrap64 ((wrap64 (rd x21 x23)) - x7)) - (wrap64 (rd x584000 x23)))) < 0 then (if x23 < (x6.length : Int) then (nat_Nat_Sub.l0 k (x6.set (x23 : Int).toNat ((wrap64 ((wrap64 ((wrap64 ((wrap64 (rd x21 x23)) - x7)) - (wrap64 (rd x584000 x23)))) + 4294967296)) % 4294967296)) 1 x21 x22 (wrap64 (x23 + 1)) x584000) else (none)) else (if x23 < (x6.length : Int) then (nat_Nat_Sub.l0 k (x6.set (x23 : Int).toNat ((wrap64 ((wrap64 ((wrap64 (rd x21 x23)) - x7)) - (wrap64 (rd x584000 x23)))) % 4294967296)) 0 x21 x22 (wrap64 (x23 + 1)) x584000) else (none))) else (if (wrap64 ((wrap64 (rd x21 x23)) - x7)) < 0 then (if x23 < (x6.length : Int) then (nat_Nat_Sub.l0 k (x6.set (x23 : Int).toNat ((wrap64 ((wrap64 ((wrap64 (rd x21 x23)) - x7)) + 4294967296)) % 4294967296)) 1 x21 x22 (wrap64 (x23 + 1)) x584000) else (none)) else (if x23 < (x6.length : Int) then (nat_Nat_Sub.l0 k (x6.set (x23 : Int).toNat ((wrap64 ((wrap64 (rd x21 x23)) - x7)) % 4294967296)) 0 x21 x22 (wrap64 (x23 + 1)) x584000) else (none)))) else (none)) else (none)) else ((nat_trim.f k x6).bind fun t589 => (some (t589,true)))
def nat_Nat_Sub.f (k : Nat) (l0_0 : List Int) (l1_0 : List Int) : Option (List Int × Bool):=(nat_Nat_Cmp.f k l0_0 l1_0).bind fun t585 => (if t585 < 0 then (some (([] : List Int),false)) else (if 0 ≤ (l0_0.length : Int) then (if ((l0_0.length : Int) : Int).toNat ≤ 70368744177664 then (nat_Nat_Sub.l0 k (List.replicate ((l0_0.length : Int) : Int).toNat 0) 0 l0_0 (l0_0.length : Int) 0 l1_0) else (none)) else (none)))
theorem nat_Nat_Sub.mono_l : ∀ k,(∀ y0 y1 y2 y3 y4 y5,LeO (nat_Nat_Sub.l0 k y0 y1 y2 y3 y4 y5) (nat_Nat_Sub.l0 (k + 1) y0 y1 y2 y3 y4 y5))
 |0 => fun _ _ _ _ _ _ r h => by simp [nat_Nat_Sub.l0] at h
 |k + 1 => by
  have ih0:=nat_Nat_Sub.mono_l k
  ·intro y0 y1 y2 y3 y4 y5
   unfold nat_Nat_Sub.l0
   repeat' first
   |(with_reducible exact ih0 _ _ _ _ _ _)
   |(with_reducible exact nat_Nat_Cmp.mono _ _ _)
   |(with_reducible exact nat_trim.mono _ _)
   |(with_reducible exact LeO.refl _)
   |(with_reducible exact LeO.none _)
   |(with_reducible refine LeO.ite ?_ ?_)
   |(with_reducible refine LeO.bind ?_ (fun _ => ?_))
   |exact ih0 _ _ _ _ _ _
   |exact nat_Nat_Cmp.mono _ _ _
   |exact nat_trim.mono _ _
   |exact LeO.none _
   |refine LeO.ite ?_ ?_
   |refine LeO.bind ?_ (fun _ => ?_)
theorem nat_Nat_Sub.mono : ∀ a0 a1 k,LeO (nat_Nat_Sub.f k a0 a1) (nat_Nat_Sub.f (k + 1) a0 a1):=by
 intro a0 a1 k
 have ih0:=nat_Nat_Sub.mono_l k
 unfold nat_Nat_Sub.f
 repeat' first
   |(with_reducible exact ih0 _ _ _ _ _ _)
   |(with_reducible exact nat_Nat_Cmp.mono _ _ _)
   |(with_reducible exact nat_trim.mono _ _)
   |(with_reducible exact LeO.refl _)
   |(with_reducible exact LeO.none _)
   |(with_reducible refine LeO.ite ?_ ?_)
   |(with_reducible refine LeO.bind ?_ (fun _ => ?_))
   |exact ih0 _ _ _ _ _ _
   |exact nat_Nat_Cmp.mono _ _ _
   |exact nat_trim.mono _ _
   |exact LeO.none _
   |refine LeO.ite ?_ ?_
   |refine LeO.bind ?_ (fun _ => ?_)
set_option maxHeartbeats 8000000 in
set_option maxRecDepth 100000 in
theorem nat_Nat_Sub.calls (k : Nat) (A0_0 : Option Addr) (c0_0 : Nat) (l0_0 : List Int) (A1_0 : Option Addr) (c1_0 : Nat) (l1_0 : List Int) (r1 : List Int) (r2 : Bool) (w : World) (hr0_0 : Kd.C (Kd.int .u32) w A0_0 l0_0.length l0_0) (hc0_0 : l0_0.length ≤ c0_0) (hr1_0 : Kd.C (Kd.int .u32) w A1_0 l1_0.length l1_0) (hc1_0 : l1_0.length ≤ c1_0) (h : nat_Nat_Sub.f k l0_0 l1_0 = some (r1,r2)) :
  Calls Try.prog 62 #[.agg #[.slice A0_0 l0_0.length c0_0],.agg #[.slice A1_0 l1_0.length c1_0]] w fun e w' => ∃ v0_ : Value,e = .returned (.tuple #[.agg #[v0_],.bool r2]) ∧ Kd.V (Kd.int .u32) 23 w' w.heap.size (fun k_ => (w.heap.size ≤ k_)) v0_ r1 ∧ Below w.heap.size w w':=by
 have hu38:=Try.underlying38
 have HR0_0:=Aside0.mk hr0_0
 have HC0_0:=Aside0.mk hc0_0
 clear hr0_0 hc0_0
 have HR1_0:=Aside0.mk hr1_0
 have HC1_0:=Aside0.mk hc1_0
 clear hr1_0 hc1_0
 have HB:=Aside0.mk (Below.refl w.heap.size w)
 have H : ((nat_Nat_Cmp.f k l0_0 l1_0).bind fun t585 => (if t585 < 0 then (some (([] : List Int),false)) else (if 0 ≤ (l0_0.length : Int) then (if ((l0_0.length : Int) : Int).toNat ≤ 70368744177664 then (nat_Nat_Sub.l0 k (List.replicate ((l0_0.length : Int) : Int).toNat 0) 0 l0_0 (l0_0.length : Int) 0 l1_0) else (none)) else (none)))) = some (r1,r2):=h
 clear h
 obtain ⟨t585,A3,H⟩:=qH H
 by_cases c4 : t585 < 0
 ·rw [if_pos c4] at H
  have c4b0 : decide (t585 < 0) = true:=decide_eq_true c4
  clear c4
  simp only [Option.some.injEq,Prod.mk.injEq] at H
  obtain ⟨rfl,rfl⟩:=H
  go_enter Try.func62,Try.ntmps62
  go_wp2_with (first|((with_reducible refine gate_dst (N:=2) rfl ?_);refine qX #[.slice A0_0 l0_0.length c0_0] 38 ?_;intro gb582 hg w5 hbox hb;have BK582:=Aside0.mk hbox;have GE582:=qh hg HB;replace HB:=qs HB hb;clear hb hbox hg)|((with_reducible refine gate_dst (N:=3) rfl ?_);refine qX #[.slice A1_0 l1_0.length c1_0] 38 ?_;intro gb583 hg w6 hbox hb;have BK583:=Aside0.mk hbox;have GE583:=qh hg HB;replace HB:=qs HB hb;have NB582_583:=ql hg BK582;have NB583_582:=qg hg BK582;replace BK582:=qb BK582 hb;clear hb hbox hg)|((with_reducible refine gate_dst (N:=4) rfl ?_);refine qX #[.slice none 0 0] 38 ?_;intro gb584 hg w7 hbox hb;have BK584:=Aside0.mk hbox;have GE584:=qh hg HB;replace HB:=qs HB hb;have NB582_584:=ql hg BK582;have NB584_582:=qg hg BK582;replace BK582:=qb BK582 hb;have NB583_584:=ql hg BK583;have NB584_583:=qg hg BK583;replace BK583:=qb BK583 hb;clear hb hbox hg;have hnb8:=NB582_583.out;have hnc8:=NB583_582.out;have hnb9:=NB582_584.out;have hnc9:=NB584_582.out;have hcz10_0:=bc BK582;have hfz10_0:=bz BK582;have hnb11:=NB583_584.out;have hnc11:=NB584_583.out;have hcz12_0:=bc BK583;have hfz12_0:=bz BK583)|((with_reducible refine gate_callee (f:=45) rfl ?_);refine gL (some 13) Try.func45 #[.agg #[.slice A0_0 l0_0.length c0_0],.agg #[.slice A1_0 l1_0.length c1_0]] ?_;(with_reducible refine (nat_Nat_Cmp.calls k _ _ l0_0 _ _ l1_0 t585 _ ?side1 ?side2 ?side3 ?side4 A3.out).mono ?_);(case side1 => exact qCB HR0_0 HB);(case side2 => exact HC0_0.out);(case side3 => exact qCB HR1_0 HB);(case side4 => exact HC1_0.out);rintro e w13 ⟨rfl,hb⟩;refine ⟨_,rfl,?_⟩;replace BK582:=qb BK582 hb;replace BK583:=qb BK583 hb;replace BK584:=qb BK584 hb;replace HB:=qs HB hb;clear hb;have hcz14_0:=bc BK584;have hfz14_0:=bz BK584))
  refine bodyPost_ret (results_ct rfl _ _ gb584 38 #[.slice none 0 0] (0,0) _ rfl (by (with_reducible repeat (first|refine blk_drewN ?_ _|refine blk_drew ?_|refine blk_alloc ?_ _));refine blk_put (cs:=#[.slice none 0 0]) ?_ 0 _ rfl;(with_reducible repeat (first|refine blk_drewN ?_ _|refine blk_drew ?_|refine blk_alloc ?_ _));exact BK584.out) Try.underlying38 rfl (by kernel_rfl)) rfl ?_
  exact ⟨_,by first|rfl|(simp [errW_none,errW_some] <;> rfl)|(simp [*,errW_none,errW_some] <;> rfl),Kd.V_nil _ _ _ _ _,qS HB⟩
 ·rw [if_neg c4] at H
  have c4b0 : decide (t585 < 0) = false:=decide_eq_false c4
  clear c4
  by_cases c15 : 0 ≤ (l0_0.length : Int)
  ·rw [if_pos c15] at H
   have c15b0:=eq_true c15
   have c15b1 : decide (0 ≤ (l0_0.length : Int)) = true:=decide_eq_true c15
   clear c15
   by_cases c16 : ((l0_0.length : Int) : Int).toNat ≤ 70368744177664
   ·rw [if_pos c16] at H
    have c16b0:=eq_true c16
    have c16b1 : decide (((l0_0.length : Int) : Int).toNat ≤ 70368744177664) = true:=decide_eq_true c16
    clear c16
    obtain ⟨y586,hy586⟩ : ∃ y_ : List Int,y_ = (List.replicate ((l0_0.length : Int) : Int).toNat 0):=⟨_,rfl⟩
    replace H : (nat_Nat_Sub.l0 k y586 0 l0_0 (l0_0.length : Int) 0 l1_0) = some (r1,r2):=by first|(rw [hy586];with_reducible exact H)|(have H2_:=(Option.bind_some _ _).symm.trans H;rw [hy586];with_reducible exact H2_)|(have H2_:=(Option.bind_some _ _).symm.trans H;with_reducible exact H2_)|with_reducible exact H|(rw [hy586];exact H)|exact H
    have Ny586:=Aside0.mk hy586
    clear hy586
    have H':=Aside0.mk H
    clear H
    go_enter Try.func62,Try.ntmps62
    go_wp2_with (first|((with_reducible refine gate_dst (N:=2) rfl ?_);refine qX #[.slice A0_0 l0_0.length c0_0] 38 ?_;intro gb582 hg w17 hbox hb;have BK582:=Aside0.mk hbox;have GE582:=qh hg HB;replace HB:=qs HB hb;clear hb hbox hg)|((with_reducible refine gate_dst (N:=3) rfl ?_);refine qX #[.slice A1_0 l1_0.length c1_0] 38 ?_;intro gb583 hg w18 hbox hb;have BK583:=Aside0.mk hbox;have GE583:=qh hg HB;replace HB:=qs HB hb;have NB582_583:=ql hg BK582;have NB583_582:=qg hg BK582;replace BK582:=qb BK582 hb;clear hb hbox hg)|((with_reducible refine gate_dst (N:=4) rfl ?_);refine qX #[.slice none 0 0] 38 ?_;intro gb584 hg w19 hbox hb;have BK584:=Aside0.mk hbox;have GE584:=qh hg HB;replace HB:=qs HB hb;have NB582_584:=ql hg BK582;have NB584_582:=qg hg BK582;replace BK582:=qb BK582 hb;have NB583_584:=ql hg BK583;have NB584_583:=qg hg BK583;replace BK583:=qb BK583 hb;clear hb hbox hg;have hnb20:=NB582_583.out;have hnc20:=NB583_582.out;have hnb21:=NB582_584.out;have hnc21:=NB584_582.out;have hcz22_0:=bc BK582;have hfz22_0:=bz BK582;have hnb23:=NB583_584.out;have hnc23:=NB584_583.out;have hcz24_0:=bc BK583;have hfz24_0:=bz BK583)|((with_reducible refine gate_callee (f:=45) rfl ?_);refine gL (some 13) Try.func45 #[.agg #[.slice A0_0 l0_0.length c0_0],.agg #[.slice A1_0 l1_0.length c1_0]] ?_;(with_reducible refine (nat_Nat_Cmp.calls k _ _ l0_0 _ _ l1_0 t585 _ ?side1 ?side2 ?side3 ?side4 A3.out).mono ?_);(case side1 => exact qCB HR0_0 HB);(case side2 => exact HC0_0.out);(case side3 => exact qCB HR1_0 HB);(case side4 => exact HC1_0.out);rintro e w25 ⟨rfl,hb⟩;refine ⟨_,rfl,?_⟩;replace BK582:=qb BK582 hb;replace BK583:=qb BK583 hb;replace BK584:=qb BK584 hb;replace HB:=qs HB hb;clear hb;have hcz26_0:=bc BK582;have hfz26_0:=bz BK582)|((with_reducible refine gate_dst (N:=19) rfl ?_);refine Kd.R_make (Kd.int .u32) _ 23 rfl (N:=19) rfl 36 _ _ rfl (l0_0.length : Int) rfl rfl Try.underlying36 (.int .u32 0) 4 info23 rfl (by decide) (by omega) 0 (ok:=fun _ => True) (okp:=fun _ => True) rfl (fun _ hk => hk) trivial (od) (Nat.le_trans (Nat.mul_le_mul_right _ (od : (l0_0.length : Int).toNat ≤ 70368744177664)) (by omega)) (Below.refl _ _) (Nat.le_refl _) ?_;intro v587 w27 ho28 hb hg_ hnew_;clear hg_ hnew_;(first|rw [← Ny586.out] at ho28|(simp only [Int.reduceToNat] at ho28;rw [← Ny586.out] at ho28));have HO588:=Aside0.mk (Kd.R_lower (Kd.R_newM (M:=fun k_ => (w.heap.size ≤ k_)) ho28 (below_size (qS HB)) (fun k_ h_ => h_)) (below_size (qS HB)));replace BK582:=qb BK582 hb;replace BK583:=qb BK583 hb;replace BK584:=qb BK584 hb;replace HB:=qs HB hb;clear hb ho28;have hcz29_0:=bc BK582;have hfz29_0:=bz BK582))
    go_loopg [7,23] k (fun kq v7 v23 w' => ∃ (x6_1 : List Int) (x7_1 : Int) (x23_1 : Int),v7 = .int .i64 x7_1 ∧ v23 = .int .i64 x23_1 ∧ Aside0 (nat_Nat_Sub.l0 kq x6_1 x7_1 l0_0 (l0_0.length : Int) x23_1 l1_0 = some (r1,r2)) ∧ Aside0 (kq ≤ k) ∧ Aside0 (Kd.R (Kd.int .u32) 23 w' w.heap.size (fun k_ => (w.heap.size ≤ k_)) v587 x6_1) ∧ Aside0 (w'.heap[gb582]? = some (.cells #[(.slice A0_0 l0_0.length c0_0)] 38 (0,0))) ∧ Aside0 (w'.heap[gb583]? = some (.cells #[(.slice A1_0 l1_0.length c1_0)] 38 (0,0))) ∧ Aside0 (w'.heap[gb584]? = some (.cells #[(.slice none 0 0)] 38 (0,0))) ∧ Aside0 (Below w.heap.size w w'))
    case atStart => exact ⟨(y586),(0),(0),(by first|rfl|(simp;done)|(simp [*];done)),(by first|rfl|(simp;done)|(simp [*];done)),H',⟨Nat.le_refl _⟩,⟨qRm HO588⟩,⟨qB BK582.out⟩,⟨qB BK583.out⟩,⟨qB BK584.out⟩,⟨qS HB⟩⟩
    case round =>
     clear H'
     try clear c1
     try clear c2
     try clear p2
     try clear c4
     try clear c4b0
     try clear c6
     try clear c8
     try clear c9
     try clear c11
     try clear c15
     try clear c15b0
     try clear c15b1
     try clear c16
     try clear c16b0
     try clear c16b1
     try clear c20
     try clear c21
     try clear c23
     try clear hcz10_0
     try clear hcz12_0
     try clear hcz14_0
     try clear hcz22_0
     try clear hcz24_0
     try clear hcz26_0
     try clear hcz29_0
     try clear hfz10_0
     try clear hfz12_0
     try clear hfz14_0
     try clear hfz22_0
     try clear hfz24_0
     try clear hfz26_0
     try clear hfz29_0
     obtain ⟨x6_1,x7_1,x23_1,rfl,rfl,HA,HK1,HO_6,BK582,BK583,BK584,HB⟩:=hrel
     cases gk with
     |zero => exact absurd HA.out (by simp [nat_Nat_Sub.l0])
     |succ k1 =>
      have H:=HA.out
      clear HA
      simp only [nat_Nat_Sub.l0] at H
      by_cases c30 : x23_1 < (l0_0.length : Int)
      ·rw [if_pos c30] at H
       have c30b0 : decide (x23_1 < (l0_0.length : Int)) = true:=decide_eq_true c30
       clear c30
       by_cases c31 : 0 ≤ x23_1
       ·rw [if_pos c31] at H
        have c31b0 : decide (0 ≤ x23_1) = true:=decide_eq_true c31
        clear c31
        by_cases c32 : x23_1 < (l0_0.length : Int)
        ·rw [if_pos c32] at H
         have c32b0 : decide (x23_1 < (l0_0.length : Int)) = true:=decide_eq_true c32
         clear c32
         by_cases c33 : x23_1 < (l1_0.length : Int)
         ·rw [if_pos c33] at H
          have c33b0 : decide (x23_1 < (l1_0.length : Int)) = true:=decide_eq_true c33
          clear c33
          by_cases c34 : (wrap64 ((wrap64 ((wrap64 (rd l0_0 x23_1)) - x7_1)) - (wrap64 (rd l1_0 x23_1)))) < 0
          ·rw [if_pos c34] at H
           have c34b0 : decide ((wrap64 ((wrap64 ((wrap64 (rd l0_0 x23_1)) - x7_1)) - (wrap64 (rd l1_0 x23_1)))) < 0) = true:=decide_eq_true c34
           clear c34
           by_cases c35 : x23_1 < (x6_1.length : Int)
           ·rw [if_pos c35] at H
            have c35b0 : decide (x23_1 < (x6_1.length : Int)) = true:=decide_eq_true c35
            clear c35
            obtain ⟨y594,hy594⟩ : ∃ y_ : List Int,y_ = (x6_1.set (x23_1 : Int).toNat ((wrap64 ((wrap64 ((wrap64 ((wrap64 (rd l0_0 x23_1)) - x7_1)) - (wrap64 (rd l1_0 x23_1)))) + 4294967296)) % 4294967296)):=⟨_,rfl⟩
            replace H : (nat_Nat_Sub.l0 k1 y594 1 l0_0 (l0_0.length : Int) (wrap64 (x23_1 + 1)) l1_0) = some (r1,r2):=by first|(rw [hy594];with_reducible exact H)|(have H2_:=(Option.bind_some _ _).symm.trans H;rw [hy594];with_reducible exact H2_)|(have H2_:=(Option.bind_some _ _).symm.trans H;with_reducible exact H2_)|with_reducible exact H|(rw [hy594];exact H)|exact H
            have Ny594:=Aside0.mk hy594
            clear hy594
            have H':=Aside0.mk H
            clear H
            have p592 : 0 ≤ (x23_1 : Int):=od
            have q592 : x23_1 < (l0_0.length : Int):=od
            obtain ⟨ad592,e592,hx592_0⟩:=Kd.at_int HR0_0.out x23_1 p592 q592
            cases e592
            replace hx592_0:=(HB.out.cell (World.block_lt_of_cell? w _ hx592_0)).trans hx592_0
            replace p592:=eq_true p592
            replace q592:=eq_true q592
            have hnb37:=NB583_582.out
            have hnc37:=NB582_583.out
            have hnb38:=NB583_584.out
            have hnc38:=NB584_583.out
            have hcz39_0 : wr.cell? ⟨gb583,0,none⟩ = some (.slice A1_0 l1_0.length c1_0):=bc BK583
            have hfz39_0:=bz BK583
            have p593 : 0 ≤ (x23_1 : Int):=od
            have q593 : x23_1 < (l1_0.length : Int):=od
            obtain ⟨ad593,e593,hx593_0⟩:=Kd.at_int HR1_0.out x23_1 p593 q593
            cases e593
            replace hx593_0:=(HB.out.cell (World.block_lt_of_cell? w _ hx593_0)).trans hx593_0
            replace p593:=eq_true p593
            replace q593:=eq_true q593
            have p36 : 0 ≤ (x23_1 : Int):=od
            have q36 : (x23_1 : Int) < ((x6_1.length : Int) : Int):=od
            obtain ⟨go36,co36,eo36,gb36,gl36,cl36,HG36⟩:=Kd.R_form HO_6.out (by omega)
            (first|cases eo36|(injection eo36 with ea_ en_ ec_;(first|subst ea_|(injection ea_ with ea_;subst ea_));subst ec_;clear en_))
            have GB36:=Aside0.mk gb36
            have GG36:=Aside0.mk HG36
            clear gb36 gl36 HG36
            obtain ⟨hx36_0,hf36_0⟩:=Kd.R_celln 0 HO_6.out (x23_1 : Int) p36 q36
            replace p36:=eq_true p36
            replace q36:=eq_true q36
            have HP40:=Kd.R_putg HO_6.out (x23_1 : Int) ((wrap64 ((wrap64 ((wrap64 ((wrap64 (rd l0_0 x23_1)) - x7_1)) - (wrap64 (rd l1_0 x23_1)))) + 4294967296)) % 4294967296)
            go_wp2_with (first|((with_reducible refine gate_store (t:=23) (p:=53) rfl ?_);refine qSt (wr.setCell ⟨go36,(x23_1 : Int).toNat,none⟩ (.int .u32 ((wrap64 ((wrap64 ((wrap64 ((wrap64 (rd l0_0 x23_1)) - x7_1)) - (wrap64 (rd l1_0 x23_1)))) + 4294967296)) % 4294967296))) ?_;intro w41 hw;have hg : wr.grownBy w41 (some go36):=(by rw [hw];exact HP40.2);have hp_ : Kd.R (Kd.int .u32) 23 w41 w.heap.size (fun k_ => (w.heap.size ≤ k_)) (.slice (some ⟨go36,0,none⟩) x6_1.length co36) y594:=(by rw [hw,Ny594.out];exact HP40.1);clear HP40;replace BK582:=Aside0.mk (blk_grown (g:=gb582) (o:=.cells #[.slice (some ad592) l0_0.length c0_0] 38 (0,0)) (qB BK582.out) hg (Kd.R_ne HO_6.out BK582.out (by decide)));replace BK583:=Aside0.mk (blk_grown (g:=gb583) (o:=.cells #[.slice (some ad593) l1_0.length c1_0] 38 (0,0)) (qB BK583.out) hg (Kd.R_ne HO_6.out BK583.out (by decide)));replace BK584:=Aside0.mk (blk_grown (g:=gb584) (o:=.cells #[.slice none 0 0] 38 (0,0)) (qB BK584.out) hg (Kd.R_ne HO_6.out BK584.out (by decide)));replace HO_6:=Aside0.mk (hp_);replace HB:=Aside0.mk ((by rw [hw];exact below_set (HB.out) GB36.out : Below w.heap.size w w41));clear hg hw hp_))
            go_roundg k1
            case measure => have:=HK1.out;omega
            case rel => exact ⟨(y594),(1),(wrap64 (x23_1 + 1)),(by first|rfl|(simp;done)|(simp [*];done)),(by first|rfl|(simp;done)|(simp [*];done)),H',⟨by have:=HK1.out;omega⟩,⟨qRm HO_6⟩,⟨qB BK582.out⟩,⟨qB BK583.out⟩,⟨qB BK584.out⟩,⟨qS HB⟩⟩
           ·rw [if_neg c35] at H
            exact absurd H (by simp)
          ·rw [if_neg c34] at H
           have c34b0 : decide ((wrap64 ((wrap64 ((wrap64 (rd l0_0 x23_1)) - x7_1)) - (wrap64 (rd l1_0 x23_1)))) < 0) = false:=decide_eq_false c34
           clear c34
           by_cases c42 : x23_1 < (x6_1.length : Int)
           ·rw [if_pos c42] at H
            have c42b0 : decide (x23_1 < (x6_1.length : Int)) = true:=decide_eq_true c42
            clear c42
            obtain ⟨y595,hy595⟩ : ∃ y_ : List Int,y_ = (x6_1.set (x23_1 : Int).toNat ((wrap64 ((wrap64 ((wrap64 (rd l0_0 x23_1)) - x7_1)) - (wrap64 (rd l1_0 x23_1)))) % 4294967296)):=⟨_,rfl⟩
            replace H : (nat_Nat_Sub.l0 k1 y595 0 l0_0 (l0_0.length : Int) (wrap64 (x23_1 + 1)) l1_0) = some (r1,r2):=by first|(rw [hy595];with_reducible exact H)|(have H2_:=(Option.bind_some _ _).symm.trans H;rw [hy595];with_reducible exact H2_)|(have H2_:=(Option.bind_some _ _).symm.trans H;with_reducible exact H2_)|with_reducible exact H|(rw [hy595];exact H)|exact H
            have Ny595:=Aside0.mk hy595
            clear hy595
            have H':=Aside0.mk H
            clear H
            have p592 : 0 ≤ (x23_1 : Int):=od
            have q592 : x23_1 < (l0_0.length : Int):=od
            obtain ⟨ad592,e592,hx592_0⟩:=Kd.at_int HR0_0.out x23_1 p592 q592
            cases e592
            replace hx592_0:=(HB.out.cell (World.block_lt_of_cell? w _ hx592_0)).trans hx592_0
            replace p592:=eq_true p592
            replace q592:=eq_true q592
            have hnb44:=NB583_582.out
            have hnc44:=NB582_583.out
            have hnb45:=NB583_584.out
            have hnc45:=NB584_583.out
            have hcz46_0 : wr.cell? ⟨gb583,0,none⟩ = some (.slice A1_0 l1_0.length c1_0):=bc BK583
            have hfz46_0:=bz BK583
            have p593 : 0 ≤ (x23_1 : Int):=od
            have q593 : x23_1 < (l1_0.length : Int):=od
            obtain ⟨ad593,e593,hx593_0⟩:=Kd.at_int HR1_0.out x23_1 p593 q593
            cases e593
            replace hx593_0:=(HB.out.cell (World.block_lt_of_cell? w _ hx593_0)).trans hx593_0
            replace p593:=eq_true p593
            replace q593:=eq_true q593
            have p43 : 0 ≤ (x23_1 : Int):=od
            have q43 : (x23_1 : Int) < ((x6_1.length : Int) : Int):=od
            obtain ⟨go43,co43,eo43,gb43,gl43,cl43,HG43⟩:=Kd.R_form HO_6.out (by omega)
            (first|cases eo43|(injection eo43 with ea_ en_ ec_;(first|subst ea_|(injection ea_ with ea_;subst ea_));subst ec_;clear en_))
            have GB43:=Aside0.mk gb43
            have GG43:=Aside0.mk HG43
            clear gb43 gl43 HG43
            obtain ⟨hx43_0,hf43_0⟩:=Kd.R_celln 0 HO_6.out (x23_1 : Int) p43 q43
            replace p43:=eq_true p43
            replace q43:=eq_true q43
            have HP47:=Kd.R_putg HO_6.out (x23_1 : Int) ((wrap64 ((wrap64 ((wrap64 (rd l0_0 x23_1)) - x7_1)) - (wrap64 (rd l1_0 x23_1)))) % 4294967296)
            go_wp2_with (first|((with_reducible refine gate_store (t:=23) (p:=53) rfl ?_);refine qSt (wr.setCell ⟨go43,(x23_1 : Int).toNat,none⟩ (.int .u32 ((wrap64 ((wrap64 ((wrap64 (rd l0_0 x23_1)) - x7_1)) - (wrap64 (rd l1_0 x23_1)))) % 4294967296))) ?_;intro w48 hw;have hg : wr.grownBy w48 (some go43):=(by rw [hw];exact HP47.2);have hp_ : Kd.R (Kd.int .u32) 23 w48 w.heap.size (fun k_ => (w.heap.size ≤ k_)) (.slice (some ⟨go43,0,none⟩) x6_1.length co43) y595:=(by rw [hw,Ny595.out];exact HP47.1);clear HP47;replace BK582:=Aside0.mk (blk_grown (g:=gb582) (o:=.cells #[.slice (some ad592) l0_0.length c0_0] 38 (0,0)) (qB BK582.out) hg (Kd.R_ne HO_6.out BK582.out (by decide)));replace BK583:=Aside0.mk (blk_grown (g:=gb583) (o:=.cells #[.slice (some ad593) l1_0.length c1_0] 38 (0,0)) (qB BK583.out) hg (Kd.R_ne HO_6.out BK583.out (by decide)));replace BK584:=Aside0.mk (blk_grown (g:=gb584) (o:=.cells #[.slice none 0 0] 38 (0,0)) (qB BK584.out) hg (Kd.R_ne HO_6.out BK584.out (by decide)));replace HO_6:=Aside0.mk (hp_);replace HB:=Aside0.mk ((by rw [hw];exact below_set (HB.out) GB43.out : Below w.heap.size w w48));clear hg hw hp_))
            go_roundg k1
            case measure => have:=HK1.out;omega
            case rel => exact ⟨(y595),(0),(wrap64 (x23_1 + 1)),(by first|rfl|(simp;done)|(simp [*];done)),(by first|rfl|(simp;done)|(simp [*];done)),H',⟨by have:=HK1.out;omega⟩,⟨qRm HO_6⟩,⟨qB BK582.out⟩,⟨qB BK583.out⟩,⟨qB BK584.out⟩,⟨qS HB⟩⟩
           ·rw [if_neg c42] at H
            exact absurd H (by simp)
         ·rw [if_neg c33] at H
          have c33b0 : decide (x23_1 < (l1_0.length : Int)) = false:=decide_eq_false c33
          clear c33
          by_cases c49 : (wrap64 ((wrap64 (rd l0_0 x23_1)) - x7_1)) < 0
          ·rw [if_pos c49] at H
           have c49b0 : decide ((wrap64 ((wrap64 (rd l0_0 x23_1)) - x7_1)) < 0) = true:=decide_eq_true c49
           clear c49
           by_cases c50 : x23_1 < (x6_1.length : Int)
           ·rw [if_pos c50] at H
            have c50b0 : decide (x23_1 < (x6_1.length : Int)) = true:=decide_eq_true c50
            clear c50
            obtain ⟨y596,hy596⟩ : ∃ y_ : List Int,y_ = (x6_1.set (x23_1 : Int).toNat ((wrap64 ((wrap64 ((wrap64 (rd l0_0 x23_1)) - x7_1)) + 4294967296)) % 4294967296)):=⟨_,rfl⟩
            replace H : (nat_Nat_Sub.l0 k1 y596 1 l0_0 (l0_0.length : Int) (wrap64 (x23_1 + 1)) l1_0) = some (r1,r2):=by first|(rw [hy596];with_reducible exact H)|(have H2_:=(Option.bind_some _ _).symm.trans H;rw [hy596];with_reducible exact H2_)|(have H2_:=(Option.bind_some _ _).symm.trans H;with_reducible exact H2_)|with_reducible exact H|(rw [hy596];exact H)|exact H
            have Ny596:=Aside0.mk hy596
            clear hy596
            have H':=Aside0.mk H
            clear H
            have p592 : 0 ≤ (x23_1 : Int):=od
            have q592 : x23_1 < (l0_0.length : Int):=od
            obtain ⟨ad592,e592,hx592_0⟩:=Kd.at_int HR0_0.out x23_1 p592 q592
            cases e592
            replace hx592_0:=(HB.out.cell (World.block_lt_of_cell? w _ hx592_0)).trans hx592_0
            replace p592:=eq_true p592
            replace q592:=eq_true q592
            have hnb52:=NB583_582.out
            have hnc52:=NB582_583.out
            have hnb53:=NB583_584.out
            have hnc53:=NB584_583.out
            have hcz54_0 : wr.cell? ⟨gb583,0,none⟩ = some (.slice A1_0 l1_0.length c1_0):=bc BK583
            have hfz54_0:=bz BK583
            have p51 : 0 ≤ (x23_1 : Int):=od
            have q51 : (x23_1 : Int) < ((x6_1.length : Int) : Int):=od
            obtain ⟨go51,co51,eo51,gb51,gl51,cl51,HG51⟩:=Kd.R_form HO_6.out (by omega)
            (first|cases eo51|(injection eo51 with ea_ en_ ec_;(first|subst ea_|(injection ea_ with ea_;subst ea_));subst ec_;clear en_))
            have GB51:=Aside0.mk gb51
            have GG51:=Aside0.mk HG51
            clear gb51 gl51 HG51
            obtain ⟨hx51_0,hf51_0⟩:=Kd.R_celln 0 HO_6.out (x23_1 : Int) p51 q51
            replace p51:=eq_true p51
            replace q51:=eq_true q51
            have HP55:=Kd.R_putg HO_6.out (x23_1 : Int) ((wrap64 ((wrap64 ((wrap64 (rd l0_0 x23_1)) - x7_1)) + 4294967296)) % 4294967296)
            go_wp2_with (first|((with_reducible refine gate_store (t:=23) (p:=53) rfl ?_);refine qSt (wr.setCell ⟨go51,(x23_1 : Int).toNat,none⟩ (.int .u32 ((wrap64 ((wrap64 ((wrap64 (rd l0_0 x23_1)) - x7_1)) + 4294967296)) % 4294967296))) ?_;intro w56 hw;have hg : wr.grownBy w56 (some go51):=(by rw [hw];exact HP55.2);have hp_ : Kd.R (Kd.int .u32) 23 w56 w.heap.size (fun k_ => (w.heap.size ≤ k_)) (.slice (some ⟨go51,0,none⟩) x6_1.length co51) y596:=(by rw [hw,Ny596.out];exact HP55.1);clear HP55;replace BK582:=Aside0.mk (blk_grown (g:=gb582) (o:=.cells #[.slice (some ad592) l0_0.length c0_0] 38 (0,0)) (qB BK582.out) hg (Kd.R_ne HO_6.out BK582.out (by decide)));replace BK583:=Aside0.mk (blk_grown (g:=gb583) (o:=.cells #[.slice A1_0 l1_0.length c1_0] 38 (0,0)) (qB BK583.out) hg (Kd.R_ne HO_6.out BK583.out (by decide)));replace BK584:=Aside0.mk (blk_grown (g:=gb584) (o:=.cells #[.slice none 0 0] 38 (0,0)) (qB BK584.out) hg (Kd.R_ne HO_6.out BK584.out (by decide)));replace HO_6:=Aside0.mk (hp_);replace HB:=Aside0.mk ((by rw [hw];exact below_set (HB.out) GB51.out : Below w.heap.size w w56));clear hg hw hp_))
            go_roundg k1
            case measure => have:=HK1.out;omega
            case rel => exact ⟨(y596),(1),(wrap64 (x23_1 + 1)),(by first|rfl|(simp;done)|(simp [*];done)),(by first|rfl|(simp;done)|(simp [*];done)),H',⟨by have:=HK1.out;omega⟩,⟨qRm HO_6⟩,⟨qB BK582.out⟩,⟨qB BK583.out⟩,⟨qB BK584.out⟩,⟨qS HB⟩⟩
           ·rw [if_neg c50] at H
            exact absurd H (by simp)
          ·rw [if_neg c49] at H
           have c49b0 : decide ((wrap64 ((wrap64 (rd l0_0 x23_1)) - x7_1)) < 0) = false:=decide_eq_false c49
           clear c49
           by_cases c57 : x23_1 < (x6_1.length : Int)
           ·rw [if_pos c57] at H
            have c57b0 : decide (x23_1 < (x6_1.length : Int)) = true:=decide_eq_true c57
            clear c57
            obtain ⟨y597,hy597⟩ : ∃ y_ : List Int,y_ = (x6_1.set (x23_1 : Int).toNat ((wrap64 ((wrap64 (rd l0_0 x23_1)) - x7_1)) % 4294967296)):=⟨_,rfl⟩
            replace H : (nat_Nat_Sub.l0 k1 y597 0 l0_0 (l0_0.length : Int) (wrap64 (x23_1 + 1)) l1_0) = some (r1,r2):=by first|(rw [hy597];with_reducible exact H)|(have H2_:=(Option.bind_some _ _).symm.trans H;rw [hy597];with_reducible exact H2_)|(have H2_:=(Option.bind_some _ _).symm.trans H;with_reducible exact H2_)|with_reducible exact H|(rw [hy597];exact H)|exact H
            have Ny597:=Aside0.mk hy597
            clear hy597
            have H':=Aside0.mk H
            clear H
            have p592 : 0 ≤ (x23_1 : Int):=od
            have q592 : x23_1 < (l0_0.length : Int):=od
            obtain ⟨ad592,e592,hx592_0⟩:=Kd.at_int HR0_0.out x23_1 p592 q592
            cases e592
            replace hx592_0:=(HB.out.cell (World.block_lt_of_cell? w _ hx592_0)).trans hx592_0
            replace p592:=eq_true p592
            replace q592:=eq_true q592
            have hnb59:=NB583_582.out
            have hnc59:=NB582_583.out
            have hnb60:=NB583_584.out
            have hnc60:=NB584_583.out
            have hcz61_0 : wr.cell? ⟨gb583,0,none⟩ = some (.slice A1_0 l1_0.length c1_0):=bc BK583
            have hfz61_0:=bz BK583
            have p58 : 0 ≤ (x23_1 : Int):=od
            have q58 : (x23_1 : Int) < ((x6_1.length : Int) : Int):=od
            obtain ⟨go58,co58,eo58,gb58,gl58,cl58,HG58⟩:=Kd.R_form HO_6.out (by omega)
            (first|cases eo58|(injection eo58 with ea_ en_ ec_;(first|subst ea_|(injection ea_ with ea_;subst ea_));subst ec_;clear en_))
            have GB58:=Aside0.mk gb58
            have GG58:=Aside0.mk HG58
            clear gb58 gl58 HG58
            obtain ⟨hx58_0,hf58_0⟩:=Kd.R_celln 0 HO_6.out (x23_1 : Int) p58 q58
            replace p58:=eq_true p58
            replace q58:=eq_true q58
            have HP62:=Kd.R_putg HO_6.out (x23_1 : Int) ((wrap64 ((wrap64 (rd l0_0 x23_1)) - x7_1)) % 4294967296)
            go_wp2_with (first|((with_reducible refine gate_store (t:=23) (p:=53) rfl ?_);refine qSt (wr.setCell ⟨go58,(x23_1 : Int).toNat,none⟩ (.int .u32 ((wrap64 ((wrap64 (rd l0_0 x23_1)) - x7_1)) % 4294967296))) ?_;intro w63 hw;have hg : wr.grownBy w63 (some go58):=(by rw [hw];exact HP62.2);have hp_ : Kd.R (Kd.int .u32) 23 w63 w.heap.size (fun k_ => (w.heap.size ≤ k_)) (.slice (some ⟨go58,0,none⟩) x6_1.length co58) y597:=(by rw [hw,Ny597.out];exact HP62.1);clear HP62;replace BK582:=Aside0.mk (blk_grown (g:=gb582) (o:=.cells #[.slice (some ad592) l0_0.length c0_0] 38 (0,0)) (qB BK582.out) hg (Kd.R_ne HO_6.out BK582.out (by decide)));replace BK583:=Aside0.mk (blk_grown (g:=gb583) (o:=.cells #[.slice A1_0 l1_0.length c1_0] 38 (0,0)) (qB BK583.out) hg (Kd.R_ne HO_6.out BK583.out (by decide)));replace BK584:=Aside0.mk (blk_grown (g:=gb584) (o:=.cells #[.slice none 0 0] 38 (0,0)) (qB BK584.out) hg (Kd.R_ne HO_6.out BK584.out (by decide)));replace HO_6:=Aside0.mk (hp_);replace HB:=Aside0.mk ((by rw [hw];exact below_set (HB.out) GB58.out : Below w.heap.size w w63));clear hg hw hp_))
            go_roundg k1
            case measure => have:=HK1.out;omega
            case rel => exact ⟨(y597),(0),(wrap64 (x23_1 + 1)),(by first|rfl|(simp;done)|(simp [*];done)),(by first|rfl|(simp;done)|(simp [*];done)),H',⟨by have:=HK1.out;omega⟩,⟨qRm HO_6⟩,⟨qB BK582.out⟩,⟨qB BK583.out⟩,⟨qB BK584.out⟩,⟨qS HB⟩⟩
           ·rw [if_neg c57] at H
            exact absurd H (by simp)
        ·rw [if_neg c32] at H
         exact absurd H (by simp)
       ·rw [if_neg c31] at H
        exact absurd H (by simp)
      ·rw [if_neg c30] at H
       have c30b0 : decide (x23_1 < (l0_0.length : Int)) = false:=decide_eq_false c30
       clear c30
       obtain ⟨t589,A64,H⟩:=qH H
       simp only [Option.some.injEq,Prod.mk.injEq] at H
       obtain ⟨rfl,rfl⟩:=H
       obtain ⟨Ao65,co65,eo65⟩:=Kd.R_slice HO_6.out
       subst eo65
       go_wp2_with (first|((with_reducible refine gate_callee (f:=100) rfl ?_);refine gL (some 56) Try.func100 #[.slice Ao65 x6_1.length co65] ?_;(with_reducible refine (nat_trim.calls k1 (fun k_ => some k_ = (.slice Ao65 x6_1.length co65 : Value).ownBlock) _ _ x6_1 t589 _ ?side1 A64.out).mono ?_);(case side1 => exact Kd.R_V (Kd.R_tight rfl (Kd.R_types (Kd.R_types (Kd.R_types (HO_6.out) BK582.out (by decide)) BK583.out (by decide)) BK584.out (by decide))));rintro e w66 ⟨v590,rfl,ho0,hb⟩;refine ⟨_,rfl,?_⟩;have HO591:=Aside0.mk (Kd.V_lower (Kd.V_mono (ok':=fun k_ => (w.heap.size ≤ k_) ∧ k_ ≠ gb582 ∧ k_ ≠ gb583 ∧ k_ ≠ gb584) ho0 (fun k_ hk_ => ⟨Or.elim hk_ (fun hs_ => ((Kd.R_types (Kd.R_types (Kd.R_types (HO_6.out) BK582.out (by decide)) BK583.out (by decide)) BK584.out (by decide)).1 k_ hs_.symm).1.1.1) (fun hn_ => (Nat.le_trans (below_size (qS HB)) hn_)),Or.elim hk_ (fun hs_ => ((Kd.R_types (Kd.R_types (Kd.R_types (HO_6.out) BK582.out (by decide)) BK583.out (by decide)) BK584.out (by decide)).1 k_ hs_.symm).1.1.2) (fun hn_ => (Kd.freshB (qB BK582.out) k_ hn_)),Or.elim hk_ (fun hs_ => ((Kd.R_types (Kd.R_types (Kd.R_types (HO_6.out) BK582.out (by decide)) BK583.out (by decide)) BK584.out (by decide)).1 k_ hs_.symm).1.2) (fun hn_ => (Kd.freshB (qB BK583.out) k_ hn_)),Or.elim hk_ (fun hs_ => ((Kd.R_types (Kd.R_types (Kd.R_types (HO_6.out) BK582.out (by decide)) BK583.out (by decide)) BK584.out (by decide)).1 k_ hs_.symm).2) (fun hn_ => (Kd.freshB (qB BK584.out) k_ hn_))⟩)) (below_size (qS HB)));replace HO_6:=qRb HO_6 hb;replace BK582:=qb BK582 hb;replace BK583:=qb BK583 hb;replace BK584:=qb BK584 hb;replace HB:=qs HB hb;clear hb ho0;obtain ⟨Ao67,co67,eo67⟩:=Kd.V_slice HO591.out;subst eo67;have hnb68:=NB584_582.out;have hnc68:=NB582_584.out;have hnb69:=NB584_583.out;have hnc69:=NB583_584.out;have hcz70_0:=bc BK584;have hfz70_0:=bz BK584))
       refine bodyPost_ret (results_ct rfl _ _ gb584 38 #[.slice Ao67 t589.length co67] (0,0) _ rfl (by (with_reducible repeat (first|refine blk_drewN ?_ _|refine blk_drew ?_|refine blk_alloc ?_ _));refine blk_put (cs:=#[.slice none 0 0]) ?_ 0 _ rfl;(with_reducible repeat (first|refine blk_drewN ?_ _|refine blk_drew ?_|refine blk_alloc ?_ _));exact BK584.out) Try.underlying38 rfl (by kernel_rfl)) rfl ?_
       exact ⟨_,by first|rfl|(simp [errW_none,errW_some] <;> rfl)|(simp [*,errW_none,errW_some] <;> rfl),qVm HO591,qS HB⟩
   ·rw [if_neg c16] at H
    exact absurd H (by simp)
  ·rw [if_neg c15] at H
   exact absurd H (by simp)
end Go.Proofs.Yteejcpbngnojkaa.P
end
section
namespace Go.Proofs.Yteejcpbngnojkaa.P
open Go.RowKit Go.Proofs.YteejcpbngnojkaaW.PrintWords Go.Proofs.YteejcpbngnojkaaW.PrintLast Go.Proofs.YteejcpbngnojkaaW.PrintMore
attribute [local go_sem] max2_int min2_int max_two min_two max_three min_three max_four min_four
set_option linter.unusedVariables false
set_option linter.unusedSimpArgs false
def sacristyref01_at.f (l0 : List Bool) (a1 : Int) : Option (Int):=if a1 ≥ 0 then (if a1 < (l0.length : Int) then (if 0 ≤ a1 then (if rdOf false l0 a1 = true then (some 1) else (some 0)) else (none)) else (some 0)) else (some 0)
set_option maxHeartbeats 8000000 in
set_option maxRecDepth 100000 in
theorem sacristyref01_at.calls (A0 : Option Addr) (c0 : Nat) (l0 : List Bool) (a1 : Int) (r : Int) (w : World) (hr0 : Kd.C Kd.bool w A0 l0.length l0) (hc0 : l0.length ≤ c0) (h : sacristyref01_at.f l0 a1 = some r) :
  Calls Try.prog 112 #[.slice A0 l0.length c0,.int .i64 a1] w fun e w' => e = .returned (.int .i64 r) ∧ Drawn0 w w':=by
 have HR0:=Aside0.mk hr0
 have HC0:=Aside0.mk hc0
 clear hr0 hc0
 have H : (if a1 ≥ 0 then (if a1 < (l0.length : Int) then (if 0 ≤ a1 then (if rdOf false l0 a1 = true then (some 1) else (some 0)) else (none)) else (some 0)) else (some 0)) = some r:=h
 clear h
 by_cases c3 : a1 ≥ 0
 ·rw [if_pos c3] at H
  have c3b0 : decide (0 ≤ a1) = true:=decide_eq_true c3
  clear c3
  by_cases c4 : a1 < (l0.length : Int)
  ·rw [if_pos c4] at H
   have c4b0 : decide (a1 < (l0.length : Int)) = true:=decide_eq_true c4
   clear c4
   by_cases c5 : 0 ≤ a1
   ·rw [if_pos c5] at H
    have c5b0 : decide (0 ≤ a1) = true:=decide_eq_true c5
    clear c5
    obtain ⟨bq6,hbq6⟩ : ∃ b_ : Bool,b_ = (rdOf false l0 a1):=⟨_,rfl⟩
    replace H : (if bq6 = true then (some 1) else (some 0)) = some r:=by rw [← hbq6] at H;exact H
    have Nbq6:=Aside0.mk hbq6
    clear hbq6
    by_cases c7 : bq6 = true
    ·subst c7
     rw [if_pos rfl] at H
     obtain rfl:=Option.some.inj H
     have p731 : 0 ≤ (a1 : Int):=od
     have q731 : a1 < (l0.length : Int):=od
     obtain ⟨ad731,e731,hx731_0⟩:=Kd.at_bool HR0.out a1 p731 q731
     (try rw [← Nbq6.out] at hx731_0)
     cases e731
     replace p731:=eq_true p731
     replace q731:=eq_true q731
     go_enter Try.func112,Try.ntmps112
     go_wp2
     (first|go_ret|(refine ⟨_,results_tmp rfl _ _ _,?_⟩))
     exact ⟨by first|rfl|(simp;done)|(simp [*];done),by repeat (first|exact Drawn0.refl _|apply Drawn0.step)⟩
    ·replace c7:=Bool.eq_false_iff.mpr c7
     subst c7
     rw [qFT] at H
     obtain rfl:=Option.some.inj H
     have p731 : 0 ≤ (a1 : Int):=od
     have q731 : a1 < (l0.length : Int):=od
     obtain ⟨ad731,e731,hx731_0⟩:=Kd.at_bool HR0.out a1 p731 q731
     (try rw [← Nbq6.out] at hx731_0)
     cases e731
     replace p731:=eq_true p731
     replace q731:=eq_true q731
     go_enter Try.func112,Try.ntmps112
     go_wp2
     (first|go_ret|(refine ⟨_,results_tmp rfl _ _ _,?_⟩))
     exact ⟨by first|rfl|(simp;done)|(simp [*];done),by repeat (first|exact Drawn0.refl _|apply Drawn0.step)⟩
   ·rw [if_neg c5] at H
    exact absurd H (by simp)
  ·rw [if_neg c4] at H
   have c4b0 : decide (a1 < (l0.length : Int)) = false:=decide_eq_false c4
   clear c4
   obtain rfl:=Option.some.inj H
   go_enter Try.func112,Try.ntmps112
   go_wp2
   (first|go_ret|(refine ⟨_,results_tmp rfl _ _ _,?_⟩))
   exact ⟨by first|rfl|(simp;done)|(simp [*];done),by repeat (first|exact Drawn0.refl _|apply Drawn0.step)⟩
 ·rw [if_neg c3] at H
  have c3b0 : decide (0 ≤ a1) = false:=decide_eq_false c3
  clear c3
  obtain rfl:=Option.some.inj H
  go_enter Try.func112,Try.ntmps112
  go_wp2
  (first|go_ret|(refine ⟨_,results_tmp rfl _ _ _,?_⟩))
  exact ⟨by first|rfl|(simp;done)|(simp [*];done),by repeat (first|exact Drawn0.refl _|apply Drawn0.step)⟩
end Go.Proofs.Yteejcpbngnojkaa.P
end
section
namespace Go.Proofs.Yteejcpbngnojkaa.P
open Go.RowKit Go.Proofs.YteejcpbngnojkaaW.PrintWords Go.Proofs.YteejcpbngnojkaaW.PrintLast Go.Proofs.YteejcpbngnojkaaW.PrintMore
attribute [local go_sem] max2_int min2_int max_two min_two max_three min_three max_four min_four
set_option linter.unusedVariables false
set_option linter.unusedSimpArgs false
def sacristyref01_Sub.l0 : Nat → List Bool → List Bool → List Bool → Int → Int → Option (List Bool)
 |0,_,_,_,_,_ => none
 |k + 1,x0,x1,x5,x6,x7 => if x7 < (x0.length : Int) then ((sacristyref01_at.f x0 x7).bind fun t738 => ((sacristyref01_at.f x1 x7).bind fun t739 => (if (wrap64 ((wrap64 (t738 - t739)) - x6)) < 0 then (if x5.length < 140737488355328 then (sacristyref01_Sub.l0 k x0 x1 (x5 ++ [((wrap64 ((wrap64 ((wrap64 (t738 - t739)) - x6)) + 2)) == 1)]) 1 (wrap64 (x7 + 1))) else (none)) else (if x5.length < 140737488355328 then (sacristyref01_Sub.l0 k x0 x1 (x5 ++ [((wrap64 ((wrap64 (t738 - t739)) - x6)) == 1)]) 0 (wrap64 (x7 + 1))) else (none))))) else ((sacristyref01_Trim.f k x5).bind fun t735 => (some t735))
def sacristyref01_Sub.f (k : Nat) (l0 : List Bool) (l1 : List Bool) : Option (List Bool):=sacristyref01_Sub.l0 k l0 l1 (([] : List Bool)) 0 0
theorem sacristyref01_Sub.mono_l : ∀ k,(∀ y0 y1 y2 y3 y4,LeO (sacristyref01_Sub.l0 k y0 y1 y2 y3 y4) (sacristyref01_Sub.l0 (k + 1) y0 y1 y2 y3 y4))
 |0 => fun _ _ _ _ _ r h => by simp [sacristyref01_Sub.l0] at h
 |k + 1 => by
  have ih0:=sacristyref01_Sub.mono_l k
  ·intro y0 y1 y2 y3 y4
   unfold sacristyref01_Sub.l0
   repeat' first
   |(with_reducible exact ih0 _ _ _ _ _)
   |(with_reducible exact sacristyref01_Trim.mono _ _)
   |(with_reducible exact LeO.refl _)
   |(with_reducible exact LeO.none _)
   |(with_reducible refine LeO.ite ?_ ?_)
   |(with_reducible refine LeO.bind ?_ (fun _ => ?_))
   |exact ih0 _ _ _ _ _
   |exact sacristyref01_Trim.mono _ _
   |exact LeO.none _
   |refine LeO.ite ?_ ?_
   |refine LeO.bind ?_ (fun _ => ?_)
theorem sacristyref01_Sub.mono : ∀ a0 a1 k,LeO (sacristyref01_Sub.f k a0 a1) (sacristyref01_Sub.f (k + 1) a0 a1):=by
 intro a0 a1 k
 have ih0:=sacristyref01_Sub.mono_l k
 unfold sacristyref01_Sub.f
 repeat' first
   |(with_reducible exact ih0 _ _ _ _ _)
   |(with_reducible exact sacristyref01_Trim.mono _ _)
   |(with_reducible exact LeO.refl _)
   |(with_reducible exact LeO.none _)
   |(with_reducible refine LeO.ite ?_ ?_)
   |(with_reducible refine LeO.bind ?_ (fun _ => ?_))
   |exact ih0 _ _ _ _ _
   |exact sacristyref01_Trim.mono _ _
   |exact LeO.none _
   |refine LeO.ite ?_ ?_
   |refine LeO.bind ?_ (fun _ => ?_)
set_option maxHeartbeats 8000000 in
set_option maxRecDepth 100000 in
theorem sacristyref01_Sub.calls (k : Nat) (A0 : Option Addr) (c0 : Nat) (l0 : List Bool) (A1 : Option Addr) (c1 : Nat) (l1 : List Bool) (r : List Bool) (w : World) (hr0 : Kd.C Kd.bool w A0 l0.length l0) (hc0 : l0.length ≤ c0) (hr1 : Kd.C Kd.bool w A1 l1.length l1) (hc1 : l1.length ≤ c1) (h : sacristyref01_Sub.f k l0 l1 = some r) :
  Calls Try.prog 63 #[.slice A0 l0.length c0,.slice A1 l1.length c1] w fun e w' => ∃ v0_ : Value,e = .returned (v0_) ∧ Kd.V Kd.bool 4 w' w.heap.size (fun k_ => (w.heap.size ≤ k_)) v0_ r ∧ Below w.heap.size w w':=by
 have HR0:=Aside0.mk hr0
 have HC0:=Aside0.mk hc0
 clear hr0 hc0
 have HR1:=Aside0.mk hr1
 have HC1:=Aside0.mk hc1
 clear hr1 hc1
 have HB:=Aside0.mk (Below.refl w.heap.size w)
 have H : (sacristyref01_Sub.l0 k l0 l1 (([] : List Bool)) 0 0) = some r:=h
 clear h
 obtain ⟨y732,hy732⟩ : ∃ y_ : List Bool,y_ = (([] : List Bool)):=⟨_,rfl⟩
 replace H : (sacristyref01_Sub.l0 k l0 l1 y732 0 0) = some r:=by first|(rw [hy732];with_reducible exact H)|(have H2_:=(Option.bind_some _ _).symm.trans H;rw [hy732];with_reducible exact H2_)|(have H2_:=(Option.bind_some _ _).symm.trans H;with_reducible exact H2_)|with_reducible exact H|(rw [hy732];exact H)|exact H
 have Ny732:=Aside0.mk hy732
 clear hy732
 have H':=Aside0.mk H
 clear H
 go_enter Try.func63,Try.ntmps63
 go_wp2_with (first|((with_reducible refine gate_dst (N:=9) rfl ?_);refine Kd.R_lit Kd.bool _ 4 ?hg (N:=9) ?hd (xs:=([] : List Bool)) (inner:=[]) (ok:=fun _ => True) (okp:=fun _ => True) ?hr ?hp (fun _ hk => hk) trivial (Below.refl _ _) (Nat.le_refl _) (by simp) ?_;(case hd => rfl);(case hg => rfl);(case hr => first|(go_simp;done)|(go_simp;rfl));(case hp => exact (Reps.none _ _));intro v733 w3 ho4 hb hg_ hnew_;clear hg_ hnew_;(first|rw [← Ny732.out] at ho4|(simp only [Int.reduceToNat] at ho4;rw [← Ny732.out] at ho4));have HO734:=Aside0.mk (Kd.R_lower (Kd.R_newM (M:=fun k_ => (w.heap.size ≤ k_)) ho4 (below_size (qS HB)) (fun k_ h_ => h_)) (below_size (qS HB)));replace HB:=qs HB hb;clear hb ho4))
 go_loopg [5,6,7] k (fun kq v5 v6 v7 w' => ∃ (x5_1 : List Bool) (x6_1 : Int) (x7_1 : Int),v6 = .int .i64 x6_1 ∧ v7 = .int .i64 x7_1 ∧ Aside0 (sacristyref01_Sub.l0 kq l0 l1 x5_1 x6_1 x7_1 = some r) ∧ Aside0 (kq ≤ k) ∧ Aside0 (Kd.R Kd.bool 4 w' w.heap.size (fun k_ => (w.heap.size ≤ k_)) v5 x5_1) ∧ Aside0 (Below w.heap.size w w'))
 case atStart => exact ⟨(y732),(0),(0),(by first|rfl|(simp;done)|(simp [*];done)),(by first|rfl|(simp;done)|(simp [*];done)),H',⟨Nat.le_refl _⟩,⟨qRm HO734⟩,⟨qS HB⟩⟩
 case round =>
  clear H'
  try clear c1
  try clear p2
  obtain ⟨x5_1,x6_1,x7_1,rfl,rfl,HA,HK1,HO_5,HB⟩:=hrel
  cases gk with
  |zero => exact absurd HA.out (by simp [sacristyref01_Sub.l0])
  |succ k1 =>
   have H:=HA.out
   clear HA
   simp only [sacristyref01_Sub.l0] at H
   by_cases c5 : x7_1 < (l0.length : Int)
   ·rw [if_pos c5] at H
    have c5b0 : decide (x7_1 < (l0.length : Int)) = true:=decide_eq_true c5
    clear c5
    obtain ⟨t738,A6,H⟩:=qH H
    obtain ⟨t739,A7,H⟩:=qH H
    by_cases c8 : (wrap64 ((wrap64 (t738 - t739)) - x6_1)) < 0
    ·rw [if_pos c8] at H
     have c8b0 : decide ((wrap64 ((wrap64 (t738 - t739)) - x6_1)) < 0) = true:=decide_eq_true c8
     clear c8
     by_cases c9 : x5_1.length < 140737488355328
     ·rw [if_pos c9] at H
      have LMc9:=Aside0.mk c9
      clear c9
      obtain ⟨y740,hy740⟩ : ∃ y_ : List Bool,y_ = (x5_1 ++ [((wrap64 ((wrap64 ((wrap64 (t738 - t739)) - x6_1)) + 2)) == 1)]):=⟨_,rfl⟩
      replace H : (sacristyref01_Sub.l0 k1 l0 l1 y740 1 (wrap64 (x7_1 + 1))) = some r:=by first|(rw [hy740];with_reducible exact H)|(have H2_:=(Option.bind_some _ _).symm.trans H;rw [hy740];with_reducible exact H2_)|(have H2_:=(Option.bind_some _ _).symm.trans H;with_reducible exact H2_)|with_reducible exact H|(rw [hy740];exact H)|exact H
      have Ny740:=Aside0.mk hy740
      clear hy740
      have H':=Aside0.mk H
      clear H
      go_wp2_with (first|((with_reducible refine gate_callee (f:=112) rfl ?_);refine gL (some 18) Try.func112 #[.slice A0 l0.length c0,.int .i64 x7_1] ?_;(with_reducible refine (sacristyref01_at.calls _ _ l0 x7_1 t738 _ ?side1 ?side2 A6.out).mono ?_);(case side1 => exact qCB HR0 HB);(case side2 => exact HC0.out);rintro e w' ⟨rfl,⟨nd,rfl⟩⟩;refine ⟨_,rfl,?_⟩)|((with_reducible refine gate_callee (f:=112) rfl ?_);refine gL (some 21) Try.func112 #[.slice A1 l1.length c1,.int .i64 x7_1] ?_;(with_reducible refine (sacristyref01_at.calls _ _ l1 x7_1 t739 _ ?side1 ?side2 A7.out).mono ?_);(case side1 => repeat (first|exact (Kd.C_below HR1.out (qS HB))|(with_reducible refine Kd.C_alloc ?_ _)|(with_reducible refine Kd.C_drewN ?_ _)|(with_reducible refine Kd.C_drew ?_)));(case side2 => exact HC1.out);rintro e w' ⟨rfl,⟨nd,rfl⟩⟩;refine ⟨_,rfl,?_⟩)|((with_reducible refine gate_builtin (b:=.append) (xs:=#[.tmp 29,.tmp 32]) rfl ?_);at_builtin;refine Kd.R_append Kd.bool (w0:=w) w.heap.size rfl (.tmp 29) (.tmp 32) 42 4 (.bool false) 1 rfl Try.underlying42 info4 rfl (by decide) (by omega) u5 x5_1 ((wrap64 ((wrap64 ((wrap64 (t738 - t739)) - x6_1)) + 2)) == 1) [.bool ((wrap64 ((wrap64 ((wrap64 (t738 - t739)) - x6_1)) + 2)) == 1)] (fun k_ => (w.heap.size ≤ k_)) (fun _ => False) rfl rfl ?aP (fun _ hk => hk.elim) ?aF ?aO ?aB ?aS ?aL ?_;(case aP => exact rfl);(case aB => exact (qS HB));(case aF => exact (fun k_ hk => (Nat.le_trans (below_size (qS HB)) hk)));(case aO => exact (qRm HO_5));(case aS => exact (below_size (qS HB)));(case aL => have:=LMc9.out;omega);intro v741 w10 ho hb hg hat;rw [← Ny740.out] at ho;replace HB:=Aside0.mk (hb);have HO742:=Aside0.mk (ho);(try clear HO_5);clear ho hb hg hat))
      go_roundg k1
      case measure => have:=HK1.out;omega
      case rel => exact ⟨(y740),(1),(wrap64 (x7_1 + 1)),(by first|rfl|(simp;done)|(simp [*];done)),(by first|rfl|(simp;done)|(simp [*];done)),H',⟨by have:=HK1.out;omega⟩,⟨qRm HO742⟩,⟨qS HB⟩⟩
     ·rw [if_neg c9] at H
      exact absurd H (by simp)
    ·rw [if_neg c8] at H
     have c8b0 : decide ((wrap64 ((wrap64 (t738 - t739)) - x6_1)) < 0) = false:=decide_eq_false c8
     clear c8
     by_cases c11 : x5_1.length < 140737488355328
     ·rw [if_pos c11] at H
      have LMc11:=Aside0.mk c11
      clear c11
      obtain ⟨y743,hy743⟩ : ∃ y_ : List Bool,y_ = (x5_1 ++ [((wrap64 ((wrap64 (t738 - t739)) - x6_1)) == 1)]):=⟨_,rfl⟩
      replace H : (sacristyref01_Sub.l0 k1 l0 l1 y743 0 (wrap64 (x7_1 + 1))) = some r:=by first|(rw [hy743];with_reducible exact H)|(have H2_:=(Option.bind_some _ _).symm.trans H;rw [hy743];with_reducible exact H2_)|(have H2_:=(Option.bind_some _ _).symm.trans H;with_reducible exact H2_)|with_reducible exact H|(rw [hy743];exact H)|exact H
      have Ny743:=Aside0.mk hy743
      clear hy743
      have H':=Aside0.mk H
      clear H
      go_wp2_with (first|((with_reducible refine gate_callee (f:=112) rfl ?_);refine gL (some 18) Try.func112 #[.slice A0 l0.length c0,.int .i64 x7_1] ?_;(with_reducible refine (sacristyref01_at.calls _ _ l0 x7_1 t738 _ ?side1 ?side2 A6.out).mono ?_);(case side1 => exact qCB HR0 HB);(case side2 => exact HC0.out);rintro e w' ⟨rfl,⟨nd,rfl⟩⟩;refine ⟨_,rfl,?_⟩)|((with_reducible refine gate_callee (f:=112) rfl ?_);refine gL (some 21) Try.func112 #[.slice A1 l1.length c1,.int .i64 x7_1] ?_;(with_reducible refine (sacristyref01_at.calls _ _ l1 x7_1 t739 _ ?side1 ?side2 A7.out).mono ?_);(case side1 => repeat (first|exact (Kd.C_below HR1.out (qS HB))|(with_reducible refine Kd.C_alloc ?_ _)|(with_reducible refine Kd.C_drewN ?_ _)|(with_reducible refine Kd.C_drew ?_)));(case side2 => exact HC1.out);rintro e w' ⟨rfl,⟨nd,rfl⟩⟩;refine ⟨_,rfl,?_⟩)|((with_reducible refine gate_builtin (b:=.append) (xs:=#[.tmp 29,.tmp 32]) rfl ?_);at_builtin;refine Kd.R_append Kd.bool (w0:=w) w.heap.size rfl (.tmp 29) (.tmp 32) 42 4 (.bool false) 1 rfl Try.underlying42 info4 rfl (by decide) (by omega) u5 x5_1 ((wrap64 ((wrap64 (t738 - t739)) - x6_1)) == 1) [.bool ((wrap64 ((wrap64 (t738 - t739)) - x6_1)) == 1)] (fun k_ => (w.heap.size ≤ k_)) (fun _ => False) rfl rfl ?aP (fun _ hk => hk.elim) ?aF ?aO ?aB ?aS ?aL ?_;(case aP => exact rfl);(case aB => exact (qS HB));(case aF => exact (fun k_ hk => (Nat.le_trans (below_size (qS HB)) hk)));(case aO => exact (qRm HO_5));(case aS => exact (below_size (qS HB)));(case aL => have:=LMc11.out;omega);intro v744 w12 ho hb hg hat;rw [← Ny743.out] at ho;replace HB:=Aside0.mk (hb);have HO745:=Aside0.mk (ho);(try clear HO_5);clear ho hb hg hat))
      go_roundg k1
      case measure => have:=HK1.out;omega
      case rel => exact ⟨(y743),(0),(wrap64 (x7_1 + 1)),(by first|rfl|(simp;done)|(simp [*];done)),(by first|rfl|(simp;done)|(simp [*];done)),H',⟨by have:=HK1.out;omega⟩,⟨qRm HO745⟩,⟨qS HB⟩⟩
     ·rw [if_neg c11] at H
      exact absurd H (by simp)
   ·rw [if_neg c5] at H
    have c5b0 : decide (x7_1 < (l0.length : Int)) = false:=decide_eq_false c5
    clear c5
    obtain ⟨t735,A13,H⟩:=qH H
    obtain rfl:=Option.some.inj H
    obtain ⟨Ao14,co14,eo14⟩:=Kd.R_slice HO_5.out
    subst eo14
    go_wp2_with (first|((with_reducible refine gate_callee (f:=111) rfl ?_);refine gL (some 35) Try.func111 #[.slice Ao14 x5_1.length co14] ?_;(with_reducible refine (sacristyref01_Trim.calls k1 (fun k_ => some k_ = (.slice Ao14 x5_1.length co14 : Value).ownBlock) _ _ x5_1 t735 _ ?side1 A13.out).mono ?_);(case side1 => exact Kd.R_V (Kd.R_tight rfl (HO_5.out)));rintro e w15 ⟨v736,rfl,ho0,hb⟩;refine ⟨_,rfl,?_⟩;have HO737:=Aside0.mk (Kd.V_lower (Kd.V_mono (ok':=fun k_ => (w.heap.size ≤ k_)) ho0 (fun k_ hk_ => Or.elim hk_ (fun hs_ => ((HO_5.out).1 k_ hs_.symm)) (fun hn_ => (Nat.le_trans (below_size (qS HB)) hn_)))) (below_size (qS HB)));replace HO_5:=qRb HO_5 hb;replace HB:=qs HB hb;clear hb ho0))
    (first|go_ret|(refine ⟨_,results_tmp rfl _ _ _,?_⟩))
    exact ⟨_,by first|rfl|(simp [errW_none,errW_some] <;> rfl)|(simp [*,errW_none,errW_some] <;> rfl),qVm HO737,qS HB⟩
end Go.Proofs.Yteejcpbngnojkaa.P
end
section
namespace Go.Proofs.Yteejcpbngnojkaa.P
open Go.RowKit Go.Proofs.YteejcpbngnojkaaW.PrintWords Go.Proofs.YteejcpbngnojkaaW.PrintLast Go.Proofs.YteejcpbngnojkaaW.PrintMore
attribute [local go_sem] max2_int min2_int max_two min_two max_three min_three max_four min_four
set_option linter.unusedVariables false
set_option linter.unusedSimpArgs false
mutual
def sacristyref01_Add.l0 : Nat → List Bool → List Bool → List Bool → Int → Int → Option (List Bool)
 |0,_,_,_,_,_ => none
 |k + 1,x0,x1,x5,x6,x7 => if x7 < (x0.length : Int) then (sacristyref01_Add.j1 k x0 x1 x5 x6 x7 true) else (if x7 < (x1.length : Int) then (sacristyref01_Add.j1 k x0 x1 x5 x6 x7 true) else (sacristyref01_Add.j1 k x0 x1 x5 x6 x7 (decide (x6 > 0))))
def sacristyref01_Add.j1 : Nat → List Bool → List Bool → List Bool → Int → Int → Bool → Option (List Bool)
 |0,_,_,_,_,_,_ => none
 |k + 1,x0,x1,x5,x6,x7,x23 => if x23 = true then ((sacristyref01_at.f x0 x7).bind fun t853 => ((sacristyref01_at.f x1 x7).bind fun t854 => (if x5.length < 140737488355328 then (sacristyref01_Add.l0 k x0 x1 (x5 ++ [((Int.tmod (wrap64 ((wrap64 (t853 + t854)) + x6)) 2) == 1)]) (wrap64 (Int.tdiv (wrap64 ((wrap64 (t853 + t854)) + x6)) 2)) (wrap64 (x7 + 1))) else (none)))) else ((sacristyref01_Trim.f k x5).bind fun t858 => (some t858))
end
def sacristyref01_Add.f (k : Nat) (l0 : List Bool) (l1 : List Bool) : Option (List Bool):=sacristyref01_Add.l0 k l0 l1 (([] : List Bool)) 0 0
theorem sacristyref01_Add.mono_l : ∀ k,(∀ y0 y1 y2 y3 y4,LeO (sacristyref01_Add.l0 k y0 y1 y2 y3 y4) (sacristyref01_Add.l0 (k + 1) y0 y1 y2 y3 y4)) ∧ (∀ y0 y1 y2 y3 y4 y5,LeO (sacristyref01_Add.j1 k y0 y1 y2 y3 y4 y5) (sacristyref01_Add.j1 (k + 1) y0 y1 y2 y3 y4 y5))
 |0 => ⟨fun _ _ _ _ _ r h => by simp [sacristyref01_Add.l0] at h,fun _ _ _ _ _ _ r h => by simp [sacristyref01_Add.j1] at h⟩
 |k + 1 => by
  obtain ⟨ih0,ih1⟩:=sacristyref01_Add.mono_l k
  refine ⟨?_,?_⟩
  ·intro y0 y1 y2 y3 y4
   unfold sacristyref01_Add.l0
   repeat' first
   |(with_reducible exact ih0 _ _ _ _ _)
   |(with_reducible exact ih1 _ _ _ _ _ _)
   |(with_reducible exact sacristyref01_Trim.mono _ _)
   |(with_reducible exact LeO.refl _)
   |(with_reducible exact LeO.none _)
   |(with_reducible refine LeO.ite ?_ ?_)
   |(with_reducible refine LeO.bind ?_ (fun _ => ?_))
   |exact ih0 _ _ _ _ _
   |exact ih1 _ _ _ _ _ _
   |exact sacristyref01_Trim.mono _ _
   |exact LeO.none _
   |refine LeO.ite ?_ ?_
   |refine LeO.bind ?_ (fun _ => ?_)
  ·intro y0 y1 y2 y3 y4 y5
   unfold sacristyref01_Add.j1
   repeat' first
   |(with_reducible exact ih0 _ _ _ _ _)
   |(with_reducible exact ih1 _ _ _ _ _ _)
   |(with_reducible exact sacristyref01_Trim.mono _ _)
   |(with_reducible exact LeO.refl _)
   |(with_reducible exact LeO.none _)
   |(with_reducible refine LeO.ite ?_ ?_)
   |(with_reducible refine LeO.bind ?_ (fun _ => ?_))
   |exact ih0 _ _ _ _ _
   |exact ih1 _ _ _ _ _ _
   |exact sacristyref01_Trim.mono _ _
   |exact LeO.none _
   |refine LeO.ite ?_ ?_
   |refine LeO.bind ?_ (fun _ => ?_)
theorem sacristyref01_Add.mono : ∀ a0 a1 k,LeO (sacristyref01_Add.f k a0 a1) (sacristyref01_Add.f (k + 1) a0 a1):=by
 intro a0 a1 k
 obtain ⟨ih0,ih1⟩:=sacristyref01_Add.mono_l k
 unfold sacristyref01_Add.f
 repeat' first
   |(with_reducible exact ih0 _ _ _ _ _)
   |(with_reducible exact ih1 _ _ _ _ _ _)
   |(with_reducible exact sacristyref01_Trim.mono _ _)
   |(with_reducible exact LeO.refl _)
   |(with_reducible exact LeO.none _)
   |(with_reducible refine LeO.ite ?_ ?_)
   |(with_reducible refine LeO.bind ?_ (fun _ => ?_))
   |exact ih0 _ _ _ _ _
   |exact ih1 _ _ _ _ _ _
   |exact sacristyref01_Trim.mono _ _
   |exact LeO.none _
   |refine LeO.ite ?_ ?_
   |refine LeO.bind ?_ (fun _ => ?_)
set_option maxHeartbeats 8000000 in
set_option maxRecDepth 100000 in
theorem sacristyref01_Add.calls (k : Nat) (A0 : Option Addr) (c0 : Nat) (l0 : List Bool) (A1 : Option Addr) (c1 : Nat) (l1 : List Bool) (r : List Bool) (w : World) (hr0 : Kd.C Kd.bool w A0 l0.length l0) (hc0 : l0.length ≤ c0) (hr1 : Kd.C Kd.bool w A1 l1.length l1) (hc1 : l1.length ≤ c1) (h : sacristyref01_Add.f k l0 l1 = some r) :
  Calls Try.prog 64 #[.slice A0 l0.length c0,.slice A1 l1.length c1] w fun e w' => ∃ v0_ : Value,e = .returned (v0_) ∧ Kd.V Kd.bool 4 w' w.heap.size (fun k_ => (w.heap.size ≤ k_)) v0_ r ∧ Below w.heap.size w w':=by
 have HR0:=Aside0.mk hr0
 have HC0:=Aside0.mk hc0
 clear hr0 hc0
 have HR1:=Aside0.mk hr1
 have HC1:=Aside0.mk hc1
 clear hr1 hc1
 have HB:=Aside0.mk (Below.refl w.heap.size w)
 have H : (sacristyref01_Add.l0 k l0 l1 (([] : List Bool)) 0 0) = some r:=h
 clear h
 obtain ⟨y850,hy850⟩ : ∃ y_ : List Bool,y_ = (([] : List Bool)):=⟨_,rfl⟩
 replace H : (sacristyref01_Add.l0 k l0 l1 y850 0 0) = some r:=by first|(rw [hy850];with_reducible exact H)|(have H2_:=(Option.bind_some _ _).symm.trans H;rw [hy850];with_reducible exact H2_)|(have H2_:=(Option.bind_some _ _).symm.trans H;with_reducible exact H2_)|with_reducible exact H|(rw [hy850];exact H)|exact H
 have Ny850:=Aside0.mk hy850
 clear hy850
 have H':=Aside0.mk H
 clear H
 go_enter Try.func64,Try.ntmps64
 go_wp2_with (first|((with_reducible refine gate_dst (N:=9) rfl ?_);(try (refine gate_guard (by rfl) ?_;dsimp only));refine Kd.R_lit Kd.bool _ 4 ?hg (N:=9) ?hd (xs:=([] : List Bool)) (inner:=[]) (ok:=fun _ => True) (okp:=fun _ => True) ?hr ?hp (fun _ hk => hk) trivial (Below.refl _ _) (Nat.le_refl _) (by simp) ?_;(case hd => rfl);(case hg => rfl);(case hr => first|(go_simp;done)|(go_simp;rfl));(case hp => exact (Reps.none _ _));intro v851 w3 ho4 hb hg_ hnew_;clear hg_ hnew_;(first|rw [← Ny850.out] at ho4|(simp only [Int.reduceToNat] at ho4;rw [← Ny850.out] at ho4));have HO852:=Aside0.mk (Kd.R_lower (Kd.R_newM (M:=fun k_ => (w.heap.size ≤ k_)) ho4 (below_size (qS HB)) (fun k_ h_ => h_)) (below_size (qS HB)));replace HB:=qs HB hb;clear hb ho4))
 go_loopg [5,6,7] k (fun kq v5 v6 v7 w' => ∃ (x5_1 : List Bool) (x6_1 : Int) (x7_1 : Int),v6 = .int .i64 x6_1 ∧ v7 = .int .i64 x7_1 ∧ Aside0 (sacristyref01_Add.l0 kq l0 l1 x5_1 x6_1 x7_1 = some r) ∧ Aside0 (kq ≤ k) ∧ Aside0 (Kd.R Kd.bool 4 w' w.heap.size (fun k_ => (w.heap.size ≤ k_)) v5 x5_1) ∧ Aside0 (Below w.heap.size w w'))
 case atStart => exact ⟨(y850),(0),(0),(by first|rfl|(simp;done)|(simp [*];done)),(by first|rfl|(simp;done)|(simp [*];done)),H',⟨Nat.le_refl _⟩,⟨qRm HO852⟩,⟨qS HB⟩⟩
 case round =>
  clear H'
  try clear c1
  try clear p2
  obtain ⟨x5_1,x6_1,x7_1,rfl,rfl,HA,HK1,HO_5,HB⟩:=hrel
  cases gk with
  |zero => exact absurd HA.out (by simp [sacristyref01_Add.l0])
  |succ k1 =>
   have H:=HA.out
   clear HA
   simp only [sacristyref01_Add.l0] at H
   have HC5:=Aside0.mk H
   clear H
   go_upto_region 4 with (fail)
   go_cut [23] (fun v23 wc => ∃ (kq : Nat) (x23_4 : Bool),v23 = .bool x23_4 ∧ Aside0 (sacristyref01_Add.j1 kq l0 l1 x5_1 x6_1 x7_1 x23_4 = some r) ∧ Aside0 (kq ≤ k1) ∧ Aside0 (Kd.R Kd.bool 4 wc w.heap.size (fun k_ => (w.heap.size ≤ k_)) u5 x5_1) ∧ Aside0 (Below w.heap.size w wc))
   case first =>
    have H:=HC5.out
    clear HC5
    by_cases c6 : x7_1 < (l0.length : Int)
    ·rw [if_pos c6] at H
     have c6b0 : decide (x7_1 < (l0.length : Int)) = true:=decide_eq_true c6
     clear c6
     (first|rw [c6b0]|(simp only [i64_w,i32_w];rw [c6b0])|skip)
     have H':=Aside0.mk H
     clear H
     go_wp2
     go_meet
     case rel => exact ⟨_,(true),(by first|rfl|(simp;done)|(simp [*];done)),H',⟨by have:=HK1.out;first|omega|exact Nat.le_refl _⟩,⟨qRm HO_5⟩,⟨qS HB⟩⟩
    ·rw [if_neg c6] at H
     have c6b0 : decide (x7_1 < (l0.length : Int)) = false:=decide_eq_false c6
     clear c6
     (first|rw [c6b0]|(simp only [i64_w,i32_w];rw [c6b0])|skip)
     by_cases c7 : x7_1 < (l1.length : Int)
     ·rw [if_pos c7] at H
      have c7b0 : decide (x7_1 < (l1.length : Int)) = true:=decide_eq_true c7
      clear c7
      have H':=Aside0.mk H
      clear H
      go_wp2
      go_meet
      case rel => exact ⟨_,(true),(by first|rfl|(simp;done)|(simp [*];done)),H',⟨by have:=HK1.out;first|omega|exact Nat.le_refl _⟩,⟨qRm HO_5⟩,⟨qS HB⟩⟩
     ·rw [if_neg c7] at H
      have c7b0 : decide (x7_1 < (l1.length : Int)) = false:=decide_eq_false c7
      clear c7
      have H':=Aside0.mk H
      clear H
      go_wp2
      go_meet
      case rel => exact ⟨_,(decide (x6_1 > 0)),(by first|rfl|(simp;done)|(simp [*];done)),H',⟨by have:=HK1.out;first|omega|exact Nat.le_refl _⟩,⟨qRm HO_5⟩,⟨qS HB⟩⟩
   case rest =>
    clear HC5
    try clear c1
    try clear p2
    try clear c6
    try clear c6b0
    try clear c7
    try clear c7b0
    try clear p2
    obtain ⟨kq,x23_4,rfl,HA,HJ4,HO_5,HB⟩:=hcut
    cases kq with
    |zero => exact absurd HA.out (by simp [sacristyref01_Add.j1])
    |succ kj4 =>
     have H:=HA.out
     clear HA
     simp only [sacristyref01_Add.j1] at H
     by_cases c8 : x23_4 = true
     ·subst c8
      rw [if_pos rfl] at H
      obtain ⟨t853,A9,H⟩:=qH H
      obtain ⟨t854,A10,H⟩:=qH H
      by_cases c11 : x5_1.length < 140737488355328
      ·rw [if_pos c11] at H
       have LMc11:=Aside0.mk c11
       clear c11
       obtain ⟨y855,hy855⟩ : ∃ y_ : List Bool,y_ = (x5_1 ++ [((Int.tmod (wrap64 ((wrap64 (t853 + t854)) + x6_1)) 2) == 1)]):=⟨_,rfl⟩
       replace H : (sacristyref01_Add.l0 kj4 l0 l1 y855 (wrap64 (Int.tdiv (wrap64 ((wrap64 (t853 + t854)) + x6_1)) 2)) (wrap64 (x7_1 + 1))) = some r:=by first|(rw [hy855];with_reducible exact H)|(have H2_:=(Option.bind_some _ _).symm.trans H;rw [hy855];with_reducible exact H2_)|(have H2_:=(Option.bind_some _ _).symm.trans H;with_reducible exact H2_)|with_reducible exact H|(rw [hy855];exact H)|exact H
       have Ny855:=Aside0.mk hy855
       clear hy855
       have H':=Aside0.mk H
       clear H
       go_wp2_with (first|((with_reducible refine gate_callee (f:=112) rfl ?_);refine gL (some 28) Try.func112 #[.slice A0 l0.length c0,.int .i64 x7_1] ?_;(with_reducible refine (sacristyref01_at.calls _ _ l0 x7_1 t853 _ ?side1 ?side2 A9.out).mono ?_);(case side1 => exact qCB HR0 HB);(case side2 => exact HC0.out);rintro e w' ⟨rfl,⟨nd,rfl⟩⟩;refine ⟨_,rfl,?_⟩)|((with_reducible refine gate_callee (f:=112) rfl ?_);refine gL (some 31) Try.func112 #[.slice A1 l1.length c1,.int .i64 x7_1] ?_;(with_reducible refine (sacristyref01_at.calls _ _ l1 x7_1 t854 _ ?side1 ?side2 A10.out).mono ?_);(case side1 => repeat (first|exact (Kd.C_below HR1.out (qS HB))|(with_reducible refine Kd.C_alloc ?_ _)|(with_reducible refine Kd.C_drewN ?_ _)|(with_reducible refine Kd.C_drew ?_)));(case side2 => exact HC1.out);rintro e w' ⟨rfl,⟨nd,rfl⟩⟩;refine ⟨_,rfl,?_⟩)|((with_reducible refine gate_builtin (b:=.append) (xs:=#[.tmp 35,.tmp 39]) rfl ?_);(try (refine gate_guard (by rfl) ?_;dsimp only));at_builtin;refine Kd.R_append Kd.bool (w0:=w) w.heap.size rfl (.tmp 35) (.tmp 39) 42 4 (.bool false) 1 rfl Try.underlying42 info4 rfl (by decide) (by omega) u5 x5_1 ((Int.tmod (wrap64 ((wrap64 (t853 + t854)) + x6_1)) 2) == 1) [.bool ((Int.tmod (wrap64 ((wrap64 (t853 + t854)) + x6_1)) 2) == 1)] (fun k_ => (w.heap.size ≤ k_)) (fun _ => False) rfl rfl ?aP (fun _ hk => hk.elim) ?aF ?aO ?aB ?aS ?aL ?_;(case aP => exact rfl);(case aB => exact (qS HB));(case aF => exact (fun k_ hk => (Nat.le_trans (below_size (qS HB)) hk)));(case aO => exact (qRm HO_5));(case aS => exact (below_size (qS HB)));(case aL => have:=LMc11.out;omega);intro v856 w12 ho hb hg hat;rw [← Ny855.out] at ho;replace HB:=Aside0.mk (hb);have HO857:=Aside0.mk (ho);(try clear HO_5);clear ho hb hg hat))
       go_roundg kj4
       case measure => have:=HK1.out;have:=HJ4.out;omega
       case rel => exact ⟨(y855),(wrap64 (Int.tdiv (wrap64 ((wrap64 (t853 + t854)) + x6_1)) 2)),(wrap64 (x7_1 + 1)),(by first|rfl|(simp;done)|(simp [*];done)),(by first|rfl|(simp;done)|(simp [*];done)),H',⟨by have:=HK1.out;have:=HJ4.out;omega⟩,⟨qRm HO857⟩,⟨qS HB⟩⟩
      ·rw [if_neg c11] at H
       exact absurd H (by simp)
     ·replace c8:=Bool.eq_false_iff.mpr c8
      subst c8
      rw [qFT] at H
      obtain ⟨t858,A13,H⟩:=qH H
      obtain rfl:=Option.some.inj H
      obtain ⟨Ao14,co14,eo14⟩:=Kd.R_slice HO_5.out
      subst eo14
      go_wp2_with (first|((with_reducible refine gate_callee (f:=111) rfl ?_);refine gL (some 44) Try.func111 #[.slice Ao14 x5_1.length co14] ?_;(with_reducible refine (sacristyref01_Trim.calls kj4 (fun k_ => some k_ = (.slice Ao14 x5_1.length co14 : Value).ownBlock) _ _ x5_1 t858 _ ?side1 A13.out).mono ?_);(case side1 => exact Kd.R_V (Kd.R_tight rfl (HO_5.out)));rintro e w15 ⟨v859,rfl,ho0,hb⟩;refine ⟨_,rfl,?_⟩;have HO860:=Aside0.mk (Kd.V_lower (Kd.V_mono (ok':=fun k_ => (w.heap.size ≤ k_)) ho0 (fun k_ hk_ => Or.elim hk_ (fun hs_ => ((HO_5.out).1 k_ hs_.symm)) (fun hn_ => (Nat.le_trans (below_size (qS HB)) hn_)))) (below_size (qS HB)));replace HO_5:=qRb HO_5 hb;replace HB:=qs HB hb;clear hb ho0))
      (first|go_ret|(refine ⟨_,results_tmp rfl _ _ _,?_⟩))
      exact ⟨_,by first|rfl|(simp [errW_none,errW_some] <;> rfl)|(simp [*,errW_none,errW_some] <;> rfl),qVm HO860,qS HB⟩
end Go.Proofs.Yteejcpbngnojkaa.P
end
section
namespace Go.Proofs.Yteejcpbngnojkaa.P
open Go.RowKit Go.Proofs.YteejcpbngnojkaaW.PrintWords Go.Proofs.YteejcpbngnojkaaW.PrintLast Go.Proofs.YteejcpbngnojkaaW.PrintMore
attribute [local go_sem] max2_int min2_int max_two min_two max_three min_three max_four min_four
set_option linter.unusedVariables false
set_option linter.unusedSimpArgs false
def sacristylaw01_NatSums.j0 : Nat → List Bool → List Bool → Bool → List Int → List Int → Option (Bool)
 |0,_,_,_,_,_ => none
 |k + 1,x7,x8,x52,x1028000,x1029000 => if x52 = true then (none) else ((nat_Nat_Add.f k x1028000 x1029000).bind fun t1040 => ((sacristyref01_Add.f k x7 x8).bind fun t1043 => ((sacristylaw01_Same.f k t1040 t1043).bind fun t1046 => (if t1046 = true then ((sacristylaw01_Same.f k x1028000 x7).bind fun t1047 => (if t1047 = true then ((sacristylaw01_Same.f k x1029000 x8).bind fun t1048 => (some t1048)) else (none))) else (none)))))
def sacristylaw01_NatSums.f (k : Nat) (l0 : List Int) (l1 : List Int) : Option (Bool):=(sacristylaw01_lives.f k).bind fun t1014 => (if t1014 = true then ((sacristylaw01_Num.f k l0).bind fun t1015 => ((sacristylaw01_Num.f k l1).bind fun t1018 => ((sacristylaw01_ref.f k l0).bind fun t1021 => ((sacristylaw01_ref.f k l1).bind fun t1024 => ((nat_Nat_Sub.f k t1015 t1018).bind fun bt1029 => ((sacristyref01_Cmp.f k t1021 t1024).bind fun t1034 => (if (bt1029.2 != (decide (t1034 ≥ 0))) = true then (sacristylaw01_NatSums.j0 k t1021 t1024 true t1015 t1018) else (if bt1029.2 = true then ((sacristyref01_Sub.f k t1021 t1024).bind fun t1035 => ((sacristylaw01_Same.f k bt1029.1 t1035).bind fun t1038 => (sacristylaw01_NatSums.j0 k t1021 t1024 (!t1038) t1015 t1018))) else ((nat_Nat_Zero.f bt1029.1).bind fun t1039 => (if t1039 = true then (sacristylaw01_NatSums.j0 k t1021 t1024 false t1015 t1018) else (sacristylaw01_NatSums.j0 k t1021 t1024 true t1015 t1018))))))))))) else (none))
theorem sacristylaw01_NatSums.mono_l : ∀ k,(∀ y0 y1 y2 y3 y4,LeO (sacristylaw01_NatSums.j0 k y0 y1 y2 y3 y4) (sacristylaw01_NatSums.j0 (k + 1) y0 y1 y2 y3 y4))
 |0 => fun _ _ _ _ _ r h => by simp [sacristylaw01_NatSums.j0] at h
 |k + 1 => by
  have ih0:=sacristylaw01_NatSums.mono_l k
  ·intro y0 y1 y2 y3 y4
   unfold sacristylaw01_NatSums.j0
   repeat' first
   |(with_reducible exact ih0 _ _ _ _ _)
   |(with_reducible exact nat_Nat_Add.mono _ _ _)
   |(with_reducible exact nat_Nat_Sub.mono _ _ _)
   |(with_reducible exact sacristylaw01_Num.mono _ _)
   |(with_reducible exact sacristylaw01_Same.mono _ _ _)
   |(with_reducible exact sacristylaw01_lives.mono _)
   |(with_reducible exact sacristylaw01_ref.mono _ _)
   |(with_reducible exact sacristyref01_Add.mono _ _ _)
   |(with_reducible exact sacristyref01_Cmp.mono _ _ _)
   |(with_reducible exact sacristyref01_Sub.mono _ _ _)
   |(with_reducible exact LeO.refl _)
   |(with_reducible exact LeO.none _)
   |(with_reducible refine LeO.ite ?_ ?_)
   |(with_reducible refine LeO.bind ?_ (fun _ => ?_))
   |exact ih0 _ _ _ _ _
   |exact nat_Nat_Add.mono _ _ _
   |exact nat_Nat_Sub.mono _ _ _
   |exact sacristylaw01_Num.mono _ _
   |exact sacristylaw01_Same.mono _ _ _
   |exact sacristylaw01_lives.mono _
   |exact sacristylaw01_ref.mono _ _
   |exact sacristyref01_Add.mono _ _ _
   |exact sacristyref01_Cmp.mono _ _ _
   |exact sacristyref01_Sub.mono _ _ _
   |exact LeO.none _
   |refine LeO.ite ?_ ?_
   |refine LeO.bind ?_ (fun _ => ?_)
theorem sacristylaw01_NatSums.mono : ∀ a0 a1 k,LeO (sacristylaw01_NatSums.f k a0 a1) (sacristylaw01_NatSums.f (k + 1) a0 a1):=by
 intro a0 a1 k
 have ih0:=sacristylaw01_NatSums.mono_l k
 unfold sacristylaw01_NatSums.f
 repeat' first
   |(with_reducible exact ih0 _ _ _ _ _)
   |(with_reducible exact nat_Nat_Add.mono _ _ _)
   |(with_reducible exact nat_Nat_Sub.mono _ _ _)
   |(with_reducible exact sacristylaw01_Num.mono _ _)
   |(with_reducible exact sacristylaw01_Same.mono _ _ _)
   |(with_reducible exact sacristylaw01_lives.mono _)
   |(with_reducible exact sacristylaw01_ref.mono _ _)
   |(with_reducible exact sacristyref01_Add.mono _ _ _)
   |(with_reducible exact sacristyref01_Cmp.mono _ _ _)
   |(with_reducible exact sacristyref01_Sub.mono _ _ _)
   |(with_reducible exact LeO.refl _)
   |(with_reducible exact LeO.none _)
   |(with_reducible refine LeO.ite ?_ ?_)
   |(with_reducible refine LeO.bind ?_ (fun _ => ?_))
   |exact ih0 _ _ _ _ _
   |exact nat_Nat_Add.mono _ _ _
   |exact nat_Nat_Sub.mono _ _ _
   |exact sacristylaw01_Num.mono _ _
   |exact sacristylaw01_Same.mono _ _ _
   |exact sacristylaw01_lives.mono _
   |exact sacristylaw01_ref.mono _ _
   |exact sacristyref01_Add.mono _ _ _
   |exact sacristyref01_Cmp.mono _ _ _
   |exact sacristyref01_Sub.mono _ _ _
   |exact LeO.none _
   |refine LeO.ite ?_ ?_
   |refine LeO.bind ?_ (fun _ => ?_)
def sacristylaw01_NatSums.T5 : Bool × List (List Nat × List Nat):=(true,[([],[]),([],[]),([],[]),([1,2],[1,2]),([3],[3]),([0,4],[0,4]),([5,3],[5]),([6],[6]),([7,6],[6,7]),([8,6,6],[6,8]),([9],[9]),([10,9,9],[9,10]),([11,9],[9,11]),([9,12,6],[6,9,12]),([6,13],[6,13]),([14,11],[14]),([15],[15]),([16,15,15],[15,16]),([17],[17]),([17],[17]),([17],[17]),([19,20,17,17],[17,19,20]),([18,21,21,17],[17,18,21]),([22,17],[17,22]),([17,23,15],[15,17,23]),([15,24],[15,24])])
def sacristylaw01_NatSums.B5 : List Nat:=[0,0,0,6,14,31,63,127,255,511,1023,2047,4095,8191,16383,32767,65535,131071,262143,262143,262143,1835007,4194303,8388607,16777215,33554431]
theorem sacristylaw01_NatSums.tab5 : rtab .any (opsOf Try.f16 5) = sacristylaw01_NatSums.T5:=by kernel_rfl
theorem sacristylaw01_NatSums.bits5 : waitsOk sacristylaw01_NatSums.T5.2 sacristylaw01_NatSums.B5 = true:=by kernel_rfl
set_option maxHeartbeats 8000000 in
set_option maxRecDepth 100000 in
theorem sacristylaw01_NatSums.calls (k : Nat) (A0 : Option Addr) (c0 : Nat) (l0 : List Int) (A1 : Option Addr) (c1 : Nat) (l1 : List Int) (r : Bool) (w : World) (hr0 : Kd.C (Kd.int .u8) w A0 l0.length l0) (hc0 : l0.length ≤ c0) (hr1 : Kd.C (Kd.int .u8) w A1 l1.length l1) (hc1 : l1.length ≤ c1) (h : sacristylaw01_NatSums.f k l0 l1 = some r) :
  Calls Try.prog 16 #[.slice A0 l0.length c0,.slice A1 l1.length c1] w fun e w' => e = .returned (.bool r) ∧ Below w.heap.size w w':=by
 have hu38:=Try.underlying38
 have HR0:=Aside0.mk hr0
 have HC0:=Aside0.mk hc0
 clear hr0 hc0
 have HR1:=Aside0.mk hr1
 have HC1:=Aside0.mk hc1
 clear hr1 hc1
 have HB:=Aside0.mk (Below.refl w.heap.size w)
 have H : ((sacristylaw01_lives.f k).bind fun t1014 => (if t1014 = true then ((sacristylaw01_Num.f k l0).bind fun t1015 => ((sacristylaw01_Num.f k l1).bind fun t1018 => ((sacristylaw01_ref.f k l0).bind fun t1021 => ((sacristylaw01_ref.f k l1).bind fun t1024 => ((nat_Nat_Sub.f k t1015 t1018).bind fun bt1029 => ((sacristyref01_Cmp.f k t1021 t1024).bind fun t1034 => (if (bt1029.2 != (decide (t1034 ≥ 0))) = true then (sacristylaw01_NatSums.j0 k t1021 t1024 true t1015 t1018) else (if bt1029.2 = true then ((sacristyref01_Sub.f k t1021 t1024).bind fun t1035 => ((sacristylaw01_Same.f k bt1029.1 t1035).bind fun t1038 => (sacristylaw01_NatSums.j0 k t1021 t1024 (!t1038) t1015 t1018))) else ((nat_Nat_Zero.f bt1029.1).bind fun t1039 => (if t1039 = true then (sacristylaw01_NatSums.j0 k t1021 t1024 false t1015 t1018) else (sacristylaw01_NatSums.j0 k t1021 t1024 true t1015 t1018))))))))))) else (none))) = some r:=h
 clear h
 obtain ⟨t1014,A3,H⟩:=qH H
 by_cases c4 : t1014 = true
 ·subst c4
  rw [if_pos rfl] at H
  obtain ⟨t1015,A5,H⟩:=qH H
  obtain ⟨t1018,A6,H⟩:=qH H
  obtain ⟨t1021,A7,H⟩:=qH H
  obtain ⟨t1024,A8,H⟩:=qH H
  obtain ⟨⟨t1029,t1032⟩,A9,H⟩:=qH H
  dsimp only at H
  have HC10:=Aside0.mk H
  clear H
  go_enter Try.func16,Try.ntmps16
  go_upto_region 5 with (first|((with_reducible refine gate_callee (f:=34) rfl ?_);refine gL (some 11) Try.func34 #[] ?_;(with_reducible refine (sacristylaw01_lives.calls k  true _ A3.out).mono ?_);rintro e w11 ⟨rfl,hb⟩;refine ⟨_,rfl,?_⟩;replace HB:=qs HB hb;clear hb)|((with_reducible refine gate_callee (f:=40) rfl ?_);refine gL (some 14) Try.func40 #[.slice A0 l0.length c0] ?_;(with_reducible refine (sacristylaw01_Num.calls k _ _ l0 t1015 _ ?side1 ?side2 A5.out).mono ?_);(case side1 => exact qCB HR0 HB);(case side2 => exact HC0.out);rintro e w12 ⟨v1016,rfl,ho0,hb⟩;refine ⟨_,rfl,?_⟩;have HO1017:=Aside0.mk (Kd.V_lower (Kd.V_mono (ok':=fun k_ => True) ho0 (fun k_ hk_ => trivial)) (below_size (qS HB)));replace HB:=qs HB hb;clear hb ho0)|((with_reducible refine gate_callee (f:=40) rfl ?_);refine gL (some 16) Try.func40 #[.slice A1 l1.length c1] ?_;(with_reducible refine (sacristylaw01_Num.calls k _ _ l1 t1018 _ ?side1 ?side2 A6.out).mono ?_);(case side1 => exact qCB HR1 HB);(case side2 => exact HC1.out);rintro e w13 ⟨v1019,rfl,ho0,hb⟩;refine ⟨_,rfl,?_⟩;replace HO1017:=qVb HO1017 hb;have HO1020:=Aside0.mk (Kd.V_lower (Kd.V_mono (ok':=fun k_ => True) ho0 (fun k_ hk_ => trivial)) (below_size (qS HB)));replace HB:=qs HB hb;clear hb ho0)|((with_reducible refine gate_callee (f:=41) rfl ?_);refine gL (some 18) Try.func41 #[.slice A0 l0.length c0] ?_;(with_reducible refine (sacristylaw01_ref.calls k _ _ l0 t1021 _ ?side1 ?side2 A7.out).mono ?_);(case side1 => exact qCB HR0 HB);(case side2 => exact HC0.out);rintro e w14 ⟨v1022,rfl,ho0,hb⟩;refine ⟨_,rfl,?_⟩;replace HO1017:=qVb HO1017 hb;replace HO1020:=qVb HO1020 hb;have HO1023:=Aside0.mk (Kd.V_lower (Kd.V_mono (ok':=fun k_ => True) ho0 (fun k_ hk_ => trivial)) (below_size (qS HB)));replace HB:=qs HB hb;clear hb ho0)|((with_reducible refine gate_callee (f:=41) rfl ?_);refine gL (some 20) Try.func41 #[.slice A1 l1.length c1] ?_;(with_reducible refine (sacristylaw01_ref.calls k _ _ l1 t1024 _ ?side1 ?side2 A8.out).mono ?_);(case side1 => exact qCB HR1 HB);(case side2 => exact HC1.out);rintro e w15 ⟨v1025,rfl,ho0,hb⟩;refine ⟨_,rfl,?_⟩;replace HO1017:=qVb HO1017 hb;replace HO1020:=qVb HO1020 hb;replace HO1023:=qVb HO1023 hb;have HO1026:=Aside0.mk (Kd.V_lower (Kd.V_mono (ok':=fun k_ => True) ho0 (fun k_ hk_ => trivial)) (below_size (qS HB)));replace HB:=qs HB hb;clear hb ho0)|((with_reducible refine gate_dst (N:=5) rfl ?_);refine qX #[.slice none 0 0] 38 ?_;intro gb1027 hg w16 hbox hb;replace HO1017:=qVe HO1017 hb hg;replace HO1020:=qVe HO1020 hb hg;replace HO1023:=qVe HO1023 hb hg;replace HO1026:=qVe HO1026 hb hg;have BK1027:=Aside0.mk hbox;have GE1027:=qh hg HB;replace HB:=qs HB hb;clear hb hbox hg)|((with_reducible refine gate_dst (N:=6) rfl ?_);refine qX #[.slice none 0 0] 38 ?_;intro gb1028 hg w17 hbox hb;replace HO1017:=qVe HO1017 hb hg;replace HO1020:=qVe HO1020 hb hg;replace HO1023:=qVe HO1023 hb hg;replace HO1026:=qVe HO1026 hb hg;have BK1028:=Aside0.mk hbox;have GE1028:=qh hg HB;replace HB:=qs HB hb;have NB1027_1028:=ql hg BK1027;have NB1028_1027:=qg hg BK1027;replace BK1027:=qb BK1027 hb;clear hb hbox hg;obtain ⟨Ao18,co18,eo18⟩:=Kd.V_slice HO1017.out;subst eo18;have hnb19:=NB1027_1028.out;have hnc19:=NB1028_1027.out;have hcz20_0:=bc BK1027;have hfz20_0:=bz BK1027;obtain ⟨Ao21,co21,eo21⟩:=Kd.V_slice HO1020.out;subst eo21;have hcz22_0:=bc BK1028;have hfz22_0:=bz BK1028)|((with_reducible refine gate_callee (f:=62) rfl ?_);refine gL (some 24) Try.func62 #[.agg #[.slice Ao18 t1015.length co18],.agg #[.slice Ao21 t1018.length co21]] ?_;(with_reducible refine (nat_Nat_Sub.calls k _ _ t1015 _ _ t1018 t1029 t1032 _ ?side1 ?side2 ?side3 ?side4 A9.out).mono ?_);(case side1 => refine (Kd.V_reads' (e:=23) (base:=w.heap.size) (ok:=fun k_ => ((True ∧ k_ ≠ gb1027) ∧ k_ ≠ gb1028)) (n:=t1015.length) (c:=co18) ?_).2.2;exact (qVm HO1017));(case side2 => exact qL HO1017);(case side3 => refine (Kd.V_reads' (e:=23) (base:=w.heap.size) (ok:=fun k_ => ((True ∧ k_ ≠ gb1027) ∧ k_ ≠ gb1028)) (n:=t1018.length) (c:=co21) ?_).2.2;exact (qVm HO1020));(case side4 => exact qL HO1020);rintro e w23 ⟨v1030,rfl,ho0,hb⟩;refine ⟨_,rfl,?_⟩;replace HO1017:=qVb HO1017 hb;replace HO1020:=qVb HO1020 hb;replace HO1023:=qVb HO1023 hb;replace HO1026:=qVb HO1026 hb;have HO1031:=Aside0.mk (Kd.V_lower (Kd.V_mono (ok':=fun k_ => k_ ≠ gb1027 ∧ k_ ≠ gb1028) ho0 (fun k_ hk_ => ⟨(Kd.freshB (g:=gb1027) (o:=.cells #[.slice Ao18 t1015.length co18] 38 (0,0)) (by (with_reducible repeat (first|refine blk_drewN ?_ _|refine blk_drew ?_|refine blk_alloc ?_ _));refine blk_far ?_ NB1027_1028.out _;(with_reducible repeat (first|refine blk_drewN ?_ _|refine blk_drew ?_|refine blk_alloc ?_ _));refine blk_put (cs:=#[.slice none 0 0]) ?_ 0 _ rfl;(with_reducible repeat (first|refine blk_drewN ?_ _|refine blk_drew ?_|refine blk_alloc ?_ _));exact BK1027.out) k_ hk_),(Kd.freshB (g:=gb1028) (o:=.cells #[.slice Ao21 t1018.length co21] 38 (0,0)) (by (with_reducible repeat (first|refine blk_drewN ?_ _|refine blk_drew ?_|refine blk_alloc ?_ _));refine blk_put (cs:=#[.slice none 0 0]) ?_ 0 _ rfl;(with_reducible repeat (first|refine blk_drewN ?_ _|refine blk_drew ?_|refine blk_alloc ?_ _));refine blk_far ?_ NB1028_1027.out _;(with_reducible repeat (first|refine blk_drewN ?_ _|refine blk_drew ?_|refine blk_alloc ?_ _));exact BK1028.out) k_ hk_)⟩)) (below_size (qS HB)));replace BK1027:=Aside0.mk (blk_below (g:=gb1027) (o:=.cells #[.slice Ao18 t1015.length co18] 38 (0,0)) (by (with_reducible repeat (first|refine blk_drewN ?_ _|refine blk_drew ?_|refine blk_alloc ?_ _));refine blk_far ?_ NB1027_1028.out _;(with_reducible repeat (first|refine blk_drewN ?_ _|refine blk_drew ?_|refine blk_alloc ?_ _));refine blk_put (cs:=#[.slice none 0 0]) ?_ 0 _ rfl;(with_reducible repeat (first|refine blk_drewN ?_ _|refine blk_drew ?_|refine blk_alloc ?_ _));exact BK1027.out) hb);replace BK1028:=Aside0.mk (blk_below (g:=gb1028) (o:=.cells #[.slice Ao21 t1018.length co21] 38 (0,0)) (by (with_reducible repeat (first|refine blk_drewN ?_ _|refine blk_drew ?_|refine blk_alloc ?_ _));refine blk_put (cs:=#[.slice none 0 0]) ?_ 0 _ rfl;(with_reducible repeat (first|refine blk_drewN ?_ _|refine blk_drew ?_|refine blk_alloc ?_ _));refine blk_far ?_ NB1028_1027.out _;(with_reducible repeat (first|refine blk_drewN ?_ _|refine blk_drew ?_|refine blk_alloc ?_ _));exact BK1028.out) hb);replace HB:=qs HB hb;clear hb ho0)|((with_reducible refine gate_dst (N:=9) rfl ?_);refine qX #[.slice none 0 0] 38 ?_;intro gb1033 hg w24 hbox hb;replace HO1017:=qVe HO1017 hb hg;replace HO1020:=qVe HO1020 hb hg;replace HO1023:=qVe HO1023 hb hg;replace HO1026:=qVe HO1026 hb hg;replace HO1031:=qVe HO1031 hb hg;have BK1033:=Aside0.mk hbox;have GE1033:=qh hg HB;replace HB:=qs HB hb;have NB1027_1033:=ql hg BK1027;have NB1033_1027:=qg hg BK1027;replace BK1027:=qb BK1027 hb;have NB1028_1033:=ql hg BK1028;have NB1033_1028:=qg hg BK1028;replace BK1028:=qb BK1028 hb;clear hb hbox hg;obtain ⟨Ao25,co25,eo25⟩:=Kd.V_slice HO1031.out;subst eo25;have hnb26:=NB1033_1027.out;have hnc26:=NB1027_1033.out;have hnb27:=NB1033_1028.out;have hnc27:=NB1028_1033.out;have hcz28_0:=bc BK1033;have hfz28_0:=bz BK1033))
  (try simp only [Act.put,List.setIfInBounds_toArray,List.set_cons_zero,List.set_cons_succ])
  go_cut [52] (fun v52 wc => ∃ (kq : Nat) (x52_9 : Bool),v52 = .bool x52_9 ∧ Aside0 (sacristylaw01_NatSums.j0 kq t1021 t1024 x52_9 t1015 t1018 = some r) ∧ Aside0 (kq ≤ k) ∧ Aside0 (Kd.V Kd.bool 4 wc w.heap.size (fun k_ => k_ ≠ gb1027 ∧ k_ ≠ gb1028 ∧ k_ ≠ gb1033) v1022 t1021) ∧ Aside0 (Kd.V Kd.bool 4 wc w.heap.size (fun k_ => k_ ≠ gb1027 ∧ k_ ≠ gb1028 ∧ k_ ≠ gb1033) v1025 t1024) ∧ Aside0 (Kd.V (Kd.int .u32) 23 wc w.heap.size (fun k_ => k_ ≠ gb1027 ∧ k_ ≠ gb1028 ∧ k_ ≠ gb1033) (.slice Ao18 t1015.length co18) t1015) ∧ Aside0 (Kd.V (Kd.int .u32) 23 wc w.heap.size (fun k_ => k_ ≠ gb1027 ∧ k_ ≠ gb1028 ∧ k_ ≠ gb1033) (.slice Ao21 t1018.length co21) t1018) ∧ Aside0 (Kd.V (Kd.int .u32) 23 wc w.heap.size (fun k_ => k_ ≠ gb1027 ∧ k_ ≠ gb1028 ∧ k_ ≠ gb1033) (.slice Ao25 t1029.length co25) t1029) ∧ Aside0 (wc.heap[gb1027]? = some (.cells #[(.slice Ao18 t1015.length co18)] 38 (0,0))) ∧ Aside0 (wc.heap[gb1028]? = some (.cells #[(.slice Ao21 t1018.length co21)] 38 (0,0))) ∧ Aside0 (wc.heap[gb1033]? = some (.cells #[(.slice Ao25 t1029.length co25)] 38 (0,0))) ∧ Aside0 (Below w.heap.size w wc))
  case first =>
   have H:=HC10.out
   clear HC10
   obtain ⟨t1034,A29,H⟩:=qH H
   by_cases c30 : (t1032 != (decide (t1034 ≥ 0))) = true
   ·rw [if_pos c30] at H
    have c30b0 : (t1032 != (decide (t1034 ≥ 0))) = true:=c30
    (try (have c30b1 : decide (t1032 = (decide (t1034 ≥ 0))) = false:=by simpa using c30))
    (try (have c30b2 : (t1032 == (decide (t1034 ≥ 0))) = false:=by simpa using c30))
    (try (have c30b3 : ¬ (t1032 = (decide (t1034 ≥ 0))):=by simpa using c30))
    clear c30
    (first|rw [c30b0]|(simp only [i64_w,i32_w];rw [c30b0])|skip)
    have H':=Aside0.mk H
    clear H
    try go_wp2
    generalize hw : (w24.setCell ⟨gb1033,0,none⟩ (.slice Ao25 t1029.length co25)) = w31
    replace hw:=hw.symm
    replace HO1017:=qVh hw HO1017
    replace HO1020:=qVh hw HO1020
    replace HO1023:=qVh hw HO1023
    replace HO1026:=qVh hw HO1026
    replace HO1031:=qVh hw HO1031
    replace BK1027:=qBh hw BK1027
    replace BK1028:=qBh hw BK1028
    replace BK1033:=qBp hw BK1033
    replace HB:=qSh hw HB
    clear hw
    replace HO1017:=qVw HO1017
    replace HO1020:=qVw HO1020
    replace HO1023:=qVw HO1023
    replace HO1026:=qVw HO1026
    replace HO1031:=qVw HO1031
    replace BK1027:=qbd BK1027
    replace BK1028:=qbd BK1028
    replace BK1033:=qbd BK1033
    replace HB:=qsd HB
    obtain ⟨Ao33,co33,eo33⟩:=Kd.V_slice HO1023.out
    (first|subst eo33|(injection eo33 with f1_ f2_ f3_;have f4_:=f1_.symm;have f5_:=f3_.symm;clear f1_ f2_ f3_;subst f4_;subst f5_))
    obtain ⟨Ao34,co34,eo34⟩:=Kd.V_slice HO1026.out
    (first|subst eo34|(injection eo34 with f1_ f2_ f3_;have f4_:=f1_.symm;have f5_:=f3_.symm;clear f1_ f2_ f3_;subst f4_;subst f5_))
    refine start_ (n:=26) (S:=fun w' => True) (ds:=[]) #[false,false,false,false,false,false,false,false,false,false,false,false,false,false,false,false,false,false,false,false,false,false,false,false,false,false] (by kernel_rfl) rfl rfl trivial (fun hHeld => ?_);refine with_tabW sacristylaw01_NatSums.tab5 sacristylaw01_NatSums.bits5 (fun HT_ HW_ => ?_)
    generalize w31.drew = w32 at HO1017 HO1020 HO1023 HO1026 HO1031 BK1027 BK1028 BK1033 HB hHeld ⊢
    refine qP 0 27 HT_ ?_
    refine qP 1 28 HT_ ?_
    refine qP 2 29 HT_ ?_
    refine q1 3 (some 30) HT_ rfl (fun K hK => ?_)
    refine g_ Try.func46 #[.slice Ao33 t1021.length co33,.slice Ao34 t1024.length co34] ?_
    with_reducible refine (sacristyref01_Cmp.calls k _ _ t1021 _ _ t1024 t1034 _ ?side1 ?side2 ?side3 ?side4 A29.out).mono ?_
    (case side1 => exact qCV HO1023)
    (case side2 => exact qL HO1023)
    (case side3 => exact qCV HO1026)
    (case side4 => exact qL HO1026)
    rintro e w' ⟨rfl,⟨nd,rfl⟩⟩
    refine ⟨_,rfl,?_⟩
    refine hK.out _ _ trivial (fun hHeld => ?_)
    clear hK K
    refine qO 30 ?_
    refine qP 4 31 HT_ ?_
    refine qP 5 32 HT_ ?_
    refine qP 6 33 HT_ ?_
    refine qU 7 34 HT_ ?_
    refine qU 8 35 HT_ ?_
    refine qU 9 36 HT_ ?_
    refine qU 10 37 HT_ ?_
    refine qU 11 38 HT_ ?_
    refine qU 12 39 HT_ ?_
    refine qU 13 40 HT_ ?_
    refine qP 14 41 HT_ ?_
    refine qP 15 42 HT_ ?_
    refine qU 16 43 HT_ ?_
    refine qU 17 44 HT_ ?_
    refine qU 18 45 HT_ ?_
    refine qU 19 46 HT_ ?_
    refine qU 20 47 HT_ ?_
    refine qU 21 48 HT_ ?_
    refine qU 22 49 HT_ ?_
    refine qU 23 50 HT_ ?_
    refine qU 24 51 HT_ ?_
    refine qP 25 52 HT_ ?_
    refine qD HT_ ?_
    try go_wp2
    go_meet
    case rel => exact ⟨_,(true),(by first|rfl|(simp;done)|(simp [*];done)),H',⟨by first|omega|exact Nat.le_refl _⟩,⟨qVm HO1023⟩,⟨qVm HO1026⟩,⟨qVm HO1017⟩,⟨qVm HO1020⟩,⟨qVm HO1031⟩,⟨qB BK1027.out⟩,⟨qB BK1028.out⟩,⟨qB BK1033.out⟩,⟨qS HB⟩⟩
   ·rw [if_neg c30] at H
    have c30b0 : (t1032 != (decide (t1034 ≥ 0))) = false:=by simpa using c30
    (try (have c30b1 : decide (t1032 = (decide (t1034 ≥ 0))) = true:=by simpa using c30))
    (try (have c30b2 : (t1032 == (decide (t1034 ≥ 0))) = true:=by simpa using c30))
    clear c30
    (first|rw [c30b0]|(simp only [i64_w,i32_w];rw [c30b0])|skip)
    by_cases c35 : t1032 = true
    ·subst c35
     rw [if_pos rfl] at H
     obtain ⟨t1035,A36,H⟩:=qH H
     obtain ⟨t1038,A37,H⟩:=qH H
     have H':=Aside0.mk H
     clear H
     try go_wp2
     generalize hw : (w24.setCell ⟨gb1033,0,none⟩ (.slice Ao25 t1029.length co25)) = w38
     replace hw:=hw.symm
     replace HO1017:=qVh hw HO1017
     replace HO1020:=qVh hw HO1020
     replace HO1023:=qVh hw HO1023
     replace HO1026:=qVh hw HO1026
     replace HO1031:=qVh hw HO1031
     replace BK1027:=qBh hw BK1027
     replace BK1028:=qBh hw BK1028
     replace BK1033:=qBp hw BK1033
     replace HB:=qSh hw HB
     clear hw
     replace HO1017:=qVw HO1017
     replace HO1020:=qVw HO1020
     replace HO1023:=qVw HO1023
     replace HO1026:=qVw HO1026
     replace HO1031:=qVw HO1031
     replace BK1027:=qbd BK1027
     replace BK1028:=qbd BK1028
     replace BK1033:=qbd BK1033
     replace HB:=qsd HB
     obtain ⟨Ao40,co40,eo40⟩:=Kd.V_slice HO1023.out
     (first|subst eo40|(injection eo40 with f1_ f2_ f3_;have f4_:=f1_.symm;have f5_:=f3_.symm;clear f1_ f2_ f3_;subst f4_;subst f5_))
     obtain ⟨Ao41,co41,eo41⟩:=Kd.V_slice HO1026.out
     (first|subst eo41|(injection eo41 with f1_ f2_ f3_;have f4_:=f1_.symm;have f5_:=f3_.symm;clear f1_ f2_ f3_;subst f4_;subst f5_))
     refine start_ (n:=26) (S:=fun w' => w'.cell? ⟨gb1033,0,none⟩ = some (.slice Ao25 t1029.length co25)) (ds:=[]) #[false,false,false,false,false,false,false,false,false,false,false,false,false,false,false,false,false,false,false,false,false,false,false,false,false,false] (by kernel_rfl) rfl rfl (bc BK1033) (fun hHeld => ?_);refine with_tabW sacristylaw01_NatSums.tab5 sacristylaw01_NatSums.bits5 (fun HT_ HW_ => ?_)
     generalize w38.drew = w39 at HO1017 HO1020 HO1023 HO1026 HO1031 BK1027 BK1028 BK1033 HB hHeld ⊢
     refine qP 0 27 HT_ ?_
     refine qP 1 28 HT_ ?_
     refine qP 2 29 HT_ ?_
     refine q1 3 (some 30) HT_ rfl (fun K hK => ?_)
     refine g_ Try.func46 #[.slice Ao40 t1021.length co40,.slice Ao41 t1024.length co41] ?_
     with_reducible refine (sacristyref01_Cmp.calls k _ _ t1021 _ _ t1024 t1034 _ ?side1 ?side2 ?side3 ?side4 A29.out).mono ?_
     (case side1 => exact qCV HO1023)
     (case side2 => exact qL HO1023)
     (case side3 => exact qCV HO1026)
     (case side4 => exact qL HO1026)
     rintro e w' ⟨rfl,⟨nd,rfl⟩⟩
     refine ⟨_,rfl,?_⟩
     refine hK.out _ _ (bc BK1033) (fun hHeld => ?_)
     clear hK K
     refine qO 30 ?_
     refine qP 4 31 HT_ ?_
     refine qP 5 32 HT_ ?_
     refine qP 6 33 HT_ ?_
     refine qP 7 34 HT_ ?_
     refine qP 8 35 HT_ ?_
     refine qP 9 36 HT_ ?_
     refine qU 10 37 HT_ ?_
     refine qU 11 38 HT_ ?_
     refine qU 12 39 HT_ ?_
     refine qP 13 40 HT_ ?_
     refine qP 14 41 HT_ ?_
     refine qP 15 42 HT_ ?_
     refine qP 16 43 HT_ ?_
     refine qP 17 44 HT_ ?_
     refine qP 19 46 HT_ ?_
     refine qP 20 47 HT_ ?_
     refine qT 18 45 HT_ HW_ hHeld ?_
     refine q1 21 (some 48) HT_ rfl (fun K hK => ?_)
     refine g_ Try.func63 #[.slice Ao40 t1021.length co40,.slice Ao41 t1024.length co41] ?_
     with_reducible refine (sacristyref01_Sub.calls k _ _ t1021 _ _ t1024 t1035 _ ?side1 ?side2 ?side3 ?side4 A36.out).mono ?_
     (case side1 => exact qCV HO1023)
     (case side2 => exact qL HO1023)
     (case side3 => exact qCV HO1026)
     (case side4 => exact qL HO1026)
     rintro e w42 ⟨v1036,rfl,ho0,hb⟩
     refine ⟨_,rfl,?_⟩
     replace HO1017:=qVb HO1017 hb
     replace HO1020:=qVb HO1020 hb
     replace HO1023:=qVb HO1023 hb
     replace HO1026:=qVb HO1026 hb
     replace HO1031:=qVb HO1031 hb
     have HO1037:=Aside0.mk (Kd.V_lower (Kd.V_mono (ok':=fun k_ => k_ ≠ gb1027 ∧ k_ ≠ gb1028 ∧ k_ ≠ gb1033) ho0 (fun k_ hk_ => ⟨(Kd.freshB (qB BK1027.out) k_ hk_),(Kd.freshB (qB BK1028.out) k_ hk_),(Kd.freshB (qB BK1033.out) k_ hk_)⟩)) (below_size (qS HB)))
     replace BK1027:=qb BK1027 hb
     replace BK1028:=qb BK1028 hb
     replace BK1033:=qb BK1033 hb
     replace HB:=qs HB hb
     clear hb ho0
     obtain ⟨Ao43,co43,eo43⟩:=Kd.V_slice HO1037.out
     (first|subst eo43|(injection eo43 with f1_ f2_ f3_;have f4_:=f1_.symm;have f5_:=f3_.symm;clear f1_ f2_ f3_;subst f4_;subst f5_))
     refine hK.out _ _ (bc BK1033) (fun hHeld => ?_)
     clear hK K
     refine qO 48 ?_
     refine q1 22 (some 49) HT_ rfl (fun K hK => ?_)
     refine g_ Try.func37 #[.agg #[.slice Ao25 t1029.length co25],.slice Ao43 t1035.length co43] ?_
     with_reducible refine (sacristylaw01_Same.calls k _ _ t1029 _ _ t1035 t1038 _ ?side1 ?side2 ?side3 ?side4 A37.out).mono ?_
     (case side1 => exact qCV HO1031)
     (case side2 => exact qL HO1031)
     (case side3 => exact qCV HO1037)
     (case side4 => exact qL HO1037)
     rintro e w44 ⟨rfl,hb⟩
     refine ⟨_,rfl,?_⟩
     replace HO1017:=qVb HO1017 hb
     replace HO1020:=qVb HO1020 hb
     replace HO1023:=qVb HO1023 hb
     replace HO1026:=qVb HO1026 hb
     replace HO1031:=qVb HO1031 hb
     replace HO1037:=qVb HO1037 hb
     replace BK1027:=qb BK1027 hb
     replace BK1028:=qb BK1028 hb
     replace BK1033:=qb BK1033 hb
     replace HB:=qs HB hb
     clear hb
     refine hK.out _ _ (bc BK1033) (fun hHeld => ?_)
     clear hK K
     refine qO 49 ?_
     refine qP 23 50 HT_ ?_
     refine qP 24 51 HT_ ?_
     refine qP 25 52 HT_ ?_
     refine qD HT_ ?_
     try go_wp2
     go_meet
     case rel => exact ⟨_,(!t1038),(by first|rfl|(simp;done)|(simp [*];done)),H',⟨by first|omega|exact Nat.le_refl _⟩,⟨qVm HO1023⟩,⟨qVm HO1026⟩,⟨qVm HO1017⟩,⟨qVm HO1020⟩,⟨qVm HO1031⟩,⟨qB BK1027.out⟩,⟨qB BK1028.out⟩,⟨qB BK1033.out⟩,⟨qS HB⟩⟩
    ·replace c35:=Bool.eq_false_iff.mpr c35
     subst c35
     rw [qFT] at H
     obtain ⟨t1039,A45,H⟩:=qH H
     by_cases c46 : t1039 = true
     ·subst c46
      rw [if_pos rfl] at H
      have H':=Aside0.mk H
      clear H
      try go_wp2
      generalize hw : (w24.setCell ⟨gb1033,0,none⟩ (.slice Ao25 t1029.length co25)) = w47
      replace hw:=hw.symm
      replace HO1017:=qVh hw HO1017
      replace HO1020:=qVh hw HO1020
      replace HO1023:=qVh hw HO1023
      replace HO1026:=qVh hw HO1026
      replace HO1031:=qVh hw HO1031
      replace BK1027:=qBh hw BK1027
      replace BK1028:=qBh hw BK1028
      replace BK1033:=qBp hw BK1033
      replace HB:=qSh hw HB
      clear hw
      replace HO1017:=qVw HO1017
      replace HO1020:=qVw HO1020
      replace HO1023:=qVw HO1023
      replace HO1026:=qVw HO1026
      replace HO1031:=qVw HO1031
      replace BK1027:=qbd BK1027
      replace BK1028:=qbd BK1028
      replace BK1033:=qbd BK1033
      replace HB:=qsd HB
      obtain ⟨Ao49,co49,eo49⟩:=Kd.V_slice HO1023.out
      (first|subst eo49|(injection eo49 with f1_ f2_ f3_;have f4_:=f1_.symm;have f5_:=f3_.symm;clear f1_ f2_ f3_;subst f4_;subst f5_))
      obtain ⟨Ao50,co50,eo50⟩:=Kd.V_slice HO1026.out
      (first|subst eo50|(injection eo50 with f1_ f2_ f3_;have f4_:=f1_.symm;have f5_:=f3_.symm;clear f1_ f2_ f3_;subst f4_;subst f5_))
      refine start_ (n:=26) (S:=fun w' => w'.cell? ⟨gb1033,0,none⟩ = some (.slice Ao25 t1029.length co25)) (ds:=[]) #[false,false,false,false,false,false,false,false,false,false,false,false,false,false,false,false,false,false,false,false,false,false,false,false,false,false] (by kernel_rfl) rfl rfl (bc BK1033) (fun hHeld => ?_);refine with_tabW sacristylaw01_NatSums.tab5 sacristylaw01_NatSums.bits5 (fun HT_ HW_ => ?_)
      generalize w47.drew = w48 at HO1017 HO1020 HO1023 HO1026 HO1031 BK1027 BK1028 BK1033 HB hHeld ⊢
      refine qP 0 27 HT_ ?_
      refine qP 1 28 HT_ ?_
      refine qP 2 29 HT_ ?_
      refine q1 3 (some 30) HT_ rfl (fun K hK => ?_)
      refine g_ Try.func46 #[.slice Ao49 t1021.length co49,.slice Ao50 t1024.length co50] ?_
      with_reducible refine (sacristyref01_Cmp.calls k _ _ t1021 _ _ t1024 t1034 _ ?side1 ?side2 ?side3 ?side4 A29.out).mono ?_
      (case side1 => exact qCV HO1023)
      (case side2 => exact qL HO1023)
      (case side3 => exact qCV HO1026)
      (case side4 => exact qL HO1026)
      rintro e w' ⟨rfl,⟨nd,rfl⟩⟩
      refine ⟨_,rfl,?_⟩
      refine hK.out _ _ (bc BK1033) (fun hHeld => ?_)
      clear hK K
      refine qO 30 ?_
      refine qP 4 31 HT_ ?_
      refine qP 5 32 HT_ ?_
      refine qP 6 33 HT_ ?_
      refine qP 7 34 HT_ ?_
      refine qP 8 35 HT_ ?_
      refine qP 9 36 HT_ ?_
      refine qT 10 37 HT_ HW_ hHeld ?_
      refine q1 11 (some 38) HT_ rfl (fun K hK => ?_)
      refine g_ Try.func44 #[.agg #[.slice Ao25 t1029.length co25]] ?_
      with_reducible refine (nat_Nat_Zero.calls _ _ t1029 true _ ?side1 ?side2 A45.out).mono ?_
      (case side1 => exact qCV HO1031)
      (case side2 => exact qL HO1031)
      rintro e w51 ⟨rfl,hb⟩
      refine ⟨_,rfl,?_⟩
      replace HO1017:=qVb HO1017 hb
      replace HO1020:=qVb HO1020 hb
      replace HO1023:=qVb HO1023 hb
      replace HO1026:=qVb HO1026 hb
      replace HO1031:=qVb HO1031 hb
      replace BK1027:=qb BK1027 hb
      replace BK1028:=qb BK1028 hb
      replace BK1033:=qb BK1033 hb
      replace HB:=qs HB hb
      clear hb
      refine hK.out _ _ (bc BK1033) (fun hHeld => ?_)
      clear hK K
      refine qO 38 ?_
      refine qP 12 39 HT_ ?_
      refine qP 13 40 HT_ ?_
      refine qP 14 41 HT_ ?_
      refine qP 15 42 HT_ ?_
      refine qP 16 43 HT_ ?_
      refine qP 17 44 HT_ ?_
      refine qU 18 45 HT_ ?_
      refine qU 19 46 HT_ ?_
      refine qU 20 47 HT_ ?_
      refine qU 21 48 HT_ ?_
      refine qU 22 49 HT_ ?_
      refine qU 23 50 HT_ ?_
      refine qP 24 51 HT_ ?_
      refine qP 25 52 HT_ ?_
      refine qD HT_ ?_
      try go_wp2
      go_meet
      case rel => exact ⟨_,(false),(by first|rfl|(simp;done)|(simp [*];done)),H',⟨by first|omega|exact Nat.le_refl _⟩,⟨qVm HO1023⟩,⟨qVm HO1026⟩,⟨qVm HO1017⟩,⟨qVm HO1020⟩,⟨qVm HO1031⟩,⟨qB BK1027.out⟩,⟨qB BK1028.out⟩,⟨qB BK1033.out⟩,⟨qS HB⟩⟩
     ·replace c46:=Bool.eq_false_iff.mpr c46
      subst c46
      rw [qFT] at H
      have H':=Aside0.mk H
      clear H
      try go_wp2
      generalize hw : (w24.setCell ⟨gb1033,0,none⟩ (.slice Ao25 t1029.length co25)) = w52
      replace hw:=hw.symm
      replace HO1017:=qVh hw HO1017
      replace HO1020:=qVh hw HO1020
      replace HO1023:=qVh hw HO1023
      replace HO1026:=qVh hw HO1026
      replace HO1031:=qVh hw HO1031
      replace BK1027:=qBh hw BK1027
      replace BK1028:=qBh hw BK1028
      replace BK1033:=qBp hw BK1033
      replace HB:=qSh hw HB
      clear hw
      replace HO1017:=qVw HO1017
      replace HO1020:=qVw HO1020
      replace HO1023:=qVw HO1023
      replace HO1026:=qVw HO1026
      replace HO1031:=qVw HO1031
      replace BK1027:=qbd BK1027
      replace BK1028:=qbd BK1028
      replace BK1033:=qbd BK1033
      replace HB:=qsd HB
      obtain ⟨Ao54,co54,eo54⟩:=Kd.V_slice HO1023.out
      (first|subst eo54|(injection eo54 with f1_ f2_ f3_;have f4_:=f1_.symm;have f5_:=f3_.symm;clear f1_ f2_ f3_;subst f4_;subst f5_))
      obtain ⟨Ao55,co55,eo55⟩:=Kd.V_slice HO1026.out
      (first|subst eo55|(injection eo55 with f1_ f2_ f3_;have f4_:=f1_.symm;have f5_:=f3_.symm;clear f1_ f2_ f3_;subst f4_;subst f5_))
      refine start_ (n:=26) (S:=fun w' => w'.cell? ⟨gb1033,0,none⟩ = some (.slice Ao25 t1029.length co25)) (ds:=[]) #[false,false,false,false,false,false,false,false,false,false,false,false,false,false,false,false,false,false,false,false,false,false,false,false,false,false] (by kernel_rfl) rfl rfl (bc BK1033) (fun hHeld => ?_);refine with_tabW sacristylaw01_NatSums.tab5 sacristylaw01_NatSums.bits5 (fun HT_ HW_ => ?_)
      generalize w52.drew = w53 at HO1017 HO1020 HO1023 HO1026 HO1031 BK1027 BK1028 BK1033 HB hHeld ⊢
      refine qP 0 27 HT_ ?_
      refine qP 1 28 HT_ ?_
      refine qP 2 29 HT_ ?_
      refine q1 3 (some 30) HT_ rfl (fun K hK => ?_)
      refine g_ Try.func46 #[.slice Ao54 t1021.length co54,.slice Ao55 t1024.length co55] ?_
      with_reducible refine (sacristyref01_Cmp.calls k _ _ t1021 _ _ t1024 t1034 _ ?side1 ?side2 ?side3 ?side4 A29.out).mono ?_
      (case side1 => exact qCV HO1023)
      (case side2 => exact qL HO1023)
      (case side3 => exact qCV HO1026)
      (case side4 => exact qL HO1026)
      rintro e w' ⟨rfl,⟨nd,rfl⟩⟩
      refine ⟨_,rfl,?_⟩
      refine hK.out _ _ (bc BK1033) (fun hHeld => ?_)
      clear hK K
      refine qO 30 ?_
      refine qP 4 31 HT_ ?_
      refine qP 5 32 HT_ ?_
      refine qP 6 33 HT_ ?_
      refine qP 7 34 HT_ ?_
      refine qP 8 35 HT_ ?_
      refine qP 9 36 HT_ ?_
      refine qT 10 37 HT_ HW_ hHeld ?_
      refine q1 11 (some 38) HT_ rfl (fun K hK => ?_)
      refine g_ Try.func44 #[.agg #[.slice Ao25 t1029.length co25]] ?_
      with_reducible refine (nat_Nat_Zero.calls _ _ t1029 false _ ?side1 ?side2 A45.out).mono ?_
      (case side1 => exact qCV HO1031)
      (case side2 => exact qL HO1031)
      rintro e w56 ⟨rfl,hb⟩
      refine ⟨_,rfl,?_⟩
      replace HO1017:=qVb HO1017 hb
      replace HO1020:=qVb HO1020 hb
      replace HO1023:=qVb HO1023 hb
      replace HO1026:=qVb HO1026 hb
      replace HO1031:=qVb HO1031 hb
      replace BK1027:=qb BK1027 hb
      replace BK1028:=qb BK1028 hb
      replace BK1033:=qb BK1033 hb
      replace HB:=qs HB hb
      clear hb
      refine hK.out _ _ (bc BK1033) (fun hHeld => ?_)
      clear hK K
      refine qO 38 ?_
      refine qP 12 39 HT_ ?_
      refine qP 13 40 HT_ ?_
      refine qP 14 41 HT_ ?_
      refine qP 15 42 HT_ ?_
      refine qU 16 43 HT_ ?_
      refine qU 17 44 HT_ ?_
      refine qU 18 45 HT_ ?_
      refine qU 19 46 HT_ ?_
      refine qU 20 47 HT_ ?_
      refine qU 21 48 HT_ ?_
      refine qU 22 49 HT_ ?_
      refine qU 23 50 HT_ ?_
      refine qU 24 51 HT_ ?_
      refine qP 25 52 HT_ ?_
      refine qD HT_ ?_
      try go_wp2
      go_meet
      case rel => exact ⟨_,(true),(by first|rfl|(simp;done)|(simp [*];done)),H',⟨by first|omega|exact Nat.le_refl _⟩,⟨qVm HO1023⟩,⟨qVm HO1026⟩,⟨qVm HO1017⟩,⟨qVm HO1020⟩,⟨qVm HO1031⟩,⟨qB BK1027.out⟩,⟨qB BK1028.out⟩,⟨qB BK1033.out⟩,⟨qS HB⟩⟩
  case rest =>
   clear HC10
   try clear p2
   try clear c4
   try clear c44
   try clear c46
   obtain ⟨kq,x52_9,rfl,HA,HJ9,HO_7,HO_8,HO_1028000,HO_1029000,HO_1034000,BK1027,BK1028,BK1033,HB⟩:=hcut
   cases kq with
   |zero => exact absurd HA.out (by simp [sacristylaw01_NatSums.j0])
   |succ kj9 =>
    have H:=HA.out
    clear HA
    simp only [sacristylaw01_NatSums.j0] at H
    by_cases c57 : x52_9 = true
    ·subst c57
     rw [if_pos rfl] at H
     exact absurd H (by simp)
    ·replace c57:=Bool.eq_false_iff.mpr c57
     subst c57
     rw [qFT] at H
     obtain ⟨t1040,A58,H⟩:=qH H
     obtain ⟨t1043,A59,H⟩:=qH H
     obtain ⟨t1046,A60,H⟩:=qH H
     by_cases c61 : t1046 = true
     ·subst c61
      rw [if_pos rfl] at H
      obtain ⟨t1047,A62,H⟩:=qH H
      by_cases c63 : t1047 = true
      ·subst c63
       rw [if_pos rfl] at H
       obtain ⟨t1048,A64,H⟩:=qH H
       obtain rfl:=Option.some.inj H
       have hnb65:=NB1027_1028.out
       have hnc65:=NB1028_1027.out
       have hnb66:=NB1027_1033.out
       have hnc66:=NB1033_1027.out
       have hcz67_0 : wc.cell? ⟨gb1027,0,none⟩ = some (.slice Ao18 t1015.length co18):=bc BK1027
       have hfz67_0:=bz BK1027
       have hnb68:=NB1028_1033.out
       have hnc68:=NB1033_1028.out
       have hcz69_0 : wc.cell? ⟨gb1028,0,none⟩ = some (.slice Ao21 t1018.length co21):=bc BK1028
       have hfz69_0:=bz BK1028
       go_wp2_with (first|((with_reducible refine gate_callee (f:=60) rfl ?_);refine gL (some 55) Try.func60 #[.agg #[.slice Ao18 t1015.length co18],.agg #[.slice Ao21 t1018.length co21]] ?_;(with_reducible refine (nat_Nat_Add.calls kj9 _ _ t1015 _ _ t1018 t1040 _ ?side1 ?side2 ?side3 ?side4 A58.out).mono ?_);(case side1 => exact qCV HO_1028000);(case side2 => exact qL HO_1028000);(case side3 => exact qCV HO_1029000);(case side4 => exact qL HO_1029000);rintro e w70 ⟨v1041,rfl,ho0,hb⟩;refine ⟨_,rfl,?_⟩;replace HO_7:=qVb HO_7 hb;replace HO_8:=qVb HO_8 hb;replace HO_1028000:=qVb HO_1028000 hb;replace HO_1029000:=qVb HO_1029000 hb;replace HO_1034000:=qVb HO_1034000 hb;have HO1042:=Aside0.mk (Kd.V_lower (Kd.V_mono (ok':=fun k_ => k_ ≠ gb1027 ∧ k_ ≠ gb1028 ∧ k_ ≠ gb1033) ho0 (fun k_ hk_ => ⟨(Kd.freshB (qB BK1027.out) k_ hk_),(Kd.freshB (qB BK1028.out) k_ hk_),(Kd.freshB (qB BK1033.out) k_ hk_)⟩)) (below_size (qS HB)));replace BK1027:=qb BK1027 hb;replace BK1028:=qb BK1028 hb;replace BK1033:=qb BK1033 hb;replace HB:=qs HB hb;clear hb ho0;obtain ⟨Ao71,co71,eo71⟩:=Kd.V_slice HO_7.out;subst eo71;obtain ⟨Ao72,co72,eo72⟩:=Kd.V_slice HO_8.out;subst eo72)|((with_reducible refine gate_callee (f:=64) rfl ?_);refine gL (some 58) Try.func64 #[.slice Ao71 t1021.length co71,.slice Ao72 t1024.length co72] ?_;(with_reducible refine (sacristyref01_Add.calls kj9 _ _ t1021 _ _ t1024 t1043 _ ?side1 ?side2 ?side3 ?side4 A59.out).mono ?_);(case side1 => exact qCV HO_7);(case side2 => exact qL HO_7);(case side3 => exact qCV HO_8);(case side4 => exact qL HO_8);rintro e w73 ⟨v1044,rfl,ho0,hb⟩;refine ⟨_,rfl,?_⟩;replace HO_7:=qVb HO_7 hb;replace HO_8:=qVb HO_8 hb;replace HO_1028000:=qVb HO_1028000 hb;replace HO_1029000:=qVb HO_1029000 hb;replace HO_1034000:=qVb HO_1034000 hb;replace HO1042:=qVb HO1042 hb;have HO1045:=Aside0.mk (Kd.V_lower (Kd.V_mono (ok':=fun k_ => k_ ≠ gb1027 ∧ k_ ≠ gb1028 ∧ k_ ≠ gb1033) ho0 (fun k_ hk_ => ⟨(Kd.freshB (qB BK1027.out) k_ hk_),(Kd.freshB (qB BK1028.out) k_ hk_),(Kd.freshB (qB BK1033.out) k_ hk_)⟩)) (below_size (qS HB)));replace BK1027:=qb BK1027 hb;replace BK1028:=qb BK1028 hb;replace BK1033:=qb BK1033 hb;replace HB:=qs HB hb;clear hb ho0;obtain ⟨Ao74,co74,eo74⟩:=Kd.V_slice HO1042.out;subst eo74;obtain ⟨Ao75,co75,eo75⟩:=Kd.V_slice HO1045.out;subst eo75)|((with_reducible refine gate_callee (f:=37) rfl ?_);refine gL (some 59) Try.func37 #[.agg #[.slice Ao74 t1040.length co74],.slice Ao75 t1043.length co75] ?_;(with_reducible refine (sacristylaw01_Same.calls kj9 _ _ t1040 _ _ t1043 true _ ?side1 ?side2 ?side3 ?side4 A60.out).mono ?_);(case side1 => exact qCV HO1042);(case side2 => exact qL HO1042);(case side3 => exact qCV HO1045);(case side4 => exact qL HO1045);rintro e w76 ⟨rfl,hb⟩;refine ⟨_,rfl,?_⟩;replace HO_7:=qVb HO_7 hb;replace HO_8:=qVb HO_8 hb;replace HO_1028000:=qVb HO_1028000 hb;replace HO_1029000:=qVb HO_1029000 hb;replace HO_1034000:=qVb HO_1034000 hb;replace HO1042:=qVb HO1042 hb;replace HO1045:=qVb HO1045 hb;replace BK1027:=qb BK1027 hb;replace BK1028:=qb BK1028 hb;replace BK1033:=qb BK1033 hb;replace HB:=qs HB hb;clear hb;have hcz77_0:=bc BK1027;have hfz77_0:=bz BK1027)|(go_at_call 37;(with_reducible refine (sacristylaw01_Same.calls kj9 _ _ t1015 _ _ t1021 true _ ?side1 ?side2 ?side3 ?side4 A62.out).mono ?_);(case side1 => exact qCV HO_1028000);(case side2 => exact qL HO_1028000);(case side3 => exact qCV HO_7);(case side4 => exact qL HO_7);rintro e w78 ⟨rfl,hb⟩;replace HO_7:=qVb HO_7 hb;replace HO_8:=qVb HO_8 hb;replace HO_1028000:=qVb HO_1028000 hb;replace HO_1029000:=qVb HO_1029000 hb;replace HO_1034000:=qVb HO_1034000 hb;replace HO1042:=qVb HO1042 hb;replace HO1045:=qVb HO1045 hb;replace BK1027:=qb BK1027 hb;replace BK1028:=qb BK1028 hb;replace BK1033:=qb BK1033 hb;replace HB:=qs HB hb;clear hb;have hcz79_0:=bc BK1028;have hfz79_0:=bz BK1028)|(go_at_call 37;(with_reducible refine (sacristylaw01_Same.calls kj9 _ _ t1018 _ _ t1024 t1048 _ ?side1 ?side2 ?side3 ?side4 A64.out).mono ?_);(case side1 => exact qCV HO_1029000);(case side2 => exact qL HO_1029000);(case side3 => exact qCV HO_8);(case side4 => exact qL HO_8);rintro e w80 ⟨rfl,hb⟩;replace HO_7:=qVb HO_7 hb;replace HO_8:=qVb HO_8 hb;replace HO_1028000:=qVb HO_1028000 hb;replace HO_1029000:=qVb HO_1029000 hb;replace HO_1034000:=qVb HO_1034000 hb;replace HO1042:=qVb HO1042 hb;replace HO1045:=qVb HO1045 hb;replace BK1027:=qb BK1027 hb;replace BK1028:=qb BK1028 hb;replace BK1033:=qb BK1033 hb;replace HB:=qs HB hb;clear hb))
       (first|go_ret|(refine ⟨_,results_tmp rfl _ _ _,?_⟩))
       exact ⟨by first|rfl|(simp [errW_none,errW_some] <;> rfl)|(simp [*,errW_none,errW_some] <;> rfl),qS HB⟩
      ·replace c63:=Bool.eq_false_iff.mpr c63
       subst c63
       rw [qFT] at H
       exact absurd H (by simp)
     ·replace c61:=Bool.eq_false_iff.mpr c61
      subst c61
      rw [qFT] at H
      exact absurd H (by simp)
 ·replace c4:=Bool.eq_false_iff.mpr c4
  subst c4
  rw [qFT] at H
  exact absurd H (by simp)
def sacristylaw01_NatSums.Pure : Prop:=∀ (l0 : List Int) (l1 : List Int),l0.length ≤ maxLen → l0.length * 1 ≤ 140737488351232 → (∀ x ∈ l0,(Lit.int .u8 x).wf = true) → l1.length ≤ maxLen → l1.length * 1 ≤ 140737488351232 → (∀ x ∈ l1,(Lit.int .u8 x).wf = true) → ∃ k,sacristylaw01_NatSums.f k l0 l1 = some true
theorem sacristylaw01_NatSums.walk (P : sacristylaw01_NatSums.Pure) (a0 : Option Addr) (len0 cap0 : Nat) (z0 : List Int) (a1 : Option Addr) (len1 cap1 : Nat) (z1 : List Int) (w : World) (w0 : (a0 = none ∧ len0 = 0 ∧ cap0 = 0 ∧ z0 = []) ∨ ∃ x,a0 = some x ∧ len0 ≤ cap0 ∧ cap0 ≤ maxLen ∧ z0.length = cap0 ∧ (∀ i,i < z0.length → w.cell? (x.add i) = some (.int .u8 (z0.getD i 0))) ∧ ∀ n ∈ z0,(Lit.int .u8 n).wf = true) (y0 : len0 * 1 ≤ 140737488351232) (w1 : (a1 = none ∧ len1 = 0 ∧ cap1 = 0 ∧ z1 = []) ∨ ∃ x,a1 = some x ∧ len1 ≤ cap1 ∧ cap1 ≤ maxLen ∧ z1.length = cap1 ∧ (∀ i,i < z1.length → w.cell? (x.add i) = some (.int .u8 (z1.getD i 0))) ∧ ∀ n ∈ z1,(Lit.int .u8 n).wf = true) (y1 : len1 * 1 ≤ 140737488351232) :
  Calls Try.prog 16 #[.slice a0 len0 cap0,.slice a1 len1 cap1] w fun e w' => e = .returned (.bool true) ∧ Below w.heap.size w w':=by
 obtain ⟨l0,rfl,hr0,hm0,hw0,hc0⟩:=ReadsInt.ofRowC w0
 obtain ⟨l1,rfl,hr1,hm1,hw1,hc1⟩:=ReadsInt.ofRowC w1
 obtain ⟨k,h⟩:=P l0 l1 hm0 y0 hw0 hm1 y1 hw1
 refine (sacristylaw01_NatSums.calls k _ _ l0 _ _ l1 true w (Kd.C_of_reads (d:=(0 : Int)) (h1:=fun _ => rfl) hr0) hc0 (Kd.C_of_reads (d:=(0 : Int)) (h1:=fun _ => rfl) hr1) hc1 h).mono ?_
 rintro e w' ⟨rfl,hd⟩
 exact ⟨rfl,hd⟩
end Go.Proofs.Yteejcpbngnojkaa.P
end
section
namespace Go.Proofs.Yteejcpbngnojkaa.P
open Go.RowKit Go.Proofs.YteejcpbngnojkaaW.PrintWords Go.Proofs.YteejcpbngnojkaaW.PrintLast Go.Proofs.YteejcpbngnojkaaW.PrintMore
attribute [local go_sem] max2_int min2_int max_two min_two max_three min_three max_four min_four
set_option linter.unusedVariables false
set_option linter.unusedSimpArgs false
def sacristyref01_Div.l0 : Nat → List Bool → List Bool → List Bool → List Bool → Int → Option (List Bool × List Bool)
 |0,_,_,_,_,_ => none
 |k + 1,x0,x1,x6,x7,x8 => if x8 ≥ 0 then (if 0 ≤ x8 then (if x8 < (x0.length : Int) then ((some (([rdOf false x0 x8] : List Bool) : List Bool)).bind fun y756 => (if y756.length + x7.length < 140737488355328 then ((sacristyref01_Trim.f k (y756 ++ x7)).bind fun t762 => ((sacristyref01_Cmp.f k t762 x1).bind fun t765 => (if t765 ≥ 0 then ((sacristyref01_Sub.f k t762 x1).bind fun t766 => (if x8 < (x6.length : Int) then (sacristyref01_Div.l0 k x0 x1 (x6.set (x8 : Int).toNat true) t766 (wrap64 (x8 - 1))) else (none))) else (sacristyref01_Div.l0 k x0 x1 x6 t762 (wrap64 (x8 - 1)))))) else (none))) else (none)) else (none)) else ((sacristyref01_Trim.f k x6).bind fun t752 => (some (t752,x7)))
def sacristyref01_Div.f (k : Nat) (l0 : List Bool) (l1 : List Bool) : Option (List Bool × List Bool):=if 0 ≤ (l0.length : Int) then (if ((l0.length : Int) : Int).toNat ≤ 281474976710656 then (sacristyref01_Div.l0 k l0 l1 (List.replicate ((l0.length : Int) : Int).toNat false) (([] : List Bool)) (wrap64 ((l0.length : Int) - 1))) else (none)) else (none)
theorem sacristyref01_Div.mono_l : ∀ k,(∀ y0 y1 y2 y3 y4,LeO (sacristyref01_Div.l0 k y0 y1 y2 y3 y4) (sacristyref01_Div.l0 (k + 1) y0 y1 y2 y3 y4))
 |0 => fun _ _ _ _ _ r h => by simp [sacristyref01_Div.l0] at h
 |k + 1 => by
  have ih0:=sacristyref01_Div.mono_l k
  ·intro y0 y1 y2 y3 y4
   unfold sacristyref01_Div.l0
   repeat' first
   |(with_reducible exact ih0 _ _ _ _ _)
   |(with_reducible exact sacristyref01_Cmp.mono _ _ _)
   |(with_reducible exact sacristyref01_Sub.mono _ _ _)
   |(with_reducible exact sacristyref01_Trim.mono _ _)
   |(with_reducible exact LeO.refl _)
   |(with_reducible exact LeO.none _)
   |(with_reducible refine LeO.ite ?_ ?_)
   |(with_reducible refine LeO.bind ?_ (fun _ => ?_))
   |exact ih0 _ _ _ _ _
   |exact sacristyref01_Cmp.mono _ _ _
   |exact sacristyref01_Sub.mono _ _ _
   |exact sacristyref01_Trim.mono _ _
   |exact LeO.none _
   |refine LeO.ite ?_ ?_
   |refine LeO.bind ?_ (fun _ => ?_)
theorem sacristyref01_Div.mono : ∀ a0 a1 k,LeO (sacristyref01_Div.f k a0 a1) (sacristyref01_Div.f (k + 1) a0 a1):=by
 intro a0 a1 k
 have ih0:=sacristyref01_Div.mono_l k
 unfold sacristyref01_Div.f
 repeat' first
   |(with_reducible exact ih0 _ _ _ _ _)
   |(with_reducible exact sacristyref01_Cmp.mono _ _ _)
   |(with_reducible exact sacristyref01_Sub.mono _ _ _)
   |(with_reducible exact sacristyref01_Trim.mono _ _)
   |(with_reducible exact LeO.refl _)
   |(with_reducible exact LeO.none _)
   |(with_reducible refine LeO.ite ?_ ?_)
   |(with_reducible refine LeO.bind ?_ (fun _ => ?_))
   |exact ih0 _ _ _ _ _
   |exact sacristyref01_Cmp.mono _ _ _
   |exact sacristyref01_Sub.mono _ _ _
   |exact sacristyref01_Trim.mono _ _
   |exact LeO.none _
   |refine LeO.ite ?_ ?_
   |refine LeO.bind ?_ (fun _ => ?_)
end Go.Proofs.Yteejcpbngnojkaa.P
end
section
namespace Go.Proofs.Yteejcpbngnojkaa.P
open Go.RowKit Go.Proofs.YteejcpbngnojkaaW.PrintWords Go.Proofs.YteejcpbngnojkaaW.PrintLast Go.Proofs.YteejcpbngnojkaaW.PrintMore
attribute [local go_sem] max2_int min2_int max_two min_two max_three min_three max_four min_four
set_option linter.unusedVariables false
set_option linter.unusedSimpArgs false
def sacristyref01_Gcd.l0 : Nat → List Bool → List Bool → Option (List Bool)
 |0,_,_ => none
 |k + 1,x0,x1 => if (x1.length : Int) > 0 then ((sacristyref01_Div.f k x0 x1).bind fun bt770 => (sacristyref01_Gcd.l0 k x1 bt770.2)) else (some x0)
def sacristyref01_Gcd.f (k : Nat) (l0 : List Bool) (l1 : List Bool) : Option (List Bool):=sacristyref01_Gcd.l0 k l0 l1
theorem sacristyref01_Gcd.mono_l : ∀ k,(∀ y0 y1,LeO (sacristyref01_Gcd.l0 k y0 y1) (sacristyref01_Gcd.l0 (k + 1) y0 y1))
 |0 => fun _ _ r h => by simp [sacristyref01_Gcd.l0] at h
 |k + 1 => by
  have ih0:=sacristyref01_Gcd.mono_l k
  ·intro y0 y1
   unfold sacristyref01_Gcd.l0
   repeat' first
   |(with_reducible exact ih0 _ _)
   |(with_reducible exact sacristyref01_Div.mono _ _ _)
   |(with_reducible exact LeO.refl _)
   |(with_reducible exact LeO.none _)
   |(with_reducible refine LeO.ite ?_ ?_)
   |(with_reducible refine LeO.bind ?_ (fun _ => ?_))
   |exact ih0 _ _
   |exact sacristyref01_Div.mono _ _ _
   |exact LeO.none _
   |refine LeO.ite ?_ ?_
   |refine LeO.bind ?_ (fun _ => ?_)
theorem sacristyref01_Gcd.mono : ∀ a0 a1 k,LeO (sacristyref01_Gcd.f k a0 a1) (sacristyref01_Gcd.f (k + 1) a0 a1):=by
 intro a0 a1 k
 have ih0:=sacristyref01_Gcd.mono_l k
 unfold sacristyref01_Gcd.f
 repeat' first
   |(with_reducible exact ih0 _ _)
   |(with_reducible exact sacristyref01_Div.mono _ _ _)
   |(with_reducible exact LeO.refl _)
   |(with_reducible exact LeO.none _)
   |(with_reducible refine LeO.ite ?_ ?_)
   |(with_reducible refine LeO.bind ?_ (fun _ => ?_))
   |exact ih0 _ _
   |exact sacristyref01_Div.mono _ _ _
   |exact LeO.none _
   |refine LeO.ite ?_ ?_
   |refine LeO.bind ?_ (fun _ => ?_)
end Go.Proofs.Yteejcpbngnojkaa.P
end
section
namespace Go.Proofs.Yteejcpbngnojkaa.P
open Go.RowKit Go.Proofs.YteejcpbngnojkaaW.PrintWords Go.Proofs.YteejcpbngnojkaaW.PrintLast Go.Proofs.YteejcpbngnojkaaW.PrintMore
attribute [local go_sem] max2_int min2_int max_two min_two max_three min_three max_four min_four
set_option linter.unusedVariables false
set_option linter.unusedSimpArgs false
def sacristyref01_Shift.f (l0 : List Bool) (a1 : Int) : Option (List Bool):=if (l0.length : Int) = 0 then (some (([] : List Bool))) else (if 0 ≤ a1 then (if (a1 : Int).toNat ≤ 281474976710656 then ((some (List.replicate (a1 : Int).toNat false : List Bool)).bind fun y864 => (if y864.length + l0.length < 140737488355328 then (some (y864 ++ l0)) else (none))) else (none)) else (none))
end Go.Proofs.Yteejcpbngnojkaa.P
end
section
namespace Go.Proofs.Yteejcpbngnojkaa.P
open Go.RowKit Go.Proofs.YteejcpbngnojkaaW.PrintWords Go.Proofs.YteejcpbngnojkaaW.PrintLast Go.Proofs.YteejcpbngnojkaaW.PrintMore
attribute [local go_sem] max2_int min2_int max_two min_two max_three min_three max_four min_four
set_option linter.unusedVariables false
set_option linter.unusedSimpArgs false
def sacristyref01_Mul.l0 : Nat → List Bool → List Bool → List Bool → Int → Int → Option (List Bool)
 |0,_,_,_,_,_ => none
 |k + 1,x0,x5,x9,x10,x11 => if x11 < x10 then (if 0 ≤ x11 then (if x11 < (x9.length : Int) then (if rdOf false x9 x11 = true then ((sacristyref01_Shift.f x0 x11).bind fun t874 => ((sacristyref01_Add.f k x5 t874).bind fun t877 => (sacristyref01_Mul.l0 k x0 t877 x9 x10 (wrap64 (x11 + 1))))) else (sacristyref01_Mul.l0 k x0 x5 x9 x10 (wrap64 (x11 + 1)))) else (none)) else (none)) else (some x5)
def sacristyref01_Mul.f (k : Nat) (l0 : List Bool) (l1 : List Bool) : Option (List Bool):=sacristyref01_Mul.l0 k l0 (([] : List Bool)) l1 (l1.length : Int) 0
theorem sacristyref01_Mul.mono_l : ∀ k,(∀ y0 y1 y2 y3 y4,LeO (sacristyref01_Mul.l0 k y0 y1 y2 y3 y4) (sacristyref01_Mul.l0 (k + 1) y0 y1 y2 y3 y4))
 |0 => fun _ _ _ _ _ r h => by simp [sacristyref01_Mul.l0] at h
 |k + 1 => by
  have ih0:=sacristyref01_Mul.mono_l k
  ·intro y0 y1 y2 y3 y4
   unfold sacristyref01_Mul.l0
   repeat' first
   |(with_reducible exact ih0 _ _ _ _ _)
   |(with_reducible exact sacristyref01_Add.mono _ _ _)
   |(with_reducible exact LeO.refl _)
   |(with_reducible exact LeO.none _)
   |(with_reducible refine LeO.ite ?_ ?_)
   |(with_reducible refine LeO.bind ?_ (fun _ => ?_))
   |exact ih0 _ _ _ _ _
   |exact sacristyref01_Add.mono _ _ _
   |exact LeO.none _
   |refine LeO.ite ?_ ?_
   |refine LeO.bind ?_ (fun _ => ?_)
theorem sacristyref01_Mul.mono : ∀ a0 a1 k,LeO (sacristyref01_Mul.f k a0 a1) (sacristyref01_Mul.f (k + 1) a0 a1):=by
 intro a0 a1 k
 have ih0:=sacristyref01_Mul.mono_l k
 unfold sacristyref01_Mul.f
 repeat' first
   |(with_reducible exact ih0 _ _ _ _ _)
   |(with_reducible exact sacristyref01_Add.mono _ _ _)
   |(with_reducible exact LeO.refl _)
   |(with_reducible exact LeO.none _)
   |(with_reducible refine LeO.ite ?_ ?_)
   |(with_reducible refine LeO.bind ?_ (fun _ => ?_))
   |exact ih0 _ _ _ _ _
   |exact sacristyref01_Add.mono _ _ _
   |exact LeO.none _
   |refine LeO.ite ?_ ?_
   |refine LeO.bind ?_ (fun _ => ?_)
end Go.Proofs.Yteejcpbngnojkaa.P
end
section
namespace Go.Proofs.Yteejcpbngnojkaa.P
open Go.RowKit Go.Proofs.YteejcpbngnojkaaW.PrintWords Go.Proofs.YteejcpbngnojkaaW.PrintLast Go.Proofs.YteejcpbngnojkaaW.PrintMore
open Go.Proofs.Yteejcpbngnojkaa.Num
set_option linter.unusedVariables false
def gb (l : List Bool) (j : Nat) : Bool := l.getD j false
theorem rdB (l : List Bool) (i : Nat) : rdOf false l (i : Int) = gb l i := by simp [rdOf, gb]
theorem gb_eq {l : List Bool} {j : Nat} (h : j < l.length) : gb l j = l[j] := by simp [gb, List.getD_eq_getElem?_getD, List.getElem?_eq_getElem h]
theorem gb_out {l : List Bool} {j : Nat} (h : l.length ≤ j) : gb l j = false := by simp [gb, List.getD_eq_getElem?_getD, List.getElem?_eq_none h]
theorem wdec {n : Nat} (h : n ≤ 4611686018427387904) : wrap64 (((n + 1 : Nat) : Int) - 1) = (n : Int) := by rw [w64 (by omega) (by omega)]; omega
theorem winc {n : Nat} (h : n ≤ 4611686018427387904) : wrap64 ((n : Int) + 1) = ((n + 1 : Nat) : Int) := by rw [w64 (by omega) (by omega)]; omega
theorem takeB_snoc {l : List Bool} {j : Nat} (h : j < l.length) : l.take (j + 1) = l.take j ++ [gb l j] := by rw [List.take_succ_eq_append_getElem h, gb_eq h]
theorem valB_take_snoc {l : List Bool} {j : Nat} (h : j < l.length) : valB (l.take (j + 1)) = valB (l.take j) + 2 ^ j * (gb l j).toNat := by
  rw [takeB_snoc h, valB_snoc, List.length_take, Nat.min_eq_left (by omega)]
theorem rTrim_ev (l : List Bool) (hn : l.length ≤ 4611686018427387904) : Ev (fun k => sacristyref01_Trim.f k l) (toB (valB l)) := by
  unfold sacristyref01_Trim.f
  generalize hm : l.length = m
  induction m generalizing l with
  | zero =>
    obtain rfl := List.eq_nil_of_length_eq_zero hm
    refine Ev.step (f := fun _ => some []) (fun k => by simp [sacristyref01_Trim.l0]) ?_
    rw [valB_nil, toB_zero]
    exact Ev.now _
  | succ m ih =>
    have hne : l ≠ [] := fun e => by subst e; simp at hm
    obtain ⟨l', x, rfl⟩ : ∃ l' x, l = l' ++ [x] := ⟨l.dropLast, l.getLast hne, (List.dropLast_concat_getLast hne).symm⟩
    have hm' : l'.length = m := by simpa using hm
    have hm4 : m ≤ 4611686018427387904 := by simp at hn; omega
    have hlen : ((l' ++ [x]).length : Int) = ((m + 1 : Nat) : Int) := by rw [hm]
    have c1 : ((m + 1 : Nat) : Int) > 0 := by omega
    have c2 : (0 : Int) ≤ (m : Int) := by omega
    have c3 : (m : Int) < ((m + 1 : Nat) : Int) := by omega
    have c4 : (m : Int) ≤ ((m + 1 : Nat) : Int) := by omega
    have hw := wdec hm4
    have hrd : rdOf false (l' ++ [x]) (m : Int) = x := by rw [rdB]; simp [gb, List.getD_eq_getElem?_getD, ← hm']
    cases x with
    | false =>
      refine Ev.step (f := fun k => sacristyref01_Trim.l0 k l') (fun k => ?_) ?_
      · simp only [sacristyref01_Trim.l0]
        rw [hlen, hw, if_pos c1, if_pos c2, if_pos c3, hrd, if_neg (by decide), if_pos c4, Int.toNat_natCast, ← hm', List.take_left' rfl]
      · rw [toB_valB_snoc_false]
        exact ih l' (by omega) hm'
    | true =>
      refine Ev.step (f := fun _ => some (l' ++ [true])) (fun k => ?_) ?_
      · simp only [sacristyref01_Trim.l0]
        rw [hlen, hw, if_pos c1, if_pos c2, if_pos c3, hrd, if_pos rfl]
      · rw [toB_valB_true]
        exact Ev.now _
def bitsFrom (x : Nat) : Nat → Nat → List Bool
  | _, 0 => []
  | j, d + 1 => (x / 2 ^ j % 2 == 1) :: bitsFrom x (j + 1) d
theorem bitsFrom_len (x j d : Nat) : (bitsFrom x j d).length = d := by
  induction d generalizing j with
  | zero => rfl
  | succ d ih => simp [bitsFrom, ih]
theorem bit_toNat (n : Nat) : (n % 2 == 1).toNat = n % 2 := by
  have := Nat.mod_lt n (show 0 < 2 by omega)
  rcases Nat.mod_two_eq_zero_or_one n with h | h <;> rw [h] <;> rfl
theorem bitsFrom_val (x j d : Nat) : valB (bitsFrom x j d) = x / 2 ^ j % 2 ^ d := by
  induction d generalizing j with
  | zero => simp [bitsFrom, valB_nil, Nat.mod_one]
  | succ d ih =>
    rw [bitsFrom, valB_cons, ih, bit_toNat, Nat.pow_succ 2 j, ← Nat.div_div_eq_div_mul, Nat.pow_succ, Nat.mul_comm (2 ^ d) 2, Nat.mod_mul]
theorem of_bit (x : Int) (j : Nat) (h0 : 0 ≤ x) (h : x < 256) (hj : j < 8) : (Int.tmod (shr .u8 x (j : Int)) 2 == 1) = (x.toNat / 2 ^ j % 2 == 1) := by
  obtain ⟨n, rfl⟩ := Int.eq_ofNat_of_zero_le h0
  have hmin : min j IntKind.u8.bits = j := Nat.min_eq_left (by show j ≤ 8; omega)
  unfold shr
  rw [Int.toNat_natCast, hmin, Int.toNat_natCast]
  have h2 : (2 : Int) ^ j = ((2 ^ j : Nat) : Int) := by simp
  rw [h2, ← Int.natCast_ediv]
  generalize n / 2 ^ j = N
  rw [show (2 : Int) = ((2 : Nat) : Int) from rfl, ← Int.ofNat_tmod]
  rw [Bool.eq_iff_iff, beq_iff_eq, beq_iff_eq]
  omega
theorem rOf_inner (l : List Int) (hb : Bytes l) (i : Nat) (hi : i < l.length) (r : List Bool) (d : Nat) : ∀ (j : Nat) (acc : List Bool), j + d = 8 → acc.length + d ≤ 1000000 → Ev (fun k => sacristyref01_Of.l0 k l (acc ++ bitsFrom (gw l i).toNat j d) (wrap64 ((i : Int) - 1))) r → Ev (fun k => sacristyref01_Of.l1 k l acc (i : Int) (j : Int)) r := by
  induction d with
  | zero =>
    intro j acc hj hacc hev
    obtain rfl : j = 8 := by omega
    simp only [bitsFrom, List.append_nil] at hev
    exact Ev.step (fun k => by simp only [sacristyref01_Of.l1]; rw [if_neg (by omega)]) hev
  | succ d ih =>
    intro j acc hj hacc hev
    have c1 : (j : Int) < 8 := by omega
    have c2 : (0 : Int) ≤ (i : Int) := by omega
    have c3 : (i : Int) < (l.length : Int) := by omega
    have c4 : (0 : Int) ≤ (j : Int) := by omega
    have c5 : acc.length < 140737488355328 := by omega
    have hj8 : j < 8 := by omega
    have hjd : j + 1 + d = 8 := by omega
    have hw := winc (n := j) (by omega)
    have g := hb.gw i
    refine Ev.step (f := fun k => sacristyref01_Of.l1 k l (acc ++ [((gw l i).toNat / 2 ^ j % 2 == 1)]) (i : Int) ((j + 1 : Nat) : Int)) (fun k => ?_) ?_
    · simp only [sacristyref01_Of.l1]
      rw [if_pos c1, if_pos c2, if_pos c3, if_pos c4, if_pos c5, hw, rd_gw, of_bit _ j g.1 g.2 hj8]
    · refine ih (j + 1) _ hjd (by simp; omega) ?_
      rw [List.append_assoc]
      exact hev
theorem rOf_outer (l : List Int) (hb : Bytes l) (n : Nat) : ∀ (acc : List Bool), n ≤ l.length → acc.length + 8 * n ≤ 900000 → Ev (fun k => sacristyref01_Of.l0 k l acc ((n : Int) - 1)) (toB (valB acc + 2 ^ acc.length * valL (l.take n).reverse)) := by
  induction n with
  | zero =>
    intro acc hn hacc
    have ht := rTrim_ev acc (by omega)
    refine Ev.step (fun k => by simp only [sacristyref01_Of.l0]; rw [if_neg (by omega)]) (Ev.bind (f := fun _ t => some t) ht ?_)
    simp only [List.take_zero, List.reverse_nil, show valL [] = 0 from rfl, Nat.mul_zero, Nat.add_zero]
    exact Ev.now _
  | succ n ih =>
    intro acc hn hacc
    have c1 : ((n : Nat) : Int) ≥ 0 := by omega
    have e1 : ((n + 1 : Nat) : Int) - 1 = (n : Int) := by omega
    have hw : wrap64 ((n : Int) - 1) = (n : Int) - 1 := w64 (by omega) (by omega)
    have g := hb.gw n
    have hlt : (gw l n).toNat < 256 := by omega
    have hn1 : n < l.length := by omega
    rw [e1]
    refine Ev.step (f := fun k => sacristyref01_Of.l1 k l acc (n : Int) 0) (fun k => by simp only [sacristyref01_Of.l0]; rw [if_pos c1]) ?_
    refine rOf_inner l hb n hn1 _ 8 0 acc rfl (by omega) ?_
    rw [hw]
    have h := ih (acc ++ bitsFrom (gw l n).toNat 0 8) (by omega) (by rw [List.length_append, bitsFrom_len]; omega)
    have e2 : valB (acc ++ bitsFrom (gw l n).toNat 0 8) + 2 ^ (acc ++ bitsFrom (gw l n).toNat 0 8).length * valL (l.take n).reverse = valB acc + 2 ^ acc.length * valL (l.take (n + 1)).reverse := by
      have e3 : (l.take (n + 1)).reverse = gw l n :: (l.take n).reverse := by rw [take_snoc hn1, List.reverse_append]; rfl
      rw [e3, valL_cons, valB_append, bitsFrom_val, List.length_append, bitsFrom_len, Nat.pow_add]
      simp only [Nat.pow_zero, Nat.div_one]
      rw [Nat.mod_eq_of_lt hlt]
      generalize (gw l n).toNat = x
      generalize valL (l.take n).reverse = V
      generalize 2 ^ acc.length = P
      grind
    rw [e2] at h
    exact h
theorem rOf_ev (l : List Int) (hb : Bytes l) (hn : l.length ≤ 100000) : Ev (fun k => sacristyref01_Of.f k l) (toB (valH l)) := by
  unfold sacristyref01_Of.f
  have hw : wrap64 ((l.length : Int) - 1) = (l.length : Int) - 1 := w64 (by omega) (by omega)
  rw [hw]
  have h := rOf_outer l hb l.length [] (Nat.le_refl _) (by simp; omega)
  rw [List.take_length] at h
  simpa [valB_nil, valH] using h
theorem rSmall_ev (x : Nat) : ∀ (acc : List Bool), x < 18446744073709551616 → acc.length + (toB x).length ≤ 1000 → Ev (fun k => sacristyref01_Small.l0 k (x : Int) acc) (acc ++ toB x) := by
  induction x using Nat.strongRecOn with
  | ind x ih =>
    intro acc hx hacc
    by_cases h0 : x = 0
    · subst h0
      rw [toB_zero, List.append_nil]
      exact Ev.step (fun k => by simp only [sacristyref01_Small.l0]; rw [if_neg (by omega)]) (Ev.now _)
    · rw [toB_pos (by omega)] at hacc ⊢
      have c1 : (x : Int) > 0 := by omega
      have c2 : acc.length < 140737488355328 := by omega
      have e1 : IntKind.u64.wrap (Int.tdiv (x : Int) 2) = ((x / 2 : Nat) : Int) := by
        rw [show (2 : Int) = ((2 : Nat) : Int) from rfl, ← Int.ofNat_tdiv, wu64 (by omega) (by omega)]
      have e2 : (Int.tmod (x : Int) 2 == 1) = (x % 2 == 1) := by
        rw [show (2 : Int) = ((2 : Nat) : Int) from rfl, ← Int.ofNat_tmod, Bool.eq_iff_iff, beq_iff_eq, beq_iff_eq]; omega
      have h := ih (x / 2) (by omega) (acc ++ [(x % 2 == 1)]) (by omega) (by simp at hacc ⊢; omega)
      rw [List.append_assoc] at h
      refine Ev.step (fun k => ?_) h
      simp only [sacristyref01_Small.l0]
      rw [if_pos c1, if_pos c2, e1, e2]
theorem rSmall (x : Nat) (hx : x < 18446744073709551616) : Ev (fun k => sacristyref01_Small.f k (x : Int)) (toB x) := by
  have h64 : (toB x).length ≤ 64 := toB_len_le 64 x hx
  have := rSmall_ev x [] hx (by simp; omega)
  simpa [sacristyref01_Small.f] using this
theorem rCmp_loop (a b : List Bool) (n : Nat) : n ≤ a.length → n ≤ b.length → n ≤ 1000000 → Ev (fun k => sacristyref01_Cmp.l0 k a b ((n : Int) - 1)) (cmpN (valB (a.take n)) (valB (b.take n))) := by
  induction n with
  | zero =>
    intro ha hb hn
    refine Ev.step (f := fun _ => some 0) (fun k => by simp only [sacristyref01_Cmp.l0]; rw [if_neg (by omega)]) ?_
    simp only [List.take_zero, cmpN, Nat.lt_irrefl, if_false, if_true]
    exact Ev.now _
  | succ n ih =>
    intro ha hb hn
    have e1 : ((n + 1 : Nat) : Int) - 1 = (n : Int) := by omega
    have c1 : (n : Int) ≥ 0 := by omega
    have c2 : (0 : Int) ≤ (n : Int) := by omega
    have c3 : (n : Int) < (a.length : Int) := by omega
    have c4 : (n : Int) < (b.length : Int) := by omega
    have hw : wrap64 ((n : Int) - 1) = (n : Int) - 1 := w64 (by omega) (by omega)
    have hA := valB_lt (a.take n)
    have hB := valB_lt (b.take n)
    rw [List.length_take, Nat.min_eq_left (by omega)] at hA hB
    have h := ih (by omega) (by omega) (by omega)
    rw [e1, valB_take_snoc (by omega), valB_take_snoc (by omega)]
    generalize valB (a.take n) = A at *
    generalize valB (b.take n) = B at *
    generalize hP : 2 ^ n = P at *
    cases hx : gb a n <;> cases hy : gb b n
    · simp only [Bool.toNat_false, Nat.mul_zero, Nat.add_zero]
      refine Ev.step (fun k => ?_) h
      simp only [sacristyref01_Cmp.l0]
      rw [if_pos c1, if_pos c2, if_pos c3, if_pos c4, rdB, rdB, hx, hy, if_neg (by decide), hw]
    · refine Ev.step (f := fun _ => some (-1)) (fun k => ?_) ?_
      · simp only [sacristyref01_Cmp.l0]
        rw [if_pos c1, if_pos c2, if_pos c3, if_pos c4, rdB, rdB, hx, hy, if_pos (by decide), if_pos rfl]
      · have : cmpN (A + P * false.toNat) (B + P * true.toNat) = -1 := by
          simp only [Bool.toNat_false, Bool.toNat_true, cmpN]; rw [if_pos (by omega)]
        rw [this]; exact Ev.now _
    · refine Ev.step (f := fun _ => some 1) (fun k => ?_) ?_
      · simp only [sacristyref01_Cmp.l0]
        rw [if_pos c1, if_pos c2, if_pos c3, if_pos c4, rdB, rdB, hx, hy, if_pos (by decide), if_neg (by decide)]
      · have : cmpN (A + P * true.toNat) (B + P * false.toNat) = 1 := by
          simp only [Bool.toNat_false, Bool.toNat_true, cmpN]; rw [if_neg (by omega), if_neg (by omega)]
        rw [this]; exact Ev.now _
    · have e2 : cmpN (A + P * true.toNat) (B + P * true.toNat) = cmpN A B := by
        simp only [Bool.toNat_true, Nat.mul_one]
        have e3 : (A + P < B + P) ↔ A < B := by omega
        have e4 : (A + P = B + P) ↔ A = B := by omega
        simp only [cmpN, e3, e4]
      rw [e2]
      refine Ev.step (fun k => ?_) h
      simp only [sacristyref01_Cmp.l0]
      rw [if_pos c1, if_pos c2, if_pos c3, if_pos c4, rdB, rdB, hx, hy, if_neg (by decide), hw]
theorem rCmp_ev (a b : Nat) (ha : (toB a).length ≤ 1000000) (hb : (toB b).length ≤ 1000000) : Ev (fun k => sacristyref01_Cmp.f k (toB a) (toB b)) (cmpN a b) := by
  unfold sacristyref01_Cmp.f
  by_cases h1 : (toB a).length < (toB b).length
  · have h2 := toB_len_lt h1
    have h3 := toB_lt a
    refine Ev.congr (f := fun _ => some (cmpN a b)) (fun k => ?_) (Ev.now _)
    have : cmpN a b = -1 := by unfold cmpN; rw [if_pos (by omega)]
    rw [if_pos (by omega), this]
  · by_cases h4 : (toB b).length < (toB a).length
    · have h2 := toB_len_lt h4
      have h3 := toB_lt b
      refine Ev.congr (f := fun _ => some (cmpN a b)) (fun k => ?_) (Ev.now _)
      have : cmpN a b = 1 := by unfold cmpN; rw [if_neg (by omega), if_neg (by omega)]
      rw [if_neg (by omega), if_pos (by omega), this]
    · have hl : (toB b).length = (toB a).length := by omega
      have h := rCmp_loop (toB a) (toB b) (toB a).length (Nat.le_refl _) (by omega) ha
      rw [List.take_length, ← hl, List.take_length, valB_toB, valB_toB, hl] at h
      refine Ev.congr (fun k => ?_) h
      rw [if_neg (by omega), if_neg (by omega), w64 (by omega) (by omega)]
theorem gb_toB (a i : Nat) : (gb (toB a) i).toNat = a / 2 ^ i % 2 := by
  by_cases h : i < (toB a).length
  · rw [gb_eq h, toB_get, bit_toNat]
  · rw [gb_out (by omega)]
    have h1 := toB_lt a
    have h2 : 2 ^ (toB a).length ≤ 2 ^ i := Nat.pow_le_pow_right (by omega) (by omega)
    rw [Nat.div_eq_of_lt (by omega)]
    rfl
theorem at_toB (a i : Nat) : sacristyref01_at.f (toB a) (i : Int) = some ((a / 2 ^ i % 2 : Nat) : Int) := by
  have hg := gb_toB a i
  unfold sacristyref01_at.f
  rw [if_pos (by omega)]
  by_cases h : i < (toB a).length
  · rw [if_pos (by omega), if_pos (by omega), rdB]
    cases hb : gb (toB a) i with
    | false => rw [if_neg (by decide), ← hg, hb]; rfl
    | true => rw [if_pos rfl, ← hg, hb]; rfl
  · rw [if_neg (by omega), ← hg, gb_out (by omega)]; rfl
theorem mod_snoc (a i : Nat) : a % 2 ^ (i + 1) = a % 2 ^ i + 2 ^ i * (a / 2 ^ i % 2) := Nat.mod_pow_succ ..
theorem rAdd_loop (a b M : Nat) (hM : M ≤ 1000000) (hla : (toB a).length ≤ M) (hlb : (toB b).length ≤ M) (d : Nat) : ∀ (i c : Nat) (acc : List Bool), i + d = M + 1 → acc.length = i → c ≤ 1 → valB acc + 2 ^ i * c = a % 2 ^ i + b % 2 ^ i → (i = M + 1 → c = 0) →
    Ev (fun k => sacristyref01_Add.l0 k (toB a) (toB b) acc (c : Int) (i : Int)) (toB (a + b)) := by
  have ha := toB_lt a
  have hb := toB_lt b
  have hend : ∀ (i c : Nat) (acc : List Bool), acc.length = i → i ≤ M + 1 → c = 0 → valB acc + 2 ^ i * c = a % 2 ^ i + b % 2 ^ i → (toB a).length ≤ i → (toB b).length ≤ i → Ev (fun k => sacristyref01_Add.j1 k (toB a) (toB b) acc (c : Int) (i : Int) false) (toB (a + b)) := by
    intro i c acc hl hi hc he h1 h2
    replace he := Aside0.mk he
    have p1 : 2 ^ (toB a).length ≤ 2 ^ i := Nat.pow_le_pow_right (by omega) h1
    have p2 : 2 ^ (toB b).length ≤ 2 ^ i := Nat.pow_le_pow_right (by omega) h2
    have ht := rTrim_ev acc (by omega)
    have hv : valB acc = a + b := by
      have h3 : a < 2 ^ i := by omega
      have h4 : b < 2 ^ i := by omega
      have he := he.out
      rw [Nat.mod_eq_of_lt h3, Nat.mod_eq_of_lt h4, hc, Nat.mul_zero, Nat.add_zero] at he
      exact he
    rw [hv] at ht
    exact Ev.step (fun k => by simp only [sacristyref01_Add.j1]; rfl) (Ev.bind (f := fun _ t => some t) ht (Ev.now _))
  induction d with
  | zero =>
    intro i c acc hi hl hc he hz
    replace he := Aside0.mk he
    have hc0 := hz (by omega)
    refine Ev.step (f := fun k => sacristyref01_Add.j1 k (toB a) (toB b) acc (c : Int) (i : Int) false) (fun k => ?_) (hend i c acc hl (by omega) hc0 he.out (by omega) (by omega))
    simp only [sacristyref01_Add.l0]
    rw [if_neg (by omega), if_neg (by omega)]
    congr 1
    rw [decide_eq_false_iff_not]
    omega
  | succ d ih =>
    intro i c acc hi hl hc he hz
    replace he := Aside0.mk he
    have hgo : Ev (fun k => sacristyref01_Add.j1 k (toB a) (toB b) acc (c : Int) (i : Int) true) (toB (a + b)) := by
      have ha2 : a / 2 ^ i % 2 ≤ 1 := by have := Nat.mod_lt (a / 2 ^ i) (show 0 < 2 by omega); omega
      have hb2 : b / 2 ^ i % 2 ≤ 1 := by have := Nat.mod_lt (b / 2 ^ i) (show 0 < 2 by omega); omega
      have hma := Aside0.mk (mod_snoc a i)
      have hmb := Aside0.mk (mod_snoc b i)
      have hbig : i = M → a / 2 ^ i % 2 = 0 ∧ b / 2 ^ i % 2 = 0 := by
        intro e
        have p1 : 2 ^ (toB a).length ≤ 2 ^ i := Nat.pow_le_pow_right (by omega) (by omega)
        have p2 : 2 ^ (toB b).length ≤ 2 ^ i := Nat.pow_le_pow_right (by omega) (by omega)
        rw [Nat.div_eq_of_lt (by omega), Nat.div_eq_of_lt (by omega)]; exact ⟨rfl, rfl⟩
      have hal : acc.length < 140737488355328 := by omega
      have hi4 : i ≤ 4611686018427387904 := by omega
      have i1 : i + 1 + d = M + 1 := by omega
      have ata := at_toB a i
      have atb := at_toB b i
      generalize a / 2 ^ i % 2 = x at *
      generalize b / 2 ^ i % 2 = y at *
      have e2 : (Int.tmod ((x + y + c : Nat) : Int) 2 == 1) = ((x + y + c) % 2 == 1) := by
        rw [show (2 : Int) = ((2 : Nat) : Int) from rfl, ← Int.ofNat_tmod, Bool.eq_iff_iff, beq_iff_eq, beq_iff_eq]; omega
      have hs3 : ((x + y + c) / 2 : Nat) ≤ 1 := by clear e2; omega
      have e3 : wrap64 (Int.tdiv ((x + y + c : Nat) : Int) 2) = (((x + y + c) / 2 : Nat) : Int) := by
        rw [show (2 : Int) = ((2 : Nat) : Int) from rfl, ← Int.ofNat_tdiv]; clear e2; exact w64 (by omega) (by omega)
      have e1 : wrap64 (wrap64 ((x : Int) + (y : Int)) + (c : Int)) = ((x + y + c : Nat) : Int) := by clear e2 e3; rw [w64 (x := (x : Int) + (y : Int)) (by omega) (by omega), w64 (by omega) (by omega)]; omega
      have hrec := ih (i + 1) ((x + y + c) / 2) (acc ++ [((x + y + c) % 2 == 1)]) i1 (by simp [hl]) hs3 (by
        rw [valB_snoc, bit_toNat, hma.out, hmb.out, hl, Nat.pow_succ]
        have he := he.out
        have hs : (x + y + c) % 2 + 2 * ((x + y + c) / 2) = x + y + c := Nat.mod_add_div _ _
        generalize (x + y + c) % 2 = s at *
        generalize (x + y + c) / 2 = t at *
        generalize 2 ^ i = P at *
        generalize a % P = A at *
        generalize b % P = B at *
        clear e1 e2 e3 ata atb hbig hend ih hma hmb
        grind) (fun e => by have := hbig (by clear e1 e2 e3; omega); clear e1 e2 e3; omega)
      have hw := winc (n := i) hi4
      refine Ev.step (fun k => ?_) hrec
      simp only [sacristyref01_Add.j1]
      rw [if_pos trivial, ata]
      simp only [Option.bind_some]
      rw [atb]
      simp only [Option.bind_some]
      rw [if_pos hal, e1, e2, e3, hw]
    by_cases h1 : i < (toB a).length
    · exact Ev.step (fun k => by simp only [sacristyref01_Add.l0]; rw [if_pos (by omega)]) hgo
    · by_cases h2 : i < (toB b).length
      · exact Ev.step (fun k => by simp only [sacristyref01_Add.l0]; rw [if_neg (by omega), if_pos (by omega)]) hgo
      · by_cases h3 : c = 0
        · refine Ev.step (f := fun k => sacristyref01_Add.j1 k (toB a) (toB b) acc (c : Int) (i : Int) false) (fun k => ?_) (hend i c acc hl (by omega) h3 he.out (by omega) (by omega))
          simp only [sacristyref01_Add.l0]
          rw [if_neg (by omega), if_neg (by omega)]
          congr 1
          rw [decide_eq_false_iff_not]
          omega
        · refine Ev.step (fun k => ?_) hgo
          simp only [sacristyref01_Add.l0]
          rw [if_neg (by omega), if_neg (by omega)]
          congr 1
          rw [decide_eq_true_iff]
          omega
theorem rAdd_ev (a b : Nat) (ha : (toB a).length ≤ 1000000) (hb : (toB b).length ≤ 1000000) : Ev (fun k => sacristyref01_Add.f k (toB a) (toB b)) (toB (a + b)) := by
  unfold sacristyref01_Add.f
  exact rAdd_loop a b 1000000 (Nat.le_refl _) ha hb 1000001 0 0 [] rfl rfl (by omega) (by simp [valB_nil, Nat.mod_one]) (by omega)
theorem rSub_loop (a b : Nat) (hab : b ≤ a) (hla : (toB a).length ≤ 1000000) (d : Nat) : ∀ (i c : Nat) (acc : List Bool), i + d = (toB a).length → acc.length = i → c ≤ 1 → valB acc + b % 2 ^ i = a % 2 ^ i + 2 ^ i * c →
    Ev (fun k => sacristyref01_Sub.l0 k (toB a) (toB b) acc (c : Int) (i : Int)) (toB (a - b)) := by
  induction d with
  | zero =>
    intro i c acc hi hl hc he
    replace he := Aside0.mk he
    have ha := toB_lt a
    rw [show (toB a).length = i by omega] at ha
    have ht := rTrim_ev acc (by omega)
    have hv : valB acc = a - b := by
      have := valB_lt acc
      rw [hl] at this
      have h4 : b < 2 ^ i := by omega
      have he := he.out
      rw [Nat.mod_eq_of_lt ha, Nat.mod_eq_of_lt h4] at he
      rcases Nat.eq_zero_or_pos c with h | h
      · subst h; omega
      · obtain rfl : c = 1 := by omega
        omega
    rw [hv] at ht
    exact Ev.step (fun k => by simp only [sacristyref01_Sub.l0]; rw [if_neg (by omega)]) (Ev.bind (f := fun _ t => some t) ht (Ev.now _))
  | succ d ih =>
    intro i c acc hi hl hc he
    replace he := Aside0.mk he
    have ha2 : a / 2 ^ i % 2 ≤ 1 := by have := Nat.mod_lt (a / 2 ^ i) (show 0 < 2 by omega); omega
    have hb2 : b / 2 ^ i % 2 ≤ 1 := by have := Nat.mod_lt (b / 2 ^ i) (show 0 < 2 by omega); omega
    have hma := Aside0.mk (mod_snoc a i)
    have hmb := Aside0.mk (mod_snoc b i)
    have hi4 : i ≤ 4611686018427387904 := by omega
    have hal : acc.length < 140737488355328 := by omega
    have c1 : (i : Int) < ((toB a).length : Int) := by omega
    have ata := at_toB a i
    have atb := at_toB b i
    have i1 : i + 1 + d = (toB a).length := by omega
    generalize a / 2 ^ i % 2 = x at *
    generalize b / 2 ^ i % 2 = y at *
    have e1 : wrap64 (wrap64 ((x : Int) - (y : Int)) - (c : Int)) = (x : Int) - (y : Int) - (c : Int) := by rw [w64 (x := (x : Int) - (y : Int)) (by omega) (by omega), w64 (by omega) (by omega)]
    have hzero : (0 : Nat) ≤ 1 := by decide
    have e5 : (x : Int) - (y : Int) - (c : Int) < 0 → (wrap64 ((x : Int) - (y : Int) - (c : Int) + 2) == 1) = ((x + 2 - y - c) % 2 == 1) := fun hneg => by
      clear e1
      rw [w64 (by omega) (by omega), Bool.eq_iff_iff, beq_iff_eq, beq_iff_eq]; omega
    have e6 : ¬ (x : Int) - (y : Int) - (c : Int) < 0 → ((x : Int) - (y : Int) - (c : Int) == 1) = ((x - y - c) % 2 == 1) := fun hneg => by
      clear e1 e5
      rw [Bool.eq_iff_iff, beq_iff_eq, beq_iff_eq]; omega
    have e7 : (x : Int) - (y : Int) - (c : Int) < 0 → (x + 2 - y - c) % 2 + y + c = x + 2 := fun hneg => by clear e1 e5 e6; omega
    have e8 : ¬ (x : Int) - (y : Int) - (c : Int) < 0 → (x - y - c) % 2 + y + c = x := fun hneg => by clear e1 e5 e6 e7; omega
    have hw := winc (n := i) hi4
    by_cases hneg : (x : Int) - (y : Int) - (c : Int) < 0
    · have e2 := e5 hneg
      have hrec := ih (i + 1) 1 (acc ++ [((x + 2 - y - c) % 2 == 1)]) i1 (by simp [hl]) (by decide) (by
        have hs : (x + 2 - y - c) % 2 + y + c = x + 2 := e7 hneg
        rw [valB_snoc, bit_toNat, hma.out, hmb.out, hl, Nat.pow_succ]
        have he := he.out
        generalize (x + 2 - y - c) % 2 = s at *
        generalize 2 ^ i = P at *
        generalize a % P = A at *
        generalize b % P = B at *
        clear e1 e2 e5 e6 e7 e8 hw ata atb ih hneg hma hmb
        grind)
      refine Ev.step (fun k => ?_) hrec
      simp only [sacristyref01_Sub.l0]
      rw [if_pos c1, ata]
      simp only [Option.bind_some]
      rw [atb]
      simp only [Option.bind_some]
      rw [e1, if_pos hneg, if_pos hal, e2, hw]
      rfl
    · have e2 := e6 hneg
      have hrec := ih (i + 1) 0 (acc ++ [((x - y - c) % 2 == 1)]) i1 (by simp [hl]) (by decide) (by
        have hs : (x - y - c) % 2 + y + c = x := e8 hneg
        rw [valB_snoc, bit_toNat, hma.out, hmb.out, hl, Nat.pow_succ]
        have he := he.out
        generalize (x - y - c) % 2 = s at *
        generalize 2 ^ i = P at *
        generalize a % P = A at *
        generalize b % P = B at *
        clear e1 e2 e5 e6 e7 e8 hw ata atb ih hneg hma hmb
        grind)
      refine Ev.step (fun k => ?_) hrec
      simp only [sacristyref01_Sub.l0]
      rw [if_pos c1, ata]
      simp only [Option.bind_some]
      rw [atb]
      simp only [Option.bind_some]
      rw [e1, if_neg hneg, if_pos hal, e2, hw]
      rfl
theorem rSub_ev (a b : Nat) (hab : b ≤ a) (ha : (toB a).length ≤ 1000000) : Ev (fun k => sacristyref01_Sub.f k (toB a) (toB b)) (toB (a - b)) := by
  unfold sacristyref01_Sub.f
  exact rSub_loop a b hab ha (toB a).length 0 0 [] (by omega) rfl (by omega) (by simp [valB_nil, Nat.mod_one])
end Go.Proofs.Yteejcpbngnojkaa.P
end
section
namespace Go.Proofs.Yteejcpbngnojkaa.P
open Go.RowKit Go.Proofs.YteejcpbngnojkaaW.PrintWords Go.Proofs.YteejcpbngnojkaaW.PrintLast Go.Proofs.YteejcpbngnojkaaW.PrintMore
open Go.Proofs.Yteejcpbngnojkaa.Num
set_option linter.unusedVariables false
theorem pw_two (q : Nat) : pw q = 2 ^ (32 * q) := by
  unfold pw; rw [show (4294967296 : Nat) = 2 ^ 32 from by decide, ← Nat.pow_mul]
theorem pow256 (i : Nat) : 256 ^ i = pw (i / 4) * 2 ^ (8 * (i % 4)) := by
  rw [pw_two, ← Nat.pow_add, show (256 : Nat) = 2 ^ 8 from by decide, ← Nat.pow_mul]
  congr 1
  omega
theorem toB_len_eq {n L : Nat} (hL : 0 < L) (h1 : n < 2 ^ L) (h2 : 2 ^ (L - 1) ≤ n) : (toB n).length = L := by
  have h3 := toB_len_le L n h1
  have h4 := toB_len_gt (L - 1) n h2
  omega
theorem bits_len {n m r : Nat} (hm : 1 ≤ m) (hr : 0 < r) (h1 : n / pw (m - 1) < 2 ^ r) (h2 : 2 ^ (r - 1) ≤ n / pw (m - 1)) : (toB n).length = 32 * (m - 1) + r := by
  refine toB_len_eq (by omega) ?_ ?_
  · rw [Nat.div_lt_iff_lt_mul (pw_pos _), Nat.mul_comm, pw_two, ← Nat.pow_add] at h1
    exact h1
  · rw [Nat.le_div_iff_mul_le (pw_pos _), pw_two, ← Nat.pow_add] at h2
    rw [show 32 * (m - 1) + r - 1 = r - 1 + 32 * (m - 1) by omega]
    exact h2
theorem Bits_toW (n : Nat) (hn : (toW n).length ≤ 1048576) : nat_Nat_Bits.f (toW n) = some (((toB n).length : Nat) : Int) := by
  unfold nat_Nat_Bits.f
  by_cases h0 : n = 0
  · subst h0; simp [toW_zero, toB_zero]
  · have hne : (toW n).length ≠ 0 := by rw [Ne, List.length_eq_zero_iff, toW_eq_nil]; exact h0
    obtain ⟨m, hm⟩ : ∃ m, (toW n).length = m := ⟨_, rfl⟩
    have c1 : ¬ (((toW n).length : Nat) : Int) = 0 := by omega
    have c2 : (0 : Int) ≤ ((m - 1 : Nat) : Int) := by omega
    have c3 : ((m - 1 : Nat) : Int) < (m : Int) := by omega
    have hm1 : 1 ≤ m := by omega
    have hm2 : m ≤ 1048576 := by omega
    have hlo : pw (m - 1) ≤ n := toW_len_lt (by omega)
    have hhi : n < pw m := by have := toW_lt n; rwa [hm] at this
    have hd : n / pw (m - 1) < 4294967296 := by
      rw [Nat.div_lt_iff_lt_mul (pw_pos _), Nat.mul_comm, ← pw_succ, show m - 1 + 1 = m by omega]; exact hhi
    have hp : 0 < n / pw (m - 1) := Nat.div_pos hlo (pw_pos _)
    have hg : gw (toW n) (m - 1) = ((n / pw (m - 1) : Nat) : Int) := by rw [toW_gw, Nat.mod_eq_of_lt hd]
    obtain ⟨r, hr, hr32, hlt, hge⟩ := len32 (gw (toW n) (m - 1)) (by rw [hg]; exact Int.natCast_nonneg _) (by rw [hg]; exact Int.ofNat_lt.2 hd)
    rw [hg] at hlt hge
    rw [Int.toNat_natCast] at hlt hge
    obtain ⟨h3, h4⟩ := hge (Int.natCast_pos.2 hp)
    have hlen := bits_len hm1 h3 hlt h4
    have w1 : wrap64 ((m : Int) - 1) = ((m - 1 : Nat) : Int) := by clear hlen hr; rw [w64 (by omega) (by omega)]; omega
    have w2 : wrap64 (wrap64 (32 * ((m - 1 : Nat) : Int)) + (r : Int)) = ((32 * (m - 1) + r : Nat) : Int) := by
      clear hlen hr w1 hd hp hlt h4 hlo hhi hg
      rw [w64 (x := 32 * ((m - 1 : Nat) : Int)) (by omega) (by omega), w64 (by omega) (by omega)]; omega
    rw [if_neg c1, hm, w1, if_pos c2, if_pos c3, rd_gw, hr]
    simp only [Option.bind_some]
    rw [w2, hlen]
theorem fb_round (a b : Int) (y : Nat) (hy : y = 0 ∨ y = 8 ∨ y = 16 ∨ y = 24) (ha0 : 0 ≤ a) (ha : a.toNat < 2 ^ y) (hb0 : 0 ≤ b) (hb : b < 256) :
    Go.bits .or .u32 a (shl .u32 (b % 4294967296) (y : Int)) = ((a.toNat + b.toNat * 2 ^ y : Nat) : Int) ∧ a.toNat + b.toNat * 2 ^ y < 4294967296 := by
  obtain ⟨n, rfl⟩ := Int.eq_ofNat_of_zero_le ha0
  obtain ⟨m, rfl⟩ := Int.eq_ofNat_of_zero_le hb0
  simp only [Int.toNat_natCast] at ha ⊢
  have hmin : min y IntKind.u32.bits = y := Nat.min_eq_left (by show y ≤ 32; omega)
  have hs : shl .u32 ((m : Int) % 4294967296) (y : Int) = ((m * 2 ^ y : Nat) : Int) := by
    unfold shl
    rw [Int.toNat_natCast, hmin]
    have e1 : (m : Int) % 4294967296 = (m : Int) := by omega
    have e2 : (m : Int) * 2 ^ y = ((m * 2 ^ y : Nat) : Int) := by simp
    rw [e1, e2]
    rcases hy with rfl | rfl | rfl | rfl <;> exact wraps_u32 _ (by omega) (by omega)
  rw [hs]
  rcases hy with rfl | rfl | rfl | rfl
  all_goals
    refine ⟨?_, by omega⟩
    rw [bits_join_low .u32 32 (by decide) wraps_u32 _ (n : Int) ((m * 2 ^ _ : Nat) : Int) (by omega) (by first | exact_mod_cast ha) (by omega) (by omega) (by omega) (by omega)]
    omega
structure FBInv (l : List Int) (i : Nat) (row : List Int) : Prop where
  len : row.length = (l.length + 3) / 4
  sz : Sized row
  eq : valW row = valL (l.reverse.take i)
theorem digit_lt {row : List Int} (hs : Sized row) {q c : Nat} (hq : q < row.length) (h : valW row < pw q * c) : (gw row q).toNat < c := by
  have h1 : valW row = valW (row.take q) + pw q * valW (row.drop q) := valW_drop (by omega)
  have h2 : row.drop q = gw row q :: row.drop (q + 1) := by rw [List.drop_eq_getElem_cons hq, gw_eq hq]
  rw [h2, valW_cons] at h1
  have h3 : pw q * (gw row q).toNat < pw q * c := by
    rw [Nat.mul_add] at h1
    omega
  exact Nat.lt_of_mul_lt_mul_left h3
theorem valW_set' {row : List Int} {q : Nat} (hq : q < row.length) {x : Int} (hx : 0 ≤ x) : valW (row.set q x) + pw q * (gw row q).toNat = valW row + pw q * x.toNat := by
  have := val_set (β := 4294967296) (enc := Int.toNat) row q x hq
  rw [← gw_eq hq] at this
  exact this
theorem fb_loop (l : List Int) (hb : Bytes l) (hl : l.length ≤ 128) (d : Nat) : ∀ (i : Nat) (row : List Int), FBInv l i row → i + d = l.length →
    Ev (fun k => nat_FromBytes.l0 k l row (l.length : Int) (i : Int)) (toW (valH l), 0) := by
  induction d with
  | zero =>
    intro i row h hi
    obtain rfl : i = l.length := by omega
    have ht := trim_ev row h.sz (by rw [h.len]; omega)
    have hv : valW row = valH l := by rw [h.eq, List.take_of_length_le (by simp)]; rfl
    rw [hv] at ht
    exact Ev.step (fun k => by simp only [nat_FromBytes.l0]; rw [if_neg (by omega)]) (Ev.bind (f := fun _ t => some (t, (0 : Int))) ht (Ev.now _))
  | succ d ih =>
    intro i row h hi
    have hrl := h.len
    have hil : i < l.length := by omega
    have c1 : (i : Int) < (l.length : Int) := by omega
    have c2 : (0 : Int) ≤ ((l.length - 1 - i : Nat) : Int) := by omega
    have c3 : ((l.length - 1 - i : Nat) : Int) < (l.length : Int) := by omega
    have c4 : (0 : Int) ≤ ((i / 4 : Nat) : Int) := by omega
    have c5 : ((i / 4 : Nat) : Int) < (row.length : Int) := by omega
    have c6 : (0 : Int) ≤ ((8 * (i % 4) : Nat) : Int) := by omega
    have hq : i / 4 < row.length := by omega
    have hy : 8 * (i % 4) = 0 ∨ 8 * (i % 4) = 8 ∨ 8 * (i % 4) = 16 ∨ 8 * (i % 4) = 24 := by omega
    have i1 : i + 1 + d = l.length := by omega
    have hgl : gw l (l.length - 1 - i) = gw l.reverse i := by
      rw [gw_eq (by omega), gw_eq (by simp; omega), List.getElem_reverse]
    have g := hb.gw (l.length - 1 - i)
    have gr := h.sz.gw (i / 4)
    have hval : valW row < 256 ^ i := by
      have := valL_lt (hb.reverse.take i)
      rw [List.length_take, List.length_reverse, Nat.min_eq_left (by omega)] at this
      rw [h.eq]; exact this
    rw [pow256] at hval
    have hdig := digit_lt h.sz hq hval
    obtain ⟨e1, e2⟩ := fb_round (gw row (i / 4)) (gw l (l.length - 1 - i)) (8 * (i % 4)) hy gr.1 hdig g.1 g.2
    have hst : FBInv l (i + 1) (row.set (i / 4) (((gw row (i / 4)).toNat + (gw l (l.length - 1 - i)).toNat * 2 ^ (8 * (i % 4)) : Nat) : Int)) := by
      refine ⟨by rw [List.length_set]; exact h.len, h.sz.set _ ⟨Int.natCast_nonneg _, Int.ofNat_lt.2 e2⟩, ?_⟩
      have e3 := valW_set' hq (x := (((gw row (i / 4)).toNat + (gw l (l.length - 1 - i)).toNat * 2 ^ (8 * (i % 4)) : Nat) : Int)) (Int.natCast_nonneg _)
      rw [Int.toNat_natCast] at e3
      have e4 : valL (l.reverse.take (i + 1)) = valL (l.reverse.take i) + 256 ^ i * (gw l (l.length - 1 - i)).toNat := by
        rw [take_snoc (by simp; omega), valL_append, valL_one, hgl, List.length_take, List.length_reverse, Nat.min_eq_left (by omega)]
      rw [e4, ← h.eq, pow256]
      generalize 2 ^ (8 * (i % 4)) = P at *
      generalize pw (i / 4) = Q at *
      generalize (gw row (i / 4)).toNat = x at *
      generalize (gw l (l.length - 1 - i)).toNat = y at *
      clear e1 e2 e4 hdig hval hgl hy h ih
      grind
    have w1 : wrap64 (wrap64 ((l.length : Int) - 1) - (i : Int)) = ((l.length - 1 - i : Nat) : Int) := by
      clear e1 e2 hst hdig hval hgl
      rw [w64 (x := (l.length : Int) - 1) (by omega) (by omega), w64 (by omega) (by omega)]; omega
    have w2 : wrap64 (Int.tdiv (i : Int) 4) = ((i / 4 : Nat) : Int) := by
      clear e1 e2 hst hdig hval hgl w1
      rw [show (4 : Int) = ((4 : Nat) : Int) from rfl, ← Int.ofNat_tdiv]; exact w64 (by omega) (by omega)
    have w3 : wrap64 (8 * Int.tmod (i : Int) 4) = ((8 * (i % 4) : Nat) : Int) := by
      clear e1 e2 hst hdig hval hgl w1 w2
      rw [show (4 : Int) = ((4 : Nat) : Int) from rfl, ← Int.ofNat_tmod, w64 (by omega) (by omega)]; omega
    have w4 : wrap64 ((i : Int) + 1) = ((i + 1 : Nat) : Int) := by clear e1 e2 hst hdig hval hgl w1 w2 w3; exact winc (by omega)
    refine Ev.step (fun k => ?_) (ih (i + 1) _ hst i1)
    simp only [nat_FromBytes.l0]
    rw [if_pos c1, w1, if_pos c2, if_pos c3, w2, if_pos c4, if_pos c5, w3, if_pos c6, rd_gw, rd_gw, e1, w4, Int.toNat_natCast]
theorem FromBytes_ev (l : List Int) (hb : Bytes l) (hl : l.length ≤ 128) : Ev (fun k => nat_FromBytes.f k l) (toW (valH l), 0) := by
  unfold nat_FromBytes.f
  have h := fb_loop l hb hl l.length 0 (List.replicate ((l.length + 3) / 4) 0) ⟨by simp, Sized.zeros _, by rw [valW_zeros]; rfl⟩ (by omega)
  have w1 : wrap64 (Int.tdiv (wrap64 ((l.length : Int) + 3)) 4) = (((l.length + 3) / 4 : Nat) : Int) := by
    have : wrap64 ((l.length : Int) + 3) = ((l.length + 3 : Nat) : Int) := by rw [w64 (by omega) (by omega)]; omega
    rw [this, show (4 : Int) = ((4 : Nat) : Int) from rfl, ← Int.ofNat_tdiv]
    clear this
    exact w64 (by omega) (by omega)
  have c0 : ¬ (l.length : Int) > 128 := by omega
  have c1 : (0 : Int) ≤ (((l.length + 3) / 4 : Nat) : Int) := by clear w1; omega
  have c2 : (l.length + 3) / 4 ≤ 70368744177664 := by clear w1; omega
  refine Ev.congr (fun k => ?_) h
  rw [if_neg c0, w1, if_pos c1, Int.toNat_natCast, if_pos c2]
  rfl
end Go.Proofs.Yteejcpbngnojkaa.P
end
