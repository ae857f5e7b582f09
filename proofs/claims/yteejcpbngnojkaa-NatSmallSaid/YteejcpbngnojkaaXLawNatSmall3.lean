/- Part of the proof: the walks and the plain arithmetic, in line (wip/tools/pack.py). -/
import Derived.Test.YteejcpbngnojkaaXLawNatSmall2
import Derived.Lib.Bytes
import Derived.Lib.EndianBits
import Derived.Test.YteejcpbngnojkaaRows
import Derived.WalkKit
import Derived.ProofKit
import Derived.SizedLaws
import Derived.ChangeSlices
section
namespace Go.Proofs.Yteejcpbngnojkaa.P
open Go.RowKit Go.Shelf Go.Proofs.YteejcpbngnojkaaW.PrintWords Go.Proofs.YteejcpbngnojkaaW.PrintLast Go.Proofs.YteejcpbngnojkaaW.PrintMore
open Go.Proofs.Yteejcpbngnojkaa.Num
set_option linter.unusedVariables false
def nat_Nat_Div.f (_k : Nat) (l0_0 : List Int) (l1_0 : List Int) : Option (List Int × List Int × Int) :=
  if canonB l0_0 && canonB l1_0 && decide (l0_0.length ≤ 1048576) && decide (l1_0.length ≤ 1048576) then (if valW l1_0 = 0 then some ([], [], 5) else some (toW (valW l0_0 / valW l1_0), toW (valW l0_0 % valW l1_0), 0)) else none
theorem nat_Nat_Div.mono : ∀ a0 a1 k, LeO (nat_Nat_Div.f k a0 a1) (nat_Nat_Div.f (k + 1) a0 a1) := fun _ _ _ => LeO.refl _
theorem four_new (w : World) (o0 o1 o2 o3 : Obj) : ((((w.alloc o0).alloc o1).alloc o2).alloc o3).heap[w.heap.size]? = some o0 ∧ ((((w.alloc o0).alloc o1).alloc o2).alloc o3).heap[w.heap.size + 1]? = some o1 ∧ ((((w.alloc o0).alloc o1).alloc o2).alloc o3).heap[w.heap.size + 1 + 1]? = some o2 ∧ ((((w.alloc o0).alloc o1).alloc o2).alloc o3).heap[w.heap.size + 1 + 1 + 1]? = some o3 ∧ Below w.heap.size w ((((w.alloc o0).alloc o1).alloc o2).alloc o3) := by
  refine ⟨blk_alloc (blk_alloc (blk_alloc (blk_new w o0) _) _) _, ?_, ?_, ?_, ?_⟩
  · refine blk_alloc (blk_alloc ?_ _) _
    have := blk_new (w.alloc o0) o1
    simpa only [World.size_alloc] using this
  · refine blk_alloc ?_ _
    have := blk_new ((w.alloc o0).alloc o1) o2
    simpa only [World.size_alloc] using this
  · have := blk_new (((w.alloc o0).alloc o1).alloc o2) o3
    simpa only [World.size_alloc] using this
  · exact ((((Below.refl _ w).alloc (Nat.le_refl _) _).alloc (by simp) _).alloc (by simp; omega) _).alloc (by simp; omega) _
theorem two_end {w W : World} {va vb : Value} (m2 : W.heap[w.heap.size + 1 + 1]? = some (.cells #[.slice none 0 0] 38 (0, 0))) (m3 : W.heap[w.heap.size + 1 + 1 + 1]? = some (.cells #[.slice none 0 0] 38 (0, 0))) (hB : Below w.heap.size w W) (Wf : World)
    (hW : (W.setCell ⟨w.heap.size + 1 + 1, 0, none⟩ va).setCell ⟨w.heap.size + 1 + 1 + 1, 0, none⟩ vb = Wf) :
    Wf.heap[w.heap.size + 1 + 1]? = some (.cells #[va] 38 (0, 0)) ∧ Wf.heap[w.heap.size + 1 + 1 + 1]? = some (.cells #[vb] 38 (0, 0)) ∧ Below w.heap.size w Wf ∧ ∀ (b : Nat) (ok ok' : Nat → Prop) (v : Value) (xs : List Int), Kd.V (Kd.int .u32) 23 W b ok v xs → (∀ k, ok k → (k ≠ w.heap.size + 1 + 1 ∧ k ≠ w.heap.size + 1 + 1 + 1) ∧ ok' k) → Kd.V (Kd.int .u32) 23 Wf w.heap.size ok' v xs := by
  subst hW
  refine ⟨(Below.heap_setCell _ _ _ _ (by show w.heap.size + 1 + 1 ≠ w.heap.size + 1 + 1 + 1; omega)).trans (blk_put m2 0 _ rfl), blk_put ((Below.heap_setCell _ _ _ _ (by show w.heap.size + 1 + 1 + 1 ≠ w.heap.size + 1 + 1; omega)).trans m3) 0 _ rfl,
    (hB.setCell (p := ⟨w.heap.size + 1 + 1, 0, none⟩) (by show w.heap.size ≤ w.heap.size + 1 + 1; omega) _).setCell (p := ⟨w.heap.size + 1 + 1 + 1, 0, none⟩) (by show w.heap.size ≤ w.heap.size + 1 + 1 + 1; omega) _, fun b ok ok' v xs hv ho => ?_⟩
  exact Kd.V_mono (Kd.V_far (Kd.V_far hv (fun k hk => (ho k hk).1.1) _) (fun k hk => (ho k hk).1.2) _) (fun k hk => (ho k hk).2)
set_option maxRecDepth 100000 in
set_option maxHeartbeats 4000000 in
theorem nat_Nat_Div.calls_z (P0_0_ : Nat → Prop) (A0_0 : Option Addr) (c0_0 : Nat) (l0_0 : List Int) (A1_0 : Option Addr) (c1_0 : Nat) (l1_0 : List Int) (w : World) (hs0_0 : Kd.V (Kd.int .u32) 23 w w.heap.size (fun k_ => P0_0_ k_) (.slice A0_0 l0_0.length c0_0) l0_0) (hr1_0 : Kd.C (Kd.int .u32) w A1_0 l1_0.length l1_0) (hc1_0 : l1_0.length ≤ c1_0) (hz : l1_0.length = 0) :
    Calls Try.prog 53 #[.agg #[.slice A0_0 l0_0.length c0_0], .agg #[.slice A1_0 l1_0.length c1_0]] w fun e w' => ∃ v0_ v1_ : Value, e = .returned (.tuple #[.agg #[v0_], .agg #[v1_], (.int .i64 5)]) ∧ Kd.V (Kd.int .u32) 23 w' w.heap.size (fun k_ => (P0_0_ k_ ∨ w.heap.size ≤ k_)) v0_ [] ∧ Kd.V (Kd.int .u32) 23 w' w.heap.size (fun k_ => (P0_0_ k_ ∨ w.heap.size ≤ k_)) v1_ [] ∧ Below w.heap.size w w' := by
  have V0 := Aside0.mk (Kd.V_bound hs0_0)
  have C1 := Aside0.mk hr1_0
  have hc1 := Aside0.mk hc1_0
  clear hs0_0 hr1_0 hc1_0
  obtain ⟨k0, k1, k2, k3, B⟩ := four_new w (.cells #[.slice A0_0 l0_0.length c0_0] 38) (.cells #[.slice A1_0 l1_0.length c1_0] 38) (.cells #[.slice none 0 0] 38) (.cells #[.slice none 0 0] 38)
  have V1 := Aside0.mk (Kd.V_alloc (Kd.V_alloc (Kd.V_alloc (Kd.V_alloc V0.out (.cells #[.slice A0_0 l0_0.length c0_0] 38)) (.cells #[.slice A1_0 l1_0.length c1_0] 38)) (.cells #[.slice none 0 0] 38)) (.cells #[.slice none 0 0] 38))
  have C2 := Aside0.mk (Kd.C_below C1.out B)
  have hzb : ((l1_0.length : Int) == 0) = true := by rw [hz]; rfl
  replace hz := Aside0.mk hz
  go_enter Try.func53, Try.ntmps53
  go_wp2_with (go_at_call 44; refine (nat_Nat_Zero.calls _ _ l1_0 _ _ C2.out hc1.out rfl).mono ?_; rintro e w1 ⟨rfl, hb⟩; replace k0 := (hb.block _ (blk_lt k0)).trans k0; replace k1 := (hb.block _ (blk_lt k1)).trans k1; replace k2 := (hb.block _ (blk_lt k2)).trans k2; replace k3 := (hb.block _ (blk_lt k3)).trans k3; replace V1 := Aside0.mk (Kd.V_below V1.out hb); replace C2 := Aside0.mk (Kd.C_below C2.out hb); replace B := below_step B hb; clear hb; have q0 : World.cell? _ ⟨w.heap.size, 0, none⟩ = some (.slice A0_0 l0_0.length c0_0) := blk_cell k0 0; have q1 : World.cell? _ ⟨w.heap.size + 1, 0, none⟩ = some (.slice A1_0 l1_0.length c1_0) := blk_cell k1 0; have q2 : World.cell? _ ⟨w.heap.size + 1 + 1, 0, none⟩ = some (.slice none 0 0) := blk_cell k2 0; have q3 : World.cell? _ ⟨w.heap.size + 1 + 1 + 1, 0, none⟩ = some (.slice none 0 0) := blk_cell k3 0; have f2 := blk_frozen k2 0; have f3 := blk_frozen k3 0)
  obtain ⟨e2, e3, y1, y2⟩ := two_end k2 k3 B _ rfl
  refine bodyPost_ret (results_list (rs := [.cell 4 38, .cell 5 38, .tmp 6]) rfl (by simp) (.cell _ 38 _ (0, 0) _ rfl e2 Try.underlying38 rfl (by kernel_rfl) (.cell _ 38 _ (0, 0) _ rfl e3 Try.underlying38 rfl (by kernel_rfl) (.tmp .nil)))) rfl ?_
  exact ⟨_, _, rfl, Kd.V_nil _ _ _ _ _, Kd.V_nil _ _ _ _ _, y1⟩
set_option maxRecDepth 100000 in
set_option maxHeartbeats 4000000 in
theorem nat_Nat_Div.calls_l (k : Nat) (c : Int) (P0_0_ : Nat → Prop) (A0_0 : Option Addr) (c0_0 : Nat) (l0_0 : List Int) (A1_0 : Option Addr) (c1_0 : Nat) (l1_0 : List Int) (w : World) (hs0_0 : Kd.V (Kd.int .u32) 23 w w.heap.size (fun k_ => P0_0_ k_) (.slice A0_0 l0_0.length c0_0) l0_0) (hr1_0 : Kd.C (Kd.int .u32) w A1_0 l1_0.length l1_0) (hc1_0 : l1_0.length ≤ c1_0) (hz : ¬ l1_0.length = 0) (hc : nat_Nat_Cmp.f k l0_0 l1_0 = some c) (hneg : c < 0) :
    Calls Try.prog 53 #[.agg #[.slice A0_0 l0_0.length c0_0], .agg #[.slice A1_0 l1_0.length c1_0]] w fun e w' => ∃ v0_ v1_ : Value, e = .returned (.tuple #[.agg #[v0_], .agg #[v1_], (.int .i64 0)]) ∧ Kd.V (Kd.int .u32) 23 w' w.heap.size (fun k_ => (P0_0_ k_ ∨ w.heap.size ≤ k_)) v0_ [] ∧ Kd.V (Kd.int .u32) 23 w' w.heap.size (fun k_ => (P0_0_ k_ ∨ w.heap.size ≤ k_)) v1_ l0_0 ∧ Below w.heap.size w w' := by
  have V0 := Aside0.mk (Kd.V_bound hs0_0)
  have C1 := Aside0.mk hr1_0
  have hc1 := Aside0.mk hc1_0
  clear hs0_0 hr1_0 hc1_0
  obtain ⟨k0, k1, k2, k3, B⟩ := four_new w (.cells #[.slice A0_0 l0_0.length c0_0] 38) (.cells #[.slice A1_0 l1_0.length c1_0] 38) (.cells #[.slice none 0 0] 38) (.cells #[.slice none 0 0] 38)
  have V1 := Aside0.mk (Kd.V_alloc (Kd.V_alloc (Kd.V_alloc (Kd.V_alloc V0.out (.cells #[.slice A0_0 l0_0.length c0_0] 38)) (.cells #[.slice A1_0 l1_0.length c1_0] 38)) (.cells #[.slice none 0 0] 38)) (.cells #[.slice none 0 0] 38))
  have C2 := Aside0.mk (Kd.C_below C1.out B)
  have hzb : ((l1_0.length : Int) == 0) = false := beq_eq_false_iff_ne.2 (by omega)
  replace hc := Aside0.mk hc
  replace hz := Aside0.mk hz
  have hmx : Try.prog.follows .mixedOrders = true := by kernel_rfl
  have hnb : decide (c < 0) = true := decide_eq_true hneg
  go_enter Try.func53, Try.ntmps53
  go_wp2_with (first | (go_at_call 44; refine (nat_Nat_Zero.calls _ _ l1_0 _ _ C2.out hc1.out rfl).mono ?_; rintro e w1 ⟨rfl, hb⟩; replace k0 := (hb.block _ (blk_lt k0)).trans k0; replace k1 := (hb.block _ (blk_lt k1)).trans k1; replace k2 := (hb.block _ (blk_lt k2)).trans k2; replace k3 := (hb.block _ (blk_lt k3)).trans k3; replace V1 := Aside0.mk (Kd.V_below V1.out hb); replace C2 := Aside0.mk (Kd.C_below C2.out hb); replace B := below_step B hb; clear hb; have q0 : World.cell? _ ⟨w.heap.size, 0, none⟩ = some (.slice A0_0 l0_0.length c0_0) := blk_cell k0 0; have q1 : World.cell? _ ⟨w.heap.size + 1, 0, none⟩ = some (.slice A1_0 l1_0.length c1_0) := blk_cell k1 0; have q2 : World.cell? _ ⟨w.heap.size + 1 + 1, 0, none⟩ = some (.slice none 0 0) := blk_cell k2 0; have q3 : World.cell? _ ⟨w.heap.size + 1 + 1 + 1, 0, none⟩ = some (.slice none 0 0) := blk_cell k3 0; have f2 := blk_frozen k2 0; have f3 := blk_frozen k3 0) | (go_at_call 45; refine (nat_Nat_Cmp.calls k _ _ l0_0 _ _ l1_0 c _ (Kd.V_reads' V1.out).2.2 (Kd.V_reads' V1.out).2.1 C2.out hc1.out hc.out).mono ?_; rintro e w2 ⟨rfl, hb⟩; replace k0 := (hb.block _ (blk_lt k0)).trans k0; replace k1 := (hb.block _ (blk_lt k1)).trans k1; replace k2 := (hb.block _ (blk_lt k2)).trans k2; replace k3 := (hb.block _ (blk_lt k3)).trans k3; replace V1 := Aside0.mk (Kd.V_below V1.out hb); replace C2 := Aside0.mk (Kd.C_below C2.out hb); replace B := below_step B hb; clear hb; have q0 : World.cell? _ ⟨w.heap.size, 0, none⟩ = some (.slice A0_0 l0_0.length c0_0) := blk_cell k0 0; have q1 : World.cell? _ ⟨w.heap.size + 1, 0, none⟩ = some (.slice A1_0 l1_0.length c1_0) := blk_cell k1 0; have q2 : World.cell? _ ⟨w.heap.size + 1 + 1, 0, none⟩ = some (.slice none 0 0) := blk_cell k2 0; have q3 : World.cell? _ ⟨w.heap.size + 1 + 1 + 1, 0, none⟩ = some (.slice none 0 0) := blk_cell k3 0; have f2 := blk_frozen k2 0; have f3 := blk_frozen k3 0))
  go_region
  all_goals go_wp2
  obtain ⟨e2, e3, y1, y2⟩ := two_end (w := w) (W := w2) (va := .slice none 0 0) (vb := .slice A0_0 l0_0.length c0_0) k2 k3 B _ rfl
  refine bodyPost_ret (results_list (rs := [.cell 4 38, .cell 5 38, .tmp 6]) rfl (by simp) (.cell _ 38 _ (0, 0) _ rfl e2 Try.underlying38 rfl (by kernel_rfl) (.cell _ 38 _ (0, 0) _ rfl e3 Try.underlying38 rfl (by kernel_rfl) (.tmp .nil)))) rfl ?_
  exact ⟨_, _, rfl, Kd.V_nil _ _ _ _ _, Kd.V_drew (y2 _ _ _ _ _ V1.out (fun k_ hk => ⟨⟨by have := hk.2; omega, by have := hk.2; omega⟩, .inl hk.1⟩)), y1.drew⟩
theorem nat_Nat_Div.calls (k : Nat) (P0_0_ : Nat → Prop) (A0_0 : Option Addr) (c0_0 : Nat) (l0_0 : List Int) (A1_0 : Option Addr) (c1_0 : Nat) (l1_0 : List Int) (r1 : List Int) (r2 : List Int) (r3 : Int) (w : World) (hs0_0 : Kd.V (Kd.int .u32) 23 w w.heap.size (fun k_ => P0_0_ k_) (.slice A0_0 l0_0.length c0_0) l0_0) (hr1_0 : Kd.C (Kd.int .u32) w A1_0 l1_0.length l1_0) (hc1_0 : l1_0.length ≤ c1_0) (h : nat_Nat_Div.f k l0_0 l1_0 = some (r1, r2, r3)) :
    Calls Try.prog 53 #[.agg #[.slice A0_0 l0_0.length c0_0], .agg #[.slice A1_0 l1_0.length c1_0]] w fun e w' => ∃ v0_ v1_ : Value, e = .returned (.tuple #[.agg #[v0_], .agg #[v1_], .int .i64 r3]) ∧ Kd.V (Kd.int .u32) 23 w' w.heap.size (fun k_ => (P0_0_ k_ ∨ w.heap.size ≤ k_)) v0_ r1 ∧ Kd.V (Kd.int .u32) 23 w' w.heap.size (fun k_ => (P0_0_ k_ ∨ w.heap.size ≤ k_)) v1_ r2 ∧ Below w.heap.size w w' := by
  unfold nat_Nat_Div.f at h
  by_cases hg : (canonB l0_0 && canonB l1_0 && decide (l0_0.length ≤ 1048576) && decide (l1_0.length ≤ 1048576)) = true
  · rw [if_pos hg] at h
    simp only [Bool.and_eq_true, decide_eq_true_eq] at hg
    obtain ⟨⟨⟨g0, g1⟩, g2⟩, g3⟩ := hg
    have e0 := canonB_eq g0
    have e1 := canonB_eq g1
    by_cases hB : valW l1_0 = 0
    · rw [if_pos hB] at h
      cases h
      exact nat_Nat_Div.calls_z P0_0_ A0_0 c0_0 l0_0 A1_0 c1_0 l1_0 w hs0_0 hr1_0 hc1_0 ((canonB_nil g1).1 hB)
    · rw [if_neg hB] at h
      cases h
      have hl : ¬ l1_0.length = 0 := fun e => hB ((canonB_nil g1).2 e)
      by_cases hlt : valW l0_0 < valW l1_0
      · have hc : nat_Nat_Cmp.f 0 l0_0 l1_0 = some (cmpN (valW l0_0) (valW l1_0)) := by
          have := Cmp_toW 0 (valW l0_0) (valW l1_0)
          rwa [e0, e1] at this
        have hcal := nat_Nat_Div.calls_l 0 _ P0_0_ A0_0 c0_0 l0_0 A1_0 c1_0 l1_0 w hs0_0 hr1_0 hc1_0 hl hc (cmpN_lt.2 hlt)
        rw [Nat.div_eq_of_lt hlt, Nat.mod_eq_of_lt hlt, toW_zero, e0]
        exact hcal
      · obtain ⟨K, hK⟩ := (g_ev (valW l0_0) (valW l1_0) (by omega) (by rw [e0]; exact g2) (by rw [e1]; exact g3)).rounds
        rw [e0, e1] at hK
        have hz : nat_Nat_Zero.f l1_0 = some false := by
          have := Zero_toW (valW l1_0)
          rw [e1] at this
          rw [this]
          simp [hB]
        have hn : ∀ t, nat_Nat_Cmp.f K l0_0 l1_0 = some t → ¬ t < 0 := by
          intro t ht hneg
          have := Cmp_toW K (valW l0_0) (valW l1_0)
          rw [e0, e1, ht] at this
          cases this
          exact hlt (cmpN_lt.1 hneg)
        have hr0 := Kd.V_reads' hs0_0
        by_cases h1 : (l1_0.length : Int) = 1
        · refine (nat_Nat_Div.calls_o K A0_0 c0_0 l0_0 A1_0 c1_0 l1_0 _ _ _ w hr0.2.2 hr0.2.1 hr1_0 hc1_0 hz hn h1 hK).mono ?_
          rintro e w' ⟨v0, v1, he, hv0, hv1, hb⟩
          exact ⟨v0, v1, he, Kd.V_mono hv0 (fun _ hk => .inr hk), Kd.V_mono hv1 (fun _ hk => .inr hk), hb⟩
        · refine (nat_Nat_Div.calls_k K A0_0 c0_0 l0_0 A1_0 c1_0 l1_0 _ _ _ w hr0.2.2 hr0.2.1 hr1_0 hc1_0 hz hn h1 hK).mono ?_
          rintro e w' ⟨v0, v1, he, hv0, hv1, hb⟩
          exact ⟨v0, v1, he, Kd.V_mono hv0 (fun _ hk => .inr hk), Kd.V_mono hv1 (fun _ hk => .inr hk), hb⟩
  · rw [if_neg hg] at h
    cases h
end Go.Proofs.Yteejcpbngnojkaa.P
end
section
namespace Go.Proofs.Yteejcpbngnojkaa.P
open Go.RowKit Go.Proofs.YteejcpbngnojkaaW.PrintWords Go.Proofs.YteejcpbngnojkaaW.PrintLast Go.Proofs.YteejcpbngnojkaaW.PrintMore
attribute [local go_sem] max2_int min2_int max_two min_two max_three min_three max_four min_four
set_option linter.unusedVariables false
set_option linter.unusedSimpArgs false
def sacristylaw01_lives.f (k : Nat)  : Option (Bool):=(nat_New.f k 7).bind fun t420 => ((nat_New.f k 2).bind fun t423 => ((nat_Nat_Div.f k t420 t423).bind fun bt426 => (if bt426.2.2 = 0 then ((sacristyref01_Small.f k 3).bind fun t435 => ((sacristylaw01_Same.f k bt426.1 t435).bind fun t438 => (if t438 = true then ((sacristyref01_Small.f k 1).bind fun t439 => ((sacristylaw01_Same.f k bt426.2.1 t439).bind fun t442 => (some t442))) else (some false)))) else (some false))))
theorem sacristylaw01_lives.mono : ∀ k,LeO (sacristylaw01_lives.f k ) (sacristylaw01_lives.f (k + 1) ):=by
 intro  k
 unfold sacristylaw01_lives.f
 repeat' first
   |(with_reducible exact nat_Nat_Div.mono _ _ _)
   |(with_reducible exact nat_New.mono _ _)
   |(with_reducible exact sacristylaw01_Same.mono _ _ _)
   |(with_reducible exact sacristyref01_Small.mono _ _)
   |(with_reducible exact LeO.refl _)
   |(with_reducible exact LeO.none _)
   |(with_reducible refine LeO.ite ?_ ?_)
   |(with_reducible refine LeO.bind ?_ (fun _ => ?_))
   |exact nat_Nat_Div.mono _ _ _
   |exact nat_New.mono _ _
   |exact sacristylaw01_Same.mono _ _ _
   |exact sacristyref01_Small.mono _ _
   |exact LeO.none _
   |refine LeO.ite ?_ ?_
   |refine LeO.bind ?_ (fun _ => ?_)
def sacristylaw01_lives.T2 : Bool × List (List Nat × List Nat):=(true,[([],[]),([0],[0]),([1],[1]),([2],[2]),([2,2],[2]),([3,4,4,2],[2,3,4]),([2,5],[2,5]),([6,5],[6]),([7],[7]),([7,7],[7]),([8,9,9,7],[7,8,9]),([7,10],[7,10]),([11,10,0,1,2,3,4,5,6,7,8,9,10,11],[11])])
def sacristylaw01_lives.B2 : List Nat:=[0,1,3,7,7,31,63,127,255,255,1023,2047,4095]
theorem sacristylaw01_lives.tab2 : rtab .any (opsOf Try.f34 2) = sacristylaw01_lives.T2:=by kernel_rfl
theorem sacristylaw01_lives.bits2 : waitsOk sacristylaw01_lives.T2.2 sacristylaw01_lives.B2 = true:=by kernel_rfl
set_option maxHeartbeats 8000000 in
set_option maxRecDepth 100000 in
theorem sacristylaw01_lives.calls (k : Nat)  (r : Bool) (w : World) (h : sacristylaw01_lives.f k  = some r) :
  Calls Try.prog 34 #[] w fun e w' => e = .returned (.bool r) ∧ Below w.heap.size w w':=by
 have hu38:=Try.underlying38
 have HB:=Aside0.mk (Below.refl w.heap.size w)
 have H : ((nat_New.f k 7).bind fun t420 => ((nat_New.f k 2).bind fun t423 => ((nat_Nat_Div.f k t420 t423).bind fun bt426 => (if bt426.2.2 = 0 then ((sacristyref01_Small.f k 3).bind fun t435 => ((sacristylaw01_Same.f k bt426.1 t435).bind fun t438 => (if t438 = true then ((sacristyref01_Small.f k 1).bind fun t439 => ((sacristylaw01_Same.f k bt426.2.1 t439).bind fun t442 => (some t442))) else (some false)))) else (some false))))) = some r:=h
 clear h
 obtain ⟨t420,A1,H⟩:=qH H
 obtain ⟨t423,A2,H⟩:=qH H
 obtain ⟨⟨t426,t429,t432⟩,A3,H⟩:=qH H
 dsimp only at H
 by_cases c4 : t432 = 0
 ·rw [if_pos c4] at H
  have c4b0 : (t432 == 0) = true:=beq_iff_eq.mpr c4
  have c4b1 : (t432 != 0) = false:=bne_eq_false_iff_eq.mpr c4
  clear c4
  obtain ⟨t435,A5,H⟩:=qH H
  obtain ⟨t438,A6,H⟩:=qH H
  by_cases c7 : t438 = true
  ·subst c7
   rw [if_pos rfl] at H
   obtain ⟨t439,A8,H⟩:=qH H
   obtain ⟨t442,A9,H⟩:=qH H
   obtain rfl:=Option.some.inj H
   go_enter Try.func34,Try.ntmps34
   try go_wp2_with (first|((with_reducible refine gate_callee (f:=54) rfl ?_);refine gL (some 5) Try.func54 #[.int .u64 7] ?_;(with_reducible refine (nat_New.calls k 7 t420 _ A1.out).mono ?_);rintro e w10 ⟨v421,rfl,ho0,hb⟩;refine ⟨_,rfl,?_⟩;have HO422:=Aside0.mk (Kd.V_lower (Kd.V_mono (ok':=fun k_ => True) ho0 (fun k_ hk_ => trivial)) (below_size (qS HB)));replace HB:=qs HB hb;clear hb ho0)|((with_reducible refine gate_callee (f:=54) rfl ?_);refine gL (some 6) Try.func54 #[.int .u64 2] ?_;(with_reducible refine (nat_New.calls k 2 t423 _ A2.out).mono ?_);rintro e w11 ⟨v424,rfl,ho0,hb⟩;refine ⟨_,rfl,?_⟩;replace HO422:=qVb HO422 hb;have HO425:=Aside0.mk (Kd.V_lower (Kd.V_mono (ok':=fun k_ => True) ho0 (fun k_ hk_ => trivial)) (below_size (qS HB)));replace HB:=qs HB hb;clear hb ho0;obtain ⟨Ao12,co12,eo12⟩:=Kd.V_slice HO422.out;subst eo12;obtain ⟨Ao13,co13,eo13⟩:=Kd.V_slice HO425.out;subst eo13)|((with_reducible refine gate_callee (f:=53) rfl ?_);refine gL (some 7) Try.func53 #[.agg #[.slice Ao12 t420.length co12],.agg #[.slice Ao13 t423.length co13]] ?_;(with_reducible refine (nat_Nat_Div.calls k (fun k_ => True) _ _ t420 _ _ t423 t426 t429 t432 _ ?side1 ?side2 ?side3 A3.out).mono ?_);(case side1 => first|exact HO422.out|exact qVm HO422);(case side2 => exact qCV HO425);(case side3 => exact qL HO425);rintro e w14 ⟨v427,v430,rfl,ho0,ho1,hb⟩;refine ⟨_,rfl,?_⟩;replace HO422:=qVb HO422 hb;replace HO425:=qVb HO425 hb;have HO428:=Aside0.mk (Kd.V_lower (Kd.V_mono (ok':=fun k_ => True) ho0 (fun k_ hk_ => trivial)) (below_size (qS HB)));have HO431:=Aside0.mk (Kd.V_lower (Kd.V_mono (ok':=fun k_ => True) ho1 (fun k_ hk_ => trivial)) (below_size (qS HB)));replace HB:=qs HB hb;clear hb ho0 ho1)|((with_reducible refine gate_dst (N:=1) rfl ?_);refine qX #[.slice none 0 0] 38 ?_;intro gb433 hg w15 hbox hb;replace HO422:=qVe HO422 hb hg;replace HO425:=qVe HO425 hb hg;replace HO428:=qVe HO428 hb hg;replace HO431:=qVe HO431 hb hg;have BK433:=Aside0.mk hbox;have GE433:=qh hg HB;replace HB:=qs HB hb;clear hb hbox hg)|((with_reducible refine gate_dst (N:=2) rfl ?_);refine qX #[.slice none 0 0] 38 ?_;intro gb434 hg w16 hbox hb;replace HO422:=qVe HO422 hb hg;replace HO425:=qVe HO425 hb hg;replace HO428:=qVe HO428 hb hg;replace HO431:=qVe HO431 hb hg;have BK434:=Aside0.mk hbox;have GE434:=qh hg HB;replace HB:=qs HB hb;have NB433_434:=ql hg BK433;have NB434_433:=qg hg BK433;replace BK433:=qb BK433 hb;clear hb hbox hg;obtain ⟨Ao17,co17,eo17⟩:=Kd.V_slice HO428.out;subst eo17;have hnb18:=NB433_434.out;have hnc18:=NB434_433.out;have hcz19_0:=bc BK433;have hfz19_0:=bz BK433;obtain ⟨Ao20,co20,eo20⟩:=Kd.V_slice HO431.out;subst eo20;have hcz21_0:=bc BK434;have hfz21_0:=bz BK434))
   generalize hw : ((w16.setCell ⟨gb433,0,none⟩ (.slice Ao17 t426.length co17)).setCell ⟨gb434,0,none⟩ (.slice Ao20 t429.length co20)) = w22
   replace hw:=hw.symm
   replace HO422:=qVh hw HO422
   replace HO425:=qVh hw HO425
   replace HO428:=qVh hw HO428
   replace HO431:=qVh hw HO431
   replace BK433:=qBp hw BK433
   replace BK434:=qBp hw BK434
   replace HB:=qSh hw HB
   clear hw
   replace HO422:=qVw HO422
   replace HO425:=qVw HO425
   replace HO428:=qVw HO428
   replace HO431:=qVw HO431
   replace BK433:=qbd BK433
   replace BK434:=qbd BK434
   replace HB:=qsd HB
   refine start_ (n:=13) (S:=fun w' => w'.cell? ⟨gb433,0,none⟩ = some (.slice Ao17 t426.length co17) ∧ w'.cell? ⟨gb434,0,none⟩ = some (.slice Ao20 t429.length co20)) (ds:=[]) #[false,false,false,false,false,false,false,false,false,false,false,false,false] (by kernel_rfl) rfl rfl ⟨bc BK433,bc BK434⟩ (fun hHeld => ?_);refine with_tabW sacristylaw01_lives.tab2 sacristylaw01_lives.bits2 (fun HT_ HW_ => ?_)
   generalize w22.drew = w23 at HO422 HO425 HO428 HO431 BK433 BK434 HB hHeld ⊢
   refine qP 0 11 HT_ ?_
   refine qP 1 12 HT_ ?_
   refine qP 2 13 HT_ ?_
   refine qT 3 14 HT_ HW_ hHeld ?_
   refine q1 4 (some 15) HT_ rfl (fun K hK => ?_)
   refine g_ Try.func56 #[.int .u64 3] ?_
   with_reducible refine (sacristyref01_Small.calls k 3 t435 _ A5.out).mono ?_
   rintro e w24 ⟨v436,rfl,ho0,hb⟩
   refine ⟨_,rfl,?_⟩
   replace HO422:=qVd HO422 ho0 hb
   replace HO425:=qVd HO425 ho0 hb
   replace HO428:=qVd HO428 ho0 hb
   replace HO431:=qVd HO431 ho0 hb
   have HO437:=Aside0.mk (Kd.R_lower ho0 (below_size (qS HB)))
   replace BK433:=qb BK433 hb
   replace BK434:=qb BK434 hb
   replace HB:=qs HB hb
   clear hb ho0
   obtain ⟨Ao25,co25,eo25⟩:=Kd.R_slice HO437.out
   (first|subst eo25|(injection eo25 with f1_ f2_ f3_;have f4_:=f1_.symm;have f5_:=f3_.symm;clear f1_ f2_ f3_;subst f4_;subst f5_))
   refine hK.out _ _ ⟨bc BK433,bc BK434⟩ (fun hHeld => ?_)
   clear hK K
   refine qO 15 ?_
   refine q1 5 (some 16) HT_ rfl (fun K hK => ?_)
   refine g_ Try.func37 #[.agg #[.slice Ao17 t426.length co17],.slice Ao25 t435.length co25] ?_
   with_reducible refine (sacristylaw01_Same.calls k _ _ t426 _ _ t435 true _ ?side1 ?side2 ?side3 ?side4 A6.out).mono ?_
   (case side1 => exact qCV HO428)
   (case side2 => exact qL HO428)
   (case side3 => exact qCR HO437)
   (case side4 => exact qLR HO437)
   rintro e w26 ⟨rfl,hb⟩
   refine ⟨_,rfl,?_⟩
   replace HO422:=qVb HO422 hb
   replace HO425:=qVb HO425 hb
   replace HO428:=qVb HO428 hb
   replace HO431:=qVb HO431 hb
   replace HO437:=qRb HO437 hb
   replace BK433:=qb BK433 hb
   replace BK434:=qb BK434 hb
   replace HB:=qs HB hb
   clear hb
   refine hK.out _ _ ⟨bc BK433,bc BK434⟩ (fun hHeld => ?_)
   clear hK K
   refine qO 16 ?_
   refine qP 6 17 HT_ ?_
   refine qP 7 18 HT_ ?_
   refine qT 8 19 HT_ HW_ hHeld ?_
   refine q1 9 (some 20) HT_ rfl (fun K hK => ?_)
   refine g_ Try.func56 #[.int .u64 1] ?_
   with_reducible refine (sacristyref01_Small.calls k 1 t439 _ A8.out).mono ?_
   rintro e w27 ⟨v440,rfl,ho0,hb⟩
   refine ⟨_,rfl,?_⟩
   replace HO422:=qVd HO422 ho0 hb
   replace HO425:=qVd HO425 ho0 hb
   replace HO428:=qVd HO428 ho0 hb
   replace HO431:=qVd HO431 ho0 hb
   have HO441:=Aside0.mk (Kd.R_lower (Kd.R_new' ho0 (Kd.R_lt (qRm HO437))) (below_size (qS HB)))
   replace HO437:=qRd HO437 ho0 hb
   replace BK433:=qb BK433 hb
   replace BK434:=qb BK434 hb
   replace HB:=qs HB hb
   clear hb ho0
   obtain ⟨Ao28,co28,eo28⟩:=Kd.R_slice HO441.out
   (first|subst eo28|(injection eo28 with f1_ f2_ f3_;have f4_:=f1_.symm;have f5_:=f3_.symm;clear f1_ f2_ f3_;subst f4_;subst f5_))
   refine hK.out _ _ ⟨bc BK433,bc BK434⟩ (fun hHeld => ?_)
   clear hK K
   refine qO 20 ?_
   refine q1 10 (some 21) HT_ rfl (fun K hK => ?_)
   refine g_ Try.func37 #[.agg #[.slice Ao20 t429.length co20],.slice Ao28 t439.length co28] ?_
   with_reducible refine (sacristylaw01_Same.calls k _ _ t429 _ _ t439 t442 _ ?side1 ?side2 ?side3 ?side4 A9.out).mono ?_
   (case side1 => exact qCV HO431)
   (case side2 => exact qL HO431)
   (case side3 => exact qCR HO441)
   (case side4 => exact qLR HO441)
   rintro e w29 ⟨rfl,hb⟩
   refine ⟨_,rfl,?_⟩
   replace HO422:=qVb HO422 hb
   replace HO425:=qVb HO425 hb
   replace HO428:=qVb HO428 hb
   replace HO431:=qVb HO431 hb
   replace HO437:=qRb HO437 hb
   replace HO441:=qRb HO441 hb
   replace BK433:=qb BK433 hb
   replace BK434:=qb BK434 hb
   replace HB:=qs HB hb
   clear hb
   refine hK.out _ _ ⟨bc BK433,bc BK434⟩ (fun hHeld => ?_)
   clear hK K
   refine qO 21 ?_
   refine qP 11 22 HT_ ?_
   refine qP 12 0 HT_ ?_
   refine qD HT_ ?_
   try go_wp2
   (first|go_ret|(refine ⟨_,results_tmp rfl _ _ _,?_⟩))
   exact ⟨by first|rfl|(simp [errW_none,errW_some] <;> rfl)|(simp [*,errW_none,errW_some] <;> rfl),qS HB⟩
  ·replace c7:=Bool.eq_false_iff.mpr c7
   subst c7
   rw [qFT] at H
   obtain rfl:=Option.some.inj H
   go_enter Try.func34,Try.ntmps34
   try go_wp2_with (first|((with_reducible refine gate_callee (f:=54) rfl ?_);refine gL (some 5) Try.func54 #[.int .u64 7] ?_;(with_reducible refine (nat_New.calls k 7 t420 _ A1.out).mono ?_);rintro e w30 ⟨v421,rfl,ho0,hb⟩;refine ⟨_,rfl,?_⟩;have HO422:=Aside0.mk (Kd.V_lower (Kd.V_mono (ok':=fun k_ => True) ho0 (fun k_ hk_ => trivial)) (below_size (qS HB)));replace HB:=qs HB hb;clear hb ho0)|((with_reducible refine gate_callee (f:=54) rfl ?_);refine gL (some 6) Try.func54 #[.int .u64 2] ?_;(with_reducible refine (nat_New.calls k 2 t423 _ A2.out).mono ?_);rintro e w31 ⟨v424,rfl,ho0,hb⟩;refine ⟨_,rfl,?_⟩;replace HO422:=qVb HO422 hb;have HO425:=Aside0.mk (Kd.V_lower (Kd.V_mono (ok':=fun k_ => True) ho0 (fun k_ hk_ => trivial)) (below_size (qS HB)));replace HB:=qs HB hb;clear hb ho0;obtain ⟨Ao32,co32,eo32⟩:=Kd.V_slice HO422.out;subst eo32;obtain ⟨Ao33,co33,eo33⟩:=Kd.V_slice HO425.out;subst eo33)|((with_reducible refine gate_callee (f:=53) rfl ?_);refine gL (some 7) Try.func53 #[.agg #[.slice Ao32 t420.length co32],.agg #[.slice Ao33 t423.length co33]] ?_;(with_reducible refine (nat_Nat_Div.calls k (fun k_ => True) _ _ t420 _ _ t423 t426 t429 t432 _ ?side1 ?side2 ?side3 A3.out).mono ?_);(case side1 => first|exact HO422.out|exact qVm HO422);(case side2 => exact qCV HO425);(case side3 => exact qL HO425);rintro e w34 ⟨v427,v430,rfl,ho0,ho1,hb⟩;refine ⟨_,rfl,?_⟩;replace HO422:=qVb HO422 hb;replace HO425:=qVb HO425 hb;have HO428:=Aside0.mk (Kd.V_lower (Kd.V_mono (ok':=fun k_ => True) ho0 (fun k_ hk_ => trivial)) (below_size (qS HB)));have HO431:=Aside0.mk (Kd.V_lower (Kd.V_mono (ok':=fun k_ => True) ho1 (fun k_ hk_ => trivial)) (below_size (qS HB)));replace HB:=qs HB hb;clear hb ho0 ho1)|((with_reducible refine gate_dst (N:=1) rfl ?_);refine qX #[.slice none 0 0] 38 ?_;intro gb433 hg w35 hbox hb;replace HO422:=qVe HO422 hb hg;replace HO425:=qVe HO425 hb hg;replace HO428:=qVe HO428 hb hg;replace HO431:=qVe HO431 hb hg;have BK433:=Aside0.mk hbox;have GE433:=qh hg HB;replace HB:=qs HB hb;clear hb hbox hg)|((with_reducible refine gate_dst (N:=2) rfl ?_);refine qX #[.slice none 0 0] 38 ?_;intro gb434 hg w36 hbox hb;replace HO422:=qVe HO422 hb hg;replace HO425:=qVe HO425 hb hg;replace HO428:=qVe HO428 hb hg;replace HO431:=qVe HO431 hb hg;have BK434:=Aside0.mk hbox;have GE434:=qh hg HB;replace HB:=qs HB hb;have NB433_434:=ql hg BK433;have NB434_433:=qg hg BK433;replace BK433:=qb BK433 hb;clear hb hbox hg;obtain ⟨Ao37,co37,eo37⟩:=Kd.V_slice HO428.out;subst eo37;have hnb38:=NB433_434.out;have hnc38:=NB434_433.out;have hcz39_0:=bc BK433;have hfz39_0:=bz BK433;obtain ⟨Ao40,co40,eo40⟩:=Kd.V_slice HO431.out;subst eo40;have hcz41_0:=bc BK434;have hfz41_0:=bz BK434))
   generalize hw : ((w36.setCell ⟨gb433,0,none⟩ (.slice Ao37 t426.length co37)).setCell ⟨gb434,0,none⟩ (.slice Ao40 t429.length co40)) = w42
   replace hw:=hw.symm
   replace HO422:=qVh hw HO422
   replace HO425:=qVh hw HO425
   replace HO428:=qVh hw HO428
   replace HO431:=qVh hw HO431
   replace BK433:=qBp hw BK433
   replace BK434:=qBp hw BK434
   replace HB:=qSh hw HB
   clear hw
   replace HO422:=qVw HO422
   replace HO425:=qVw HO425
   replace HO428:=qVw HO428
   replace HO431:=qVw HO431
   replace BK433:=qbd BK433
   replace BK434:=qbd BK434
   replace HB:=qsd HB
   refine start_ (n:=13) (S:=fun w' => w'.cell? ⟨gb433,0,none⟩ = some (.slice Ao37 t426.length co37)) (ds:=[]) #[false,false,false,false,false,false,false,false,false,false,false,false,false] (by kernel_rfl) rfl rfl (bc BK433) (fun hHeld => ?_);refine with_tabW sacristylaw01_lives.tab2 sacristylaw01_lives.bits2 (fun HT_ HW_ => ?_)
   generalize w42.drew = w43 at HO422 HO425 HO428 HO431 BK433 BK434 HB hHeld ⊢
   refine qP 0 11 HT_ ?_
   refine qP 1 12 HT_ ?_
   refine qP 2 13 HT_ ?_
   refine qT 3 14 HT_ HW_ hHeld ?_
   refine q1 4 (some 15) HT_ rfl (fun K hK => ?_)
   refine g_ Try.func56 #[.int .u64 3] ?_
   with_reducible refine (sacristyref01_Small.calls k 3 t435 _ A5.out).mono ?_
   rintro e w44 ⟨v436,rfl,ho0,hb⟩
   refine ⟨_,rfl,?_⟩
   replace HO422:=qVd HO422 ho0 hb
   replace HO425:=qVd HO425 ho0 hb
   replace HO428:=qVd HO428 ho0 hb
   replace HO431:=qVd HO431 ho0 hb
   have HO437:=Aside0.mk (Kd.R_lower ho0 (below_size (qS HB)))
   replace BK433:=qb BK433 hb
   replace BK434:=qb BK434 hb
   replace HB:=qs HB hb
   clear hb ho0
   obtain ⟨Ao45,co45,eo45⟩:=Kd.R_slice HO437.out
   (first|subst eo45|(injection eo45 with f1_ f2_ f3_;have f4_:=f1_.symm;have f5_:=f3_.symm;clear f1_ f2_ f3_;subst f4_;subst f5_))
   refine hK.out _ _ (bc BK433) (fun hHeld => ?_)
   clear hK K
   refine qO 15 ?_
   refine q1 5 (some 16) HT_ rfl (fun K hK => ?_)
   refine g_ Try.func37 #[.agg #[.slice Ao37 t426.length co37],.slice Ao45 t435.length co45] ?_
   with_reducible refine (sacristylaw01_Same.calls k _ _ t426 _ _ t435 false _ ?side1 ?side2 ?side3 ?side4 A6.out).mono ?_
   (case side1 => exact qCV HO428)
   (case side2 => exact qL HO428)
   (case side3 => exact qCR HO437)
   (case side4 => exact qLR HO437)
   rintro e w46 ⟨rfl,hb⟩
   refine ⟨_,rfl,?_⟩
   replace HO422:=qVb HO422 hb
   replace HO425:=qVb HO425 hb
   replace HO428:=qVb HO428 hb
   replace HO431:=qVb HO431 hb
   replace HO437:=qRb HO437 hb
   replace BK433:=qb BK433 hb
   replace BK434:=qb BK434 hb
   replace HB:=qs HB hb
   clear hb
   refine hK.out _ _ (bc BK433) (fun hHeld => ?_)
   clear hK K
   refine qO 16 ?_
   refine qP 6 17 HT_ ?_
   refine qP 7 18 HT_ ?_
   refine qU 8 19 HT_ ?_
   refine qU 9 20 HT_ ?_
   refine qU 10 21 HT_ ?_
   refine qP 11 22 HT_ ?_
   refine qP 12 0 HT_ ?_
   refine qD HT_ ?_
   try go_wp2
   (first|go_ret|(refine ⟨_,results_tmp rfl _ _ _,?_⟩))
   exact ⟨by first|rfl|(simp [errW_none,errW_some] <;> rfl)|(simp [*,errW_none,errW_some] <;> rfl),qS HB⟩
 ·rw [if_neg c4] at H
  have c4b0 : (t432 == 0) = false:=beq_eq_false_iff_ne.mpr c4
  have c4b1 : (t432 != 0) = true:=bne_iff_ne.mpr c4
  obtain rfl:=Option.some.inj H
  go_enter Try.func34,Try.ntmps34
  try go_wp2_with (first|((with_reducible refine gate_callee (f:=54) rfl ?_);refine gL (some 5) Try.func54 #[.int .u64 7] ?_;(with_reducible refine (nat_New.calls k 7 t420 _ A1.out).mono ?_);rintro e w47 ⟨v421,rfl,ho0,hb⟩;refine ⟨_,rfl,?_⟩;have HO422:=Aside0.mk (Kd.V_lower (Kd.V_mono (ok':=fun k_ => True) ho0 (fun k_ hk_ => trivial)) (below_size (qS HB)));replace HB:=qs HB hb;clear hb ho0)|((with_reducible refine gate_callee (f:=54) rfl ?_);refine gL (some 6) Try.func54 #[.int .u64 2] ?_;(with_reducible refine (nat_New.calls k 2 t423 _ A2.out).mono ?_);rintro e w48 ⟨v424,rfl,ho0,hb⟩;refine ⟨_,rfl,?_⟩;replace HO422:=qVb HO422 hb;have HO425:=Aside0.mk (Kd.V_lower (Kd.V_mono (ok':=fun k_ => True) ho0 (fun k_ hk_ => trivial)) (below_size (qS HB)));replace HB:=qs HB hb;clear hb ho0;obtain ⟨Ao49,co49,eo49⟩:=Kd.V_slice HO422.out;subst eo49;obtain ⟨Ao50,co50,eo50⟩:=Kd.V_slice HO425.out;subst eo50)|((with_reducible refine gate_callee (f:=53) rfl ?_);refine gL (some 7) Try.func53 #[.agg #[.slice Ao49 t420.length co49],.agg #[.slice Ao50 t423.length co50]] ?_;(with_reducible refine (nat_Nat_Div.calls k (fun k_ => True) _ _ t420 _ _ t423 t426 t429 t432 _ ?side1 ?side2 ?side3 A3.out).mono ?_);(case side1 => first|exact HO422.out|exact qVm HO422);(case side2 => exact qCV HO425);(case side3 => exact qL HO425);rintro e w51 ⟨v427,v430,rfl,ho0,ho1,hb⟩;refine ⟨_,rfl,?_⟩;replace HO422:=qVb HO422 hb;replace HO425:=qVb HO425 hb;have HO428:=Aside0.mk (Kd.V_lower (Kd.V_mono (ok':=fun k_ => True) ho0 (fun k_ hk_ => trivial)) (below_size (qS HB)));have HO431:=Aside0.mk (Kd.V_lower (Kd.V_mono (ok':=fun k_ => True) ho1 (fun k_ hk_ => trivial)) (below_size (qS HB)));replace HB:=qs HB hb;clear hb ho0 ho1)|((with_reducible refine gate_dst (N:=1) rfl ?_);refine qX #[.slice none 0 0] 38 ?_;intro gb433 hg w52 hbox hb;replace HO422:=qVe HO422 hb hg;replace HO425:=qVe HO425 hb hg;replace HO428:=qVe HO428 hb hg;replace HO431:=qVe HO431 hb hg;have BK433:=Aside0.mk hbox;have GE433:=qh hg HB;replace HB:=qs HB hb;clear hb hbox hg)|((with_reducible refine gate_dst (N:=2) rfl ?_);refine qX #[.slice none 0 0] 38 ?_;intro gb434 hg w53 hbox hb;replace HO422:=qVe HO422 hb hg;replace HO425:=qVe HO425 hb hg;replace HO428:=qVe HO428 hb hg;replace HO431:=qVe HO431 hb hg;have BK434:=Aside0.mk hbox;have GE434:=qh hg HB;replace HB:=qs HB hb;have NB433_434:=ql hg BK433;have NB434_433:=qg hg BK433;replace BK433:=qb BK433 hb;clear hb hbox hg;obtain ⟨Ao54,co54,eo54⟩:=Kd.V_slice HO428.out;subst eo54;have hnb55:=NB433_434.out;have hnc55:=NB434_433.out;have hcz56_0:=bc BK433;have hfz56_0:=bz BK433;obtain ⟨Ao57,co57,eo57⟩:=Kd.V_slice HO431.out;subst eo57;have hcz58_0:=bc BK434;have hfz58_0:=bz BK434))
  generalize hw : ((w53.setCell ⟨gb433,0,none⟩ (.slice Ao54 t426.length co54)).setCell ⟨gb434,0,none⟩ (.slice Ao57 t429.length co57)) = w59
  replace hw:=hw.symm
  replace HO422:=qVh hw HO422
  replace HO425:=qVh hw HO425
  replace HO428:=qVh hw HO428
  replace HO431:=qVh hw HO431
  replace BK433:=qBp hw BK433
  replace BK434:=qBp hw BK434
  replace HB:=qSh hw HB
  clear hw
  replace HO422:=qVw HO422
  replace HO425:=qVw HO425
  replace HO428:=qVw HO428
  replace HO431:=qVw HO431
  replace BK433:=qbd BK433
  replace BK434:=qbd BK434
  replace HB:=qsd HB
  refine start_ (n:=13) (S:=fun w' => True) (ds:=[]) #[false,false,false,false,false,false,false,false,false,false,false,false,false] (by kernel_rfl) rfl rfl trivial (fun hHeld => ?_);refine with_tabW sacristylaw01_lives.tab2 sacristylaw01_lives.bits2 (fun HT_ HW_ => ?_)
  generalize w59.drew = w60 at HO422 HO425 HO428 HO431 BK433 BK434 HB hHeld ⊢
  refine qP 0 11 HT_ ?_
  refine qP 1 12 HT_ ?_
  refine qP 2 13 HT_ ?_
  refine qU 3 14 HT_ ?_
  refine qU 4 15 HT_ ?_
  refine qU 5 16 HT_ ?_
  refine qP 6 17 HT_ ?_
  refine qP 7 18 HT_ ?_
  refine qU 8 19 HT_ ?_
  refine qU 9 20 HT_ ?_
  refine qU 10 21 HT_ ?_
  refine qP 11 22 HT_ ?_
  refine qP 12 0 HT_ ?_
  refine qD HT_ ?_
  try go_wp2
  (first|go_ret|(refine ⟨_,results_tmp rfl _ _ _,?_⟩))
  exact ⟨by first|rfl|(simp [errW_none,errW_some] <;> rfl)|(simp [*,errW_none,errW_some] <;> rfl),qS HB⟩
end Go.Proofs.Yteejcpbngnojkaa.P
end
section
namespace Go.Proofs.Yteejcpbngnojkaa.P
open Go.RowKit Go.Proofs.YteejcpbngnojkaaW.PrintWords Go.Proofs.YteejcpbngnojkaaW.PrintLast Go.Proofs.YteejcpbngnojkaaW.PrintMore
attribute [local go_sem] max2_int min2_int max_two min_two max_three min_three max_four min_four
set_option linter.unusedVariables false
set_option linter.unusedSimpArgs false
def nat_FromBytes.l0 : Nat → List Int → List Int → Int → Int → Option (List Int × Int)
 |0,_,_,_,_ => none
 |k + 1,x0,x4,x17,x18 => if x18 < x17 then (if 0 ≤ (wrap64 ((wrap64 ((x0.length : Int) - 1)) - x18)) then (if (wrap64 ((wrap64 ((x0.length : Int) - 1)) - x18)) < (x0.length : Int) then (if 0 ≤ (wrap64 (Int.tdiv x18 4)) then (if (wrap64 (Int.tdiv x18 4)) < (x4.length : Int) then (if 0 ≤ (wrap64 (8 * (Int.tmod x18 4))) then (nat_FromBytes.l0 k x0 (x4.set ((wrap64 (Int.tdiv x18 4)) : Int).toNat (Go.bits .or .u32 (rd x4 (wrap64 (Int.tdiv x18 4))) (shl .u32 ((rd x0 (wrap64 ((wrap64 ((x0.length : Int) - 1)) - x18))) % 4294967296) (wrap64 (8 * (Int.tmod x18 4)))))) x17 (wrap64 (x18 + 1))) else (none)) else (none)) else (none)) else (none)) else (none)) else ((nat_trim.f k x4).bind fun t450 => (some (t450,0)))
def nat_FromBytes.f (k : Nat) (l0 : List Int) : Option (List Int × Int):=if (l0.length : Int) > 128 then (some (([] : List Int),4)) else (if 0 ≤ (wrap64 (Int.tdiv (wrap64 ((l0.length : Int) + 3)) 4)) then (if (wrap64 (Int.tdiv (wrap64 ((l0.length : Int) + 3)) 4) : Int).toNat ≤ 70368744177664 then (nat_FromBytes.l0 k l0 (List.replicate (wrap64 (Int.tdiv (wrap64 ((l0.length : Int) + 3)) 4) : Int).toNat 0) (l0.length : Int) 0) else (none)) else (none))
theorem nat_FromBytes.mono_l : ∀ k,(∀ y0 y1 y2 y3,LeO (nat_FromBytes.l0 k y0 y1 y2 y3) (nat_FromBytes.l0 (k + 1) y0 y1 y2 y3))
 |0 => fun _ _ _ _ r h => by simp [nat_FromBytes.l0] at h
 |k + 1 => by
  have ih0:=nat_FromBytes.mono_l k
  ·intro y0 y1 y2 y3
   unfold nat_FromBytes.l0
   repeat' first
   |(with_reducible exact ih0 _ _ _ _)
   |(with_reducible exact nat_trim.mono _ _)
   |(with_reducible exact LeO.refl _)
   |(with_reducible exact LeO.none _)
   |(with_reducible refine LeO.ite ?_ ?_)
   |(with_reducible refine LeO.bind ?_ (fun _ => ?_))
   |exact ih0 _ _ _ _
   |exact nat_trim.mono _ _
   |exact LeO.none _
   |refine LeO.ite ?_ ?_
   |refine LeO.bind ?_ (fun _ => ?_)
theorem nat_FromBytes.mono : ∀ a0 k,LeO (nat_FromBytes.f k a0) (nat_FromBytes.f (k + 1) a0):=by
 intro a0 k
 have ih0:=nat_FromBytes.mono_l k
 unfold nat_FromBytes.f
 repeat' first
   |(with_reducible exact ih0 _ _ _ _)
   |(with_reducible exact nat_trim.mono _ _)
   |(with_reducible exact LeO.refl _)
   |(with_reducible exact LeO.none _)
   |(with_reducible refine LeO.ite ?_ ?_)
   |(with_reducible refine LeO.bind ?_ (fun _ => ?_))
   |exact ih0 _ _ _ _
   |exact nat_trim.mono _ _
   |exact LeO.none _
   |refine LeO.ite ?_ ?_
   |refine LeO.bind ?_ (fun _ => ?_)
def nat_FromBytes.T8 : Bool × List (List Nat × List Nat):=(true,[([],[]),([],[]),([1],[1]),([0,2],[0,2]),([3],[3]),([],[]),([5],[5]),([],[]),([7],[7]),([8],[8]),([6,9],[6,9]),([4,10],[4,10]),([0,2,0,1,2,3,4,5,6,7,8,9,10,11],[0,2]),([12,11,0,1,2,3,4,5,6,7,8,9,10,11],[11,12])])
def nat_FromBytes.B8 : List Nat:=[0,0,2,7,15,0,32,0,128,384,992,2047,4095,8191]
theorem nat_FromBytes.tab8 : rtab .any (opsOf Try.f35 8) = nat_FromBytes.T8:=by kernel_rfl
theorem nat_FromBytes.bits8 : waitsOk nat_FromBytes.T8.2 nat_FromBytes.B8 = true:=by kernel_rfl
set_option maxHeartbeats 8000000 in
set_option maxRecDepth 100000 in
theorem nat_FromBytes.calls (k : Nat) (A0 : Option Addr) (c0 : Nat) (l0 : List Int) (r1 : List Int) (r2 : Int) (w : World) (hr0 : Kd.C (Kd.int .u8) w A0 l0.length l0) (hc0 : l0.length ≤ c0) (h : nat_FromBytes.f k l0 = some (r1,r2)) :
  Calls Try.prog 35 #[.slice A0 l0.length c0] w fun e w' => ∃ v0_ : Value,e = .returned (.tuple #[.agg #[v0_],.int .i64 r2]) ∧ Kd.V (Kd.int .u32) 23 w' w.heap.size (fun k_ => (w.heap.size ≤ k_)) v0_ r1 ∧ Below w.heap.size w w':=by
 have hu38:=Try.underlying38
 have HR0:=Aside0.mk hr0
 have HC0:=Aside0.mk hc0
 clear hr0 hc0
 have HB:=Aside0.mk (Below.refl w.heap.size w)
 have H : (if (l0.length : Int) > 128 then (some (([] : List Int),4)) else (if 0 ≤ (wrap64 (Int.tdiv (wrap64 ((l0.length : Int) + 3)) 4)) then (if (wrap64 (Int.tdiv (wrap64 ((l0.length : Int) + 3)) 4) : Int).toNat ≤ 70368744177664 then (nat_FromBytes.l0 k l0 (List.replicate (wrap64 (Int.tdiv (wrap64 ((l0.length : Int) + 3)) 4) : Int).toNat 0) (l0.length : Int) 0) else (none)) else (none))) = some (r1,r2):=h
 clear h
 by_cases c2 : (l0.length : Int) > 128
 ·rw [if_pos c2] at H
  have c2b0 : decide (128 < (l0.length : Int)) = true:=decide_eq_true c2
  have c2b1 : decide (128 < l0.length) = true:=decide_eq_true (by omega)
  clear c2
  simp only [Option.some.injEq,Prod.mk.injEq] at H
  obtain ⟨rfl,rfl⟩:=H
  go_enter Try.func35,Try.ntmps35
  go_wp2_with (first|((with_reducible refine gate_dst (N:=2) rfl ?_);refine qX #[.slice none 0 0] 38 ?_;intro gb443 hg w3 hbox hb;have BK443:=Aside0.mk hbox;have GE443:=qh hg HB;replace HB:=qs HB hb;clear hb hbox hg;have hcz4_0:=bc BK443;have hfz4_0:=bz BK443))
  refine bodyPost_ret (results_ct rfl _ _ gb443 38 #[.slice none 0 0] (0,0) _ rfl (by (with_reducible repeat (first|refine blk_drewN ?_ _|refine blk_drew ?_|refine blk_alloc ?_ _));refine blk_put (cs:=#[.slice none 0 0]) ?_ 0 _ rfl;(with_reducible repeat (first|refine blk_drewN ?_ _|refine blk_drew ?_|refine blk_alloc ?_ _));exact BK443.out) Try.underlying38 rfl (by kernel_rfl)) rfl ?_
  exact ⟨_,by first|rfl|(simp [errW_none,errW_some] <;> rfl)|(simp [*,errW_none,errW_some] <;> rfl),Kd.V_nil _ _ _ _ _,qS HB⟩
 ·rw [if_neg c2] at H
  have c2b0 : decide (128 < (l0.length : Int)) = false:=decide_eq_false c2
  have c2b1 : decide (128 < l0.length) = false:=decide_eq_false (by omega)
  clear c2
  obtain ⟨ji5,hji5⟩ : ∃ j_ : Int,(wrap64 (Int.tdiv (wrap64 ((l0.length : Int) + 3)) 4)) = j_:=⟨_,rfl⟩
  (first|rw [hji5] at H|simp only [hji5] at H)
  have hji5w : (IntKind.i64.wrap (Int.tdiv (wrap64 ((l0.length : Int) + 3)) 4)) = ji5:=(i64_w _).trans hji5
  by_cases c6 : 0 ≤ (ji5)
  ·rw [if_pos c6] at H
   have c6b0:=eq_true c6
   have c6b1 : decide (0 ≤ (ji5)) = true:=decide_eq_true c6
   clear c6
   by_cases c7 : (ji5 : Int).toNat ≤ 70368744177664
   ·rw [if_pos c7] at H
    have c7b0:=eq_true c7
    have c7b1 : decide ((ji5 : Int).toNat ≤ 70368744177664) = true:=decide_eq_true c7
    clear c7
    obtain ⟨y444,hy444⟩ : ∃ y_ : List Int,y_ = (List.replicate (ji5 : Int).toNat 0):=⟨_,rfl⟩
    replace H : (nat_FromBytes.l0 k l0 y444 (l0.length : Int) 0) = some (r1,r2):=by first|(rw [hy444];with_reducible exact H)|(have H2_:=(Option.bind_some _ _).symm.trans H;rw [hy444];with_reducible exact H2_)|(have H2_:=(Option.bind_some _ _).symm.trans H;with_reducible exact H2_)|with_reducible exact H|(rw [hy444];exact H)|exact H
    have Ny444:=Aside0.mk hy444
    clear hy444
    have H':=Aside0.mk H
    clear H
    go_enter Try.func35,Try.ntmps35
    go_wp2_with (first|((with_reducible refine gate_dst (N:=2) rfl ?_);refine qX #[.slice none 0 0] 38 ?_;intro gb443 hg w8 hbox hb;have BK443:=Aside0.mk hbox;have GE443:=qh hg HB;replace HB:=qs HB hb;clear hb hbox hg)|((with_reducible refine gate_dst (N:=15) rfl ?_);refine Kd.R_make (Kd.int .u32) _ 23 rfl (N:=15) rfl 36 _ _ rfl ji5 rfl rfl Try.underlying36 (.int .u32 0) 4 info23 rfl (by decide) (by omega) 0 (ok:=fun _ => True) (okp:=fun _ => True) rfl (fun _ hk => hk) trivial (od) (Nat.le_trans (Nat.mul_le_mul_right _ (od : ji5.toNat ≤ 70368744177664)) (by omega)) (Below.refl _ _) (Nat.le_refl _) ?_;intro v445 w9 ho10 hb hg_ hnew_;clear hg_ hnew_;(first|rw [← Ny444.out] at ho10|(simp only [Int.reduceToNat] at ho10;rw [← Ny444.out] at ho10));have HO446:=Aside0.mk (Kd.R_lower (Kd.R_newM (M:=fun k_ => (w.heap.size ≤ k_)) ho10 (below_size (qS HB)) (fun k_ h_ => h_)) (below_size (qS HB)));replace BK443:=qb BK443 hb;replace HB:=qs HB hb;clear hb ho10))
    go_loopg [18] k (fun kq v18 w' => ∃ (x4_1 : List Int) (x18_1 : Int),v18 = .int .i64 x18_1 ∧ Aside0 (nat_FromBytes.l0 kq l0 x4_1 (l0.length : Int) x18_1 = some (r1,r2)) ∧ Aside0 (kq ≤ k) ∧ Aside0 (Kd.R (Kd.int .u32) 23 w' w.heap.size (fun k_ => (w.heap.size ≤ k_)) v445 x4_1) ∧ Aside0 (w'.heap[gb443]? = some (.cells #[(.slice none 0 0)] 38 (0,0))) ∧ Aside0 (Below w.heap.size w w'))
    case atStart => exact ⟨(y444),(0),(by first|rfl|(simp;done)|(simp [*];done)),H',⟨Nat.le_refl _⟩,⟨qRm HO446⟩,⟨qB BK443.out⟩,⟨qS HB⟩⟩
    case round =>
     clear H'
     try clear c2
     try clear c2b0
     try clear c2b1
     try clear p2
     try clear c3
     try clear c6
     try clear c6b0
     try clear c6b1
     try clear p6
     try clear c7
     try clear c7b0
     try clear c7b1
     try clear hcz4_0
     try clear hfz4_0
     obtain ⟨x4_1,x18_1,rfl,HA,HK1,HO_4,BK443,HB⟩:=hrel
     cases gk with
     |zero => exact absurd HA.out (by simp [nat_FromBytes.l0])
     |succ k1 =>
      have H:=HA.out
      clear HA
      simp only [nat_FromBytes.l0] at H
      by_cases c11 : x18_1 < (l0.length : Int)
      ·rw [if_pos c11] at H
       have c11b0 : decide (x18_1 < (l0.length : Int)) = true:=decide_eq_true c11
       clear c11
       obtain ⟨ji12,hji12⟩ : ∃ j_ : Int,(wrap64 ((wrap64 ((l0.length : Int) - 1)) - x18_1)) = j_:=⟨_,rfl⟩
       (first|rw [hji12] at H|simp only [hji12] at H)
       have hji12w : (IntKind.i64.wrap ((wrap64 ((l0.length : Int) - 1)) - x18_1)) = ji12:=(i64_w _).trans hji12
       by_cases c13 : 0 ≤ (ji12)
       ·rw [if_pos c13] at H
        have c13b0 : decide (0 ≤ (ji12)) = true:=decide_eq_true c13
        clear c13
        by_cases c14 : (ji12) < (l0.length : Int)
        ·rw [if_pos c14] at H
         have c14b0 : decide ((ji12) < (l0.length : Int)) = true:=decide_eq_true c14
         clear c14
         obtain ⟨ji15,hji15⟩ : ∃ j_ : Int,(wrap64 (Int.tdiv x18_1 4)) = j_:=⟨_,rfl⟩
         (first|rw [hji15] at H|simp only [hji15] at H)
         have hji15w : (IntKind.i64.wrap (Int.tdiv x18_1 4)) = ji15:=(i64_w _).trans hji15
         by_cases c16 : 0 ≤ (ji15)
         ·rw [if_pos c16] at H
          have c16b0 : decide (0 ≤ (ji15)) = true:=decide_eq_true c16
          clear c16
          by_cases c17 : (ji15) < (x4_1.length : Int)
          ·rw [if_pos c17] at H
           have c17b0 : decide ((ji15) < (x4_1.length : Int)) = true:=decide_eq_true c17
           clear c17
           obtain ⟨ji18,hji18⟩ : ∃ j_ : Int,(wrap64 (8 * (Int.tmod x18_1 4))) = j_:=⟨_,rfl⟩
           (first|rw [hji18] at H|simp only [hji18] at H)
           have hji18w : (IntKind.i64.wrap (8 * (Int.tmod x18_1 4))) = ji18:=(i64_w _).trans hji18
           by_cases c19 : 0 ≤ (ji18)
           ·rw [if_pos c19] at H
            have c19b0:=eq_true c19
            have c19b1 : decide (0 ≤ (ji18)) = true:=decide_eq_true c19
            clear c19
            obtain ⟨ji20,hji20⟩ : ∃ j_ : Int,(shl .u32 ((rd l0 (ji12)) % 4294967296) (ji18)) = j_:=⟨_,rfl⟩
            (first|rw [hji20] at H|simp only [hji20] at H)
            have hji20_ : (IntKind.u32.wrap (((rd l0 (ji12)) % 4294967296) * 2 ^ min (ji18).toNat 32)) = ji20:=hji20
            have hji20m : ((rd l0 (ji12)) % 4294967296) * 2 ^ min (ji18).toNat 32 % 4294967296 = ji20:=hji20_
            have hji20z : (ji18) ≤ 32 → (IntKind.u32.wrap (((rd l0 (ji12)) % 4294967296) * 2 ^ (ji18).toNat)) = ji20:=shl_small hji20
            obtain ⟨y449,hy449⟩ : ∃ y_ : List Int,y_ = (x4_1.set ((ji15) : Int).toNat (Go.bits .or .u32 (rd x4_1 (ji15)) (ji20))):=⟨_,rfl⟩
            replace H : (nat_FromBytes.l0 k1 l0 y449 (l0.length : Int) (wrap64 (x18_1 + 1))) = some (r1,r2):=by first|(rw [hy449];with_reducible exact H)|(have H2_:=(Option.bind_some _ _).symm.trans H;rw [hy449];with_reducible exact H2_)|(have H2_:=(Option.bind_some _ _).symm.trans H;with_reducible exact H2_)|with_reducible exact H|(rw [hy449];exact H)|exact H
            have Ny449:=Aside0.mk hy449
            clear hy449
            have H':=Aside0.mk H
            clear H
            have p447 : 0 ≤ ((ji12) : Int):=od
            have q447 : (ji12) < (l0.length : Int):=od
            obtain ⟨ad447,e447,hx447_0⟩:=Kd.at_int HR0.out (ji12) p447 q447
            cases e447
            replace hx447_0:=(HB.out.cell (World.block_lt_of_cell? w _ hx447_0)).trans hx447_0
            replace p447:=eq_true p447
            replace q447:=eq_true q447
            try go_wp2
            replace HO_4:=qRw HO_4
            replace BK443:=qbd BK443
            replace HB:=qsd HB
            obtain ⟨Ao23,co23,eo23⟩:=Kd.R_slice HO_4.out
            (first|subst eo23|(injection eo23 with f1_ f2_ f3_;have f4_:=f1_.symm;have f5_:=f3_.symm;clear f1_ f2_ f3_;subst f4_;subst f5_))
            have p448 : 0 ≤ ((ji15) : Int):=od
            have q448 : (ji15) < (x4_1.length : Int):=od
            obtain ⟨ad448,e448,hx448_0⟩:=Kd.at_int (Kd.R_reads' HO_4.out).2.2 (ji15) p448 q448
            cases e448
            replace p448:=eq_true p448
            replace q448:=eq_true q448
            have p21 : 0 ≤ ((ji15) : Int):=od
            have q21 : ((ji15) : Int) < ((x4_1.length : Int) : Int):=od
            obtain ⟨go21,co21,eo21,gb21,gl21,cl21,HG21⟩:=Kd.R_form HO_4.out (by omega)
            (first|cases eo21|(injection eo21 with ea_ en_ ec_;(first|subst ea_|(injection ea_ with ea_;subst ea_));subst ec_;clear en_))
            have GB21:=Aside0.mk gb21
            have GG21:=Aside0.mk HG21
            clear gb21 gl21 HG21
            (first|simp only [add_plain] at hx448_0|skip)
            obtain ⟨hx21_0,hf21_0⟩:=Kd.R_celln 0 HO_4.out ((ji15) : Int) p21 q21
            replace p21:=eq_true p21
            replace q21:=eq_true q21
            have HP24:=Kd.R_putn HO_4.out ((ji15) : Int) (Go.bits .or .u32 (rd x4_1 (ji15)) (ji20))
            rw [← Ny449.out] at HP24
            have HQ24:=Aside0.mk HP24
            clear HP24
            refine start_ (n:=14) (S:=fun w' => w'.cell? ⟨go21,((ji15)).toNat,none⟩ = some (.int .u32 (rd x4_1 (ji15)))) (ds:=[13]) #[false,false,false,false,false,false,false,false,false,false,false,false,false,false] (by kernel_rfl) rfl rfl (hx448_0) (fun hHeld => ?_);refine with_tabW nat_FromBytes.tab8 nat_FromBytes.bits8 (fun HT_ HW_ => ?_)
            generalize wr.drew = w22 at HO_4 BK443 HB GG21 HQ24 hf21_0 hx21_0 hx448_0 hHeld ⊢
            refine qP 0 29 HT_ ?_
            refine qP 1 30 HT_ ?_
            refine qP 2 31 HT_ ?_
            refine qP 3 32 HT_ ?_
            refine qP 5 34 HT_ ?_
            refine qP 6 35 HT_ ?_
            refine qP 7 36 HT_ ?_
            refine qP 8 37 HT_ ?_
            refine qP 9 38 HT_ ?_
            refine qP 10 39 HT_ ?_
            refine qT 4 33 HT_ HW_ hHeld ?_
            refine qP 11 40 HT_ ?_
            refine qP 12 41 HT_ ?_
            refine last_ (i:=13) (N:=none) #[true,true,true,true,true,true,true,true,true,true,true,true,true,true] rfl rfl (one_of HT_.out (by kernel_rfl)) (by decide) (fun K hK => ?_)
            refine skip_ (w1:=?_) (by rfl) rfl ?_ ?_
            rotate_left
            ·go_simp
             rfl
            refine hK.out _ _ ?_
            clear hK K
            refine qD HT_ ?_
            try go_wp2
            go_roundg k1
            case measure => have:=HK1.out;omega
            case rel => exact ⟨(y449),(wrap64 (x18_1 + 1)),(by first|rfl|(simp;done)|(simp [*];done)),H',⟨by have:=HK1.out;omega⟩,⟨by (with_reducible repeat (first|apply Kd.R_alloc|apply Kd.R_drewN|apply Kd.R_drew));(first|exact HQ24.out|(rw [hji20m];exact HQ24.out))⟩,⟨by (with_reducible repeat (first|refine blk_drewN ?_ _|refine blk_drew ?_|refine blk_alloc ?_ _));refine blk_far ?_ (by have h_:=Kd.R_ne HO_4.out BK443.out (by decide);intro e_;exact h_ (by rw [e_];rfl)) _;(with_reducible repeat (first|refine blk_drewN ?_ _|refine blk_drew ?_|refine blk_alloc ?_ _));exact BK443.out⟩,⟨qS HB⟩⟩
           ·rw [if_neg c19] at H
            exact absurd H (by simp)
          ·rw [if_neg c17] at H
           exact absurd H (by simp)
         ·rw [if_neg c16] at H
          exact absurd H (by simp)
        ·rw [if_neg c14] at H
         exact absurd H (by simp)
       ·rw [if_neg c13] at H
        exact absurd H (by simp)
      ·rw [if_neg c11] at H
       have c11b0 : decide (x18_1 < (l0.length : Int)) = false:=decide_eq_false c11
       clear c11
       obtain ⟨t450,A25,H⟩:=qH H
       simp only [Option.some.injEq,Prod.mk.injEq] at H
       obtain ⟨rfl,rfl⟩:=H
       obtain ⟨Ao26,co26,eo26⟩:=Kd.R_slice HO_4.out
       subst eo26
       go_wp2_with (first|((with_reducible refine gate_callee (f:=100) rfl ?_);refine gL (some 44) Try.func100 #[.slice Ao26 x4_1.length co26] ?_;(with_reducible refine (nat_trim.calls k1 (fun k_ => some k_ = (.slice Ao26 x4_1.length co26 : Value).ownBlock) _ _ x4_1 t450 _ ?side1 A25.out).mono ?_);(case side1 => exact Kd.R_V (Kd.R_tight rfl (Kd.R_types (HO_4.out) BK443.out (by decide))));rintro e w27 ⟨v451,rfl,ho0,hb⟩;refine ⟨_,rfl,?_⟩;have HO452:=Aside0.mk (Kd.V_lower (Kd.V_mono (ok':=fun k_ => (w.heap.size ≤ k_) ∧ k_ ≠ gb443) ho0 (fun k_ hk_ => ⟨Or.elim hk_ (fun hs_ => ((Kd.R_types (HO_4.out) BK443.out (by decide)).1 k_ hs_.symm).1) (fun hn_ => (Nat.le_trans (below_size (qS HB)) hn_)),Or.elim hk_ (fun hs_ => ((Kd.R_types (HO_4.out) BK443.out (by decide)).1 k_ hs_.symm).2) (fun hn_ => (Kd.freshB (qB BK443.out) k_ hn_))⟩)) (below_size (qS HB)));replace HO_4:=qRb HO_4 hb;replace BK443:=qb BK443 hb;replace HB:=qs HB hb;clear hb ho0;obtain ⟨Ao28,co28,eo28⟩:=Kd.V_slice HO452.out;subst eo28;have hcz29_0:=bc BK443;have hfz29_0:=bz BK443))
       refine bodyPost_ret (results_ct rfl _ _ gb443 38 #[.slice Ao28 t450.length co28] (0,0) _ rfl (by (with_reducible repeat (first|refine blk_drewN ?_ _|refine blk_drew ?_|refine blk_alloc ?_ _));refine blk_put (cs:=#[.slice none 0 0]) ?_ 0 _ rfl;(with_reducible repeat (first|refine blk_drewN ?_ _|refine blk_drew ?_|refine blk_alloc ?_ _));exact BK443.out) Try.underlying38 rfl (by kernel_rfl)) rfl ?_
       exact ⟨_,by first|rfl|(simp [errW_none,errW_some] <;> rfl)|(simp only [← hji5];first|rfl|(simp [errW_none,errW_some] <;> rfl))|(simp [*,errW_none,errW_some] <;> rfl),qVm HO452,qS HB⟩
   ·rw [if_neg c7] at H
    exact absurd H (by simp)
  ·rw [if_neg c6] at H
   exact absurd H (by simp)
end Go.Proofs.Yteejcpbngnojkaa.P
end
section
namespace Go.Proofs.Yteejcpbngnojkaa.P
open Go.RowKit Go.Proofs.YteejcpbngnojkaaW.PrintWords Go.Proofs.YteejcpbngnojkaaW.PrintLast Go.Proofs.YteejcpbngnojkaaW.PrintMore
attribute [local go_sem] max2_int min2_int max_two min_two max_three min_three max_four min_four
set_option linter.unusedVariables false
set_option linter.unusedSimpArgs false
def sacristylaw01_Num.f (k : Nat) (l0 : List Int) : Option (List Int):=if 0 ≤ (mn (l0.length : Int) 48) then (if (mn (l0.length : Int) 48) ≤ (l0.length : Int) then ((nat_FromBytes.f k (l0.take ((mn (l0.length : Int) 48) : Int).toNat)).bind fun bt506 => (some bt506.1)) else (none)) else (none)
theorem sacristylaw01_Num.mono : ∀ a0 k,LeO (sacristylaw01_Num.f k a0) (sacristylaw01_Num.f (k + 1) a0):=by
 intro a0 k
 unfold sacristylaw01_Num.f
 repeat' first
   |(with_reducible exact nat_FromBytes.mono _ _)
   |(with_reducible exact LeO.refl _)
   |(with_reducible exact LeO.none _)
   |(with_reducible refine LeO.ite ?_ ?_)
   |(with_reducible refine LeO.bind ?_ (fun _ => ?_))
   |exact nat_FromBytes.mono _ _
   |exact LeO.none _
   |refine LeO.ite ?_ ?_
   |refine LeO.bind ?_ (fun _ => ?_)
set_option maxHeartbeats 8000000 in
set_option maxRecDepth 100000 in
theorem sacristylaw01_Num.calls (k : Nat) (A0 : Option Addr) (c0 : Nat) (l0 : List Int) (r : List Int) (w : World) (hr0 : Kd.C (Kd.int .u8) w A0 l0.length l0) (hc0 : l0.length ≤ c0) (h : sacristylaw01_Num.f k l0 = some r) :
  Calls Try.prog 40 #[.slice A0 l0.length c0] w fun e w' => ∃ v0_ : Value,e = .returned (.agg #[v0_]) ∧ Kd.V (Kd.int .u32) 23 w' w.heap.size (fun k_ => (w.heap.size ≤ k_)) v0_ r ∧ Below w.heap.size w w':=by
 have hu38:=Try.underlying38
 have HR0:=Aside0.mk hr0
 have HC0:=Aside0.mk hc0
 clear hr0 hc0
 have HB:=Aside0.mk (Below.refl w.heap.size w)
 have H : (if 0 ≤ (mn (l0.length : Int) 48) then (if (mn (l0.length : Int) 48) ≤ (l0.length : Int) then ((nat_FromBytes.f k (l0.take ((mn (l0.length : Int) 48) : Int).toNat)).bind fun bt506 => (some bt506.1)) else (none)) else (none)) = some r:=h
 clear h
 obtain ⟨ji2,hji2⟩ : ∃ j_ : Int,(mn (l0.length : Int) 48) = j_:=⟨_,rfl⟩
 (first|rw [hji2] at H|simp only [hji2] at H)
 (try (have hji2h : ji2 ≤ 48:=by (rw [← hji2];unfold mn;(repeat' split) <;> omega)))
 (try (have hji2g : ji2 ≤ 64:=by omega))
 (try (have hji2l : 0 ≤ ji2:=by (rw [← hji2];unfold mn;(repeat' split) <;> omega)))
 (try (have hji2m : 0 ≤ ji2:=by omega))
 have hji2_ : (if 48 < (l0.length : Int) then 48 else (l0.length : Int)) = ji2:=hji2
 by_cases c3 : 0 ≤ (ji2)
 ·rw [if_pos c3] at H
  have c3b0:=eq_true c3
  have c3b1 : decide (0 ≤ (ji2)) = true:=decide_eq_true c3
  clear c3
  by_cases c4 : (ji2) ≤ (l0.length : Int)
  ·rw [if_pos c4] at H
   have c4b0:=eq_true c4
   have c4b1 : decide ((ji2) ≤ (l0.length : Int)) = true:=decide_eq_true c4
   clear c4
   obtain ⟨⟨t506,t509⟩,A5,H⟩:=qH H
   dsimp only at H
   obtain rfl:=Option.some.inj H
   go_enter Try.func40,Try.ntmps40
   go_wp2_with (first|((with_reducible refine gate_dst (N:=2) rfl ?_);refine qX #[.slice none 0 0] 38 ?_;intro gb504 hg w6 hbox hb;have BK504:=Aside0.mk hbox;have GE504:=qh hg HB;replace HB:=qs HB hb;clear hb hbox hg;obtain ⟨i07,hi07,_,hsz7,_⟩:=info_parts info5;obtain ⟨hcut7,hA7,hC7⟩:=print_take_of (P:=Try.prog) (Value.int .u8) 0 22 5 .i64 Try.underlying22 hi07 hsz7 A0 c0 l0 (ji2) (od) (od) HC0.out;have HR505:=Aside0.mk (Kd.C_of_reads (h1:=fun _ => rfl) (hA7 _ (Kd.reads_of_C HR0.out)));have HC505:=Aside0.mk hC7;clear hA7 hC7 hi07 hsz7)|((with_reducible refine gate_callee (f:=35) rfl ?_);refine goesL_ (some 11) rfl rfl Try.func35 (by kernel_rfl) rfl #[.slice A0 (l0.take ((ji2) : Int).toNat).length c0] rfl (by (try simp only [List.map_toArray,List.map_cons,List.map_nil]);first|done|(rw [show (l0.take ((ji2) : Int).toNat).length = (ji2).toNat from (by rw [List.length_take];have h_ : ((ji2) : Int) ≤ (l0.length : Int):=od;omega)] <;> rfl)|(simp only [hji2];rfl)|rfl|(simp only [List.length_drop,List.length_take];rfl)) ?_;(with_reducible refine (nat_FromBytes.calls k _ _ (l0.take ((ji2) : Int).toNat) t506 t509 _ ?side1 ?side2 A5.out).mono ?_);(case side1 => exact qCB HR505 HB);(case side2 => exact HC505.out);rintro e w8 ⟨v507,rfl,ho0,hb⟩;refine ⟨_,rfl,?_⟩;have HO508:=Aside0.mk (Kd.V_lower (Kd.V_mono (ok':=fun k_ => (w.heap.size ≤ k_) ∧ k_ ≠ gb504) ho0 (fun k_ hk_ => ⟨(Nat.le_trans (below_size (qS HB)) hk_),(Kd.freshB (qB BK504.out) k_ hk_)⟩)) (below_size (qS HB)));replace BK504:=qb BK504 hb;replace HB:=qs HB hb;clear hb ho0)|((with_reducible refine gate_dst (N:=3) rfl ?_);refine qX #[.slice none 0 0] 38 ?_;intro gb510 hg w9 hbox hb;replace HO508:=qVe HO508 hb hg;have BK510:=Aside0.mk hbox;have GE510:=qh hg HB;replace HB:=qs HB hb;have NB504_510:=ql hg BK504;have NB510_504:=qg hg BK504;replace BK504:=qb BK504 hb;clear hb hbox hg;obtain ⟨Ao10,co10,eo10⟩:=Kd.V_slice HO508.out;subst eo10;have hnb11:=NB510_504.out;have hnc11:=NB504_510.out;have hcz12_0:=bc BK510;have hfz12_0:=bz BK510;have hcz13_0:=bc BK504;have hfz13_0:=bz BK504))
   refine bodyPost_ret (results_cell_row rfl _ _ gb504 38 #[.slice Ao10 t506.length co10] (0,0) _ rfl (by (with_reducible repeat (first|refine blk_drewN ?_ _|refine blk_drew ?_|refine blk_alloc ?_ _));refine blk_put (cs:=#[.slice none 0 0]) ?_ 0 _ rfl;(with_reducible repeat (first|refine blk_drewN ?_ _|refine blk_drew ?_|refine blk_alloc ?_ _));refine blk_far ?_ NB504_510.out _;(with_reducible repeat (first|refine blk_drewN ?_ _|refine blk_drew ?_|refine blk_alloc ?_ _));exact BK504.out) Try.underlying38 rfl (by kernel_rfl)) rfl ?_
   exact ⟨_,by first|rfl|(simp [errW_none,errW_some] <;> rfl)|(simp only [← hji2];first|rfl|(simp [errW_none,errW_some] <;> rfl))|(simp [*,errW_none,errW_some] <;> rfl),qVm HO508,qS HB⟩
  ·rw [if_neg c4] at H
   exact absurd H (by simp)
 ·rw [if_neg c3] at H
  exact absurd H (by simp)
end Go.Proofs.Yteejcpbngnojkaa.P
end
section
namespace Go.Proofs.Yteejcpbngnojkaa.P
open Go.RowKit Go.Proofs.YteejcpbngnojkaaW.PrintWords Go.Proofs.YteejcpbngnojkaaW.PrintLast Go.Proofs.YteejcpbngnojkaaW.PrintMore
attribute [local go_sem] max2_int min2_int max_two min_two max_three min_three max_four min_four
set_option linter.unusedVariables false
set_option linter.unusedSimpArgs false
def sacristyref01_Trim.l0 : Nat → List Bool → Option (List Bool)
 |0,_ => none
 |k + 1,x0 => if (x0.length : Int) > 0 then (if 0 ≤ (wrap64 ((x0.length : Int) - 1)) then (if (wrap64 ((x0.length : Int) - 1)) < (x0.length : Int) then (if (rdOf false x0 (wrap64 ((x0.length : Int) - 1)) = true) then (some x0) else (if (wrap64 ((x0.length : Int) - 1)) ≤ (x0.length : Int) then (sacristyref01_Trim.l0 k (x0.take ((wrap64 ((x0.length : Int) - 1)) : Int).toNat)) else (none))) else (none)) else (none)) else (some x0)
def sacristyref01_Trim.f (k : Nat) (l0 : List Bool) : Option (List Bool):=sacristyref01_Trim.l0 k l0
theorem sacristyref01_Trim.mono_l : ∀ k,(∀ y0,LeO (sacristyref01_Trim.l0 k y0) (sacristyref01_Trim.l0 (k + 1) y0))
 |0 => fun _ r h => by simp [sacristyref01_Trim.l0] at h
 |k + 1 => by
  have ih0:=sacristyref01_Trim.mono_l k
  ·intro y0
   unfold sacristyref01_Trim.l0
   repeat' first
   |(with_reducible exact ih0 _)
   |(with_reducible exact LeO.refl _)
   |(with_reducible exact LeO.none _)
   |(with_reducible refine LeO.ite ?_ ?_)
   |(with_reducible refine LeO.bind ?_ (fun _ => ?_))
   |exact ih0 _
   |exact LeO.none _
   |refine LeO.ite ?_ ?_
   |refine LeO.bind ?_ (fun _ => ?_)
theorem sacristyref01_Trim.mono : ∀ a0 k,LeO (sacristyref01_Trim.f k a0) (sacristyref01_Trim.f (k + 1) a0):=by
 intro a0 k
 have ih0:=sacristyref01_Trim.mono_l k
 unfold sacristyref01_Trim.f
 repeat' first
   |(with_reducible exact ih0 _)
   |(with_reducible exact LeO.refl _)
   |(with_reducible exact LeO.none _)
   |(with_reducible refine LeO.ite ?_ ?_)
   |(with_reducible refine LeO.bind ?_ (fun _ => ?_))
   |exact ih0 _
   |exact LeO.none _
   |refine LeO.ite ?_ ?_
   |refine LeO.bind ?_ (fun _ => ?_)
set_option maxHeartbeats 8000000 in
set_option maxRecDepth 100000 in
theorem sacristyref01_Trim.calls (k : Nat) (P0_ : Nat → Prop) (A0 : Option Addr) (c0 : Nat) (l0 : List Bool) (r : List Bool) (w : World) (hs0 : Kd.V Kd.bool 4 w w.heap.size (fun k_ => P0_ k_) (.slice A0 l0.length c0) l0) (h : sacristyref01_Trim.f k l0 = some r) :
  Calls Try.prog 111 #[.slice A0 l0.length c0] w fun e w' => ∃ v0_ : Value,e = .returned (v0_) ∧ Kd.V Kd.bool 4 w' w.heap.size (fun k_ => (P0_ k_ ∨ w.heap.size ≤ k_)) v0_ r ∧ Below w.heap.size w w':=by
 have HO0:=Aside0.mk (show Kd.V Kd.bool 4 w w.heap.size (fun k_ => (P0_ k_ ∨ w.heap.size ≤ k_)) (.slice A0 l0.length c0) l0 from Kd.V_mono hs0 (fun k_ hk => .inl hk))
 have HB:=Aside0.mk (Below.refl w.heap.size w)
 have H : (sacristyref01_Trim.l0 k l0) = some r:=h
 clear h
 have H':=Aside0.mk H
 clear H
 go_enter Try.func111,Try.ntmps111
 go_wp2
 go_loopg [0] k (fun kq v0 w' => ∃ (x0_1 : List Bool),Aside0 (sacristyref01_Trim.l0 kq x0_1 = some r) ∧ Aside0 (kq ≤ k) ∧ Aside0 (Kd.V Kd.bool 4 w' w.heap.size (fun k_ => (P0_ k_ ∨ w.heap.size ≤ k_)) v0 x0_1) ∧ Aside0 (Below w.heap.size w w'))
 case atStart => exact ⟨(l0),H',⟨Nat.le_refl _⟩,⟨qVm HO0⟩,⟨qS HB⟩⟩
 case round =>
  clear H'
  try clear c1
  obtain ⟨x0_1,HA,HK1,HO_0,HB⟩:=hrel
  cases gk with
  |zero => exact absurd HA.out (by simp [sacristyref01_Trim.l0])
  |succ k1 =>
   have H:=HA.out
   clear HA
   simp only [sacristyref01_Trim.l0] at H
   by_cases c2 : (x0_1.length : Int) > 0
   ·rw [if_pos c2] at H
    have c2b0 : decide (0 < (x0_1.length : Int)) = true:=decide_eq_true c2
    have c2b1 : decide (0 < x0_1.length) = true:=decide_eq_true (by omega)
    clear c2
    obtain ⟨ji3,hji3⟩ : ∃ j_ : Int,(wrap64 ((x0_1.length : Int) - 1)) = j_:=⟨_,rfl⟩
    (first|rw [hji3] at H|simp only [hji3] at H)
    have hji3w : (IntKind.i64.wrap ((x0_1.length : Int) - 1)) = ji3:=(i64_w _).trans hji3
    by_cases c4 : 0 ≤ (ji3)
    ·rw [if_pos c4] at H
     have c4b0 : decide (0 ≤ (ji3)) = true:=decide_eq_true c4
     clear c4
     by_cases c5 : (ji3) < (x0_1.length : Int)
     ·rw [if_pos c5] at H
      have c5b0 : decide ((ji3) < (x0_1.length : Int)) = true:=decide_eq_true c5
      clear c5
      obtain ⟨bq6,hbq6⟩ : ∃ b_ : Bool,b_ = (rdOf false x0_1 (ji3)):=⟨_,rfl⟩
      replace H : (if (bq6 = true) then (some x0_1) else (if (ji3) ≤ (x0_1.length : Int) then (sacristyref01_Trim.l0 k1 (x0_1.take ((ji3) : Int).toNat)) else (none))) = some r:=by rw [← hbq6] at H;exact H
      have Nbq6:=Aside0.mk hbq6
      clear hbq6
      by_cases c7 : (bq6 = true)
      ·subst c7
       rw [if_pos rfl] at H
       obtain rfl:=Option.some.inj H
       obtain ⟨Ao8,co8,eo8⟩:=Kd.V_slice HO_0.out
       subst eo8
       have p453 : 0 ≤ ((ji3) : Int):=od
       have q453 : (ji3) < (x0_1.length : Int):=od
       obtain ⟨ad453,e453,hx453_0⟩:=Kd.at_bool (Kd.V_reads' HO_0.out).2.2 (ji3) p453 q453
       (try rw [← Nbq6.out] at hx453_0)
       cases e453
       replace p453:=eq_true p453
       replace q453:=eq_true q453
       go_wp2
       (first|go_ret|(refine ⟨_,results_tmp rfl _ _ _,?_⟩))
       exact ⟨_,by first|rfl|(simp [errW_none,errW_some] <;> rfl)|(simp only [← hji3];first|rfl|(simp [errW_none,errW_some] <;> rfl))|(simp [*,errW_none,errW_some] <;> rfl),qVm HO_0,qS HB⟩
      ·replace c7:=Bool.eq_false_iff.mpr c7
       subst c7
       rw [qFT] at H
       have c9b0:=eq_true (od : 0 ≤ (ji3))
       by_cases c10 : (ji3) ≤ (x0_1.length : Int)
       ·rw [if_pos c10] at H
        have c10b0:=eq_true c10
        have c10b1 : decide ((ji3) ≤ (x0_1.length : Int)) = true:=decide_eq_true c10
        clear c10
        obtain ⟨y454,hy454⟩ : ∃ y_ : List Bool,y_ = (x0_1.take ((ji3) : Int).toNat):=⟨_,rfl⟩
        replace H : (sacristyref01_Trim.l0 k1 y454) = some r:=by first|(rw [hy454];with_reducible exact H)|(have H2_:=(Option.bind_some _ _).symm.trans H;rw [hy454];with_reducible exact H2_)|(have H2_:=(Option.bind_some _ _).symm.trans H;with_reducible exact H2_)|with_reducible exact H|(rw [hy454];exact H)|exact H
        have Ny454:=Aside0.mk hy454
        clear hy454
        have H':=Aside0.mk H
        clear H
        obtain ⟨Ao11,co11,eo11⟩:=Kd.V_slice HO_0.out
        subst eo11
        have p453 : 0 ≤ ((ji3) : Int):=od
        have q453 : (ji3) < (x0_1.length : Int):=od
        obtain ⟨ad453,e453,hx453_0⟩:=Kd.at_bool (Kd.V_reads' HO_0.out).2.2 (ji3) p453 q453
        (try rw [← Nbq6.out] at hx453_0)
        cases e453
        replace p453:=eq_true p453
        replace q453:=eq_true q453
        have q12 : ((ji3) : Int) ≤ ((x0_1.length : Int) : Int):=od
        obtain ⟨i012,hi012,_,hsz12,_⟩:=info_parts info4
        have hroom12 : x0_1.length ≤ co11:=(Kd.V_reads' HO_0.out).2.1
        have hC12 : Kd.F Kd.bool _ _ (some ad453) x0_1.length x0_1:=(Kd.V_at (base:=w.heap.size) HO_0.out).2.2
        have hcut12:=cut_to (P:=Try.prog) 42 4 .i64 Try.underlying42 hi012 (some ad453) x0_1.length co11 (ji3) (od) q12 hroom12
        have hr12:=Kd.F_take (m:=((ji3) : Int).toNat) hC12 (by omega)
        have hy12 : y454.length = ((ji3) : Int).toNat:=(by rw [Ny454.out,List.length_take];omega)
        rw [← Ny454.out] at hr12
        rw [← hy12] at hcut12
        have HO458:=Aside0.mk (show Kd.V Kd.bool 4 _ w.heap.size _ (.slice (some ad453) y454.length co11) y454 from Kd.V_mk (by omega) hr12)
        have HC458:=Aside0.mk (show y454.length ≤ co11 from by omega)
        clear hr12 hC12 hroom12 hi012 hsz12
        have KY12:=Aside0.mk hy12
        clear hy12
        replace q12:=eq_true q12
        go_wp2
        go_roundg k1
        case measure => have:=HK1.out;omega
        case rel => exact ⟨(y454),H',⟨by have:=HK1.out;omega⟩,⟨qVm HO458⟩,⟨qS HB⟩⟩
       ·rw [if_neg c10] at H
        exact absurd H (by simp)
     ·rw [if_neg c5] at H
      exact absurd H (by simp)
    ·rw [if_neg c4] at H
     exact absurd H (by simp)
   ·rw [if_neg c2] at H
    have c2b0 : decide (0 < (x0_1.length : Int)) = false:=decide_eq_false c2
    have c2b1 : decide (0 < x0_1.length) = false:=decide_eq_false (by omega)
    clear c2
    obtain rfl:=Option.some.inj H
    obtain ⟨Ao13,co13,eo13⟩:=Kd.V_slice HO_0.out
    subst eo13
    go_wp2
    (first|go_ret|(refine ⟨_,results_tmp rfl _ _ _,?_⟩))
    exact ⟨_,by first|rfl|(simp [errW_none,errW_some] <;> rfl)|(simp [*,errW_none,errW_some] <;> rfl),qVm HO_0,qS HB⟩
end Go.Proofs.Yteejcpbngnojkaa.P
end
section
namespace Go.Proofs.Yteejcpbngnojkaa.P
open Go.RowKit Go.Proofs.YteejcpbngnojkaaW.PrintWords Go.Proofs.YteejcpbngnojkaaW.PrintLast Go.Proofs.YteejcpbngnojkaaW.PrintMore
attribute [local go_sem] max2_int min2_int max_two min_two max_three min_three max_four min_four
set_option linter.unusedVariables false
set_option linter.unusedSimpArgs false
mutual
def sacristyref01_Of.l0 : Nat → List Int → List Bool → Int → Option (List Bool)
 |0,_,_,_ => none
 |k + 1,x0,x3,x4 => if x4 ≥ 0 then (sacristyref01_Of.l1 k x0 x3 x4 0) else ((sacristyref01_Trim.f k x3).bind fun t462 => (some t462))
def sacristyref01_Of.l1 : Nat → List Int → List Bool → Int → Int → Option (List Bool)
 |0,_,_,_,_ => none
 |k + 1,x0,x3,x4,x5 => if x5 < 8 then (if 0 ≤ x4 then (if x4 < (x0.length : Int) then (if 0 ≤ x5 then (if x3.length < 140737488355328 then (sacristyref01_Of.l1 k x0 (x3 ++ [((Int.tmod (shr .u8 (rd x0 x4) x5) 2) == 1)]) x4 (wrap64 (x5 + 1))) else (none)) else (none)) else (none)) else (none)) else (sacristyref01_Of.l0 k x0 x3 (wrap64 (x4 - 1)))
end
def sacristyref01_Of.f (k : Nat) (l0 : List Int) : Option (List Bool):=sacristyref01_Of.l0 k l0 (([] : List Bool)) (wrap64 ((l0.length : Int) - 1))
theorem sacristyref01_Of.mono_l : ∀ k,(∀ y0 y1 y2,LeO (sacristyref01_Of.l0 k y0 y1 y2) (sacristyref01_Of.l0 (k + 1) y0 y1 y2)) ∧ (∀ y0 y1 y2 y3,LeO (sacristyref01_Of.l1 k y0 y1 y2 y3) (sacristyref01_Of.l1 (k + 1) y0 y1 y2 y3))
 |0 => ⟨fun _ _ _ r h => by simp [sacristyref01_Of.l0] at h,fun _ _ _ _ r h => by simp [sacristyref01_Of.l1] at h⟩
 |k + 1 => by
  obtain ⟨ih0,ih1⟩:=sacristyref01_Of.mono_l k
  refine ⟨?_,?_⟩
  ·intro y0 y1 y2
   unfold sacristyref01_Of.l0
   repeat' first
   |(with_reducible exact ih0 _ _ _)
   |(with_reducible exact ih1 _ _ _ _)
   |(with_reducible exact sacristyref01_Trim.mono _ _)
   |(with_reducible exact LeO.refl _)
   |(with_reducible exact LeO.none _)
   |(with_reducible refine LeO.ite ?_ ?_)
   |(with_reducible refine LeO.bind ?_ (fun _ => ?_))
   |exact ih0 _ _ _
   |exact ih1 _ _ _ _
   |exact sacristyref01_Trim.mono _ _
   |exact LeO.none _
   |refine LeO.ite ?_ ?_
   |refine LeO.bind ?_ (fun _ => ?_)
  ·intro y0 y1 y2 y3
   unfold sacristyref01_Of.l1
   repeat' first
   |(with_reducible exact ih0 _ _ _)
   |(with_reducible exact ih1 _ _ _ _)
   |(with_reducible exact sacristyref01_Trim.mono _ _)
   |(with_reducible exact LeO.refl _)
   |(with_reducible exact LeO.none _)
   |(with_reducible refine LeO.ite ?_ ?_)
   |(with_reducible refine LeO.bind ?_ (fun _ => ?_))
   |exact ih0 _ _ _
   |exact ih1 _ _ _ _
   |exact sacristyref01_Trim.mono _ _
   |exact LeO.none _
   |refine LeO.ite ?_ ?_
   |refine LeO.bind ?_ (fun _ => ?_)
theorem sacristyref01_Of.mono : ∀ a0 k,LeO (sacristyref01_Of.f k a0) (sacristyref01_Of.f (k + 1) a0):=by
 intro a0 k
 obtain ⟨ih0,ih1⟩:=sacristyref01_Of.mono_l k
 unfold sacristyref01_Of.f
 repeat' first
   |(with_reducible exact ih0 _ _ _)
   |(with_reducible exact ih1 _ _ _ _)
   |(with_reducible exact sacristyref01_Trim.mono _ _)
   |(with_reducible exact LeO.refl _)
   |(with_reducible exact LeO.none _)
   |(with_reducible refine LeO.ite ?_ ?_)
   |(with_reducible refine LeO.bind ?_ (fun _ => ?_))
   |exact ih0 _ _ _
   |exact ih1 _ _ _ _
   |exact sacristyref01_Trim.mono _ _
   |exact LeO.none _
   |refine LeO.ite ?_ ?_
   |refine LeO.bind ?_ (fun _ => ?_)
set_option maxHeartbeats 8000000 in
set_option maxRecDepth 100000 in
theorem sacristyref01_Of.calls (k : Nat) (A0 : Option Addr) (c0 : Nat) (l0 : List Int) (r : List Bool) (w : World) (hr0 : Kd.C (Kd.int .u8) w A0 l0.length l0) (hc0 : l0.length ≤ c0) (h : sacristyref01_Of.f k l0 = some r) :
  Calls Try.prog 101 #[.slice A0 l0.length c0] w fun e w' => ∃ v0_ : Value,e = .returned (v0_) ∧ Kd.V Kd.bool 4 w' w.heap.size (fun k_ => (w.heap.size ≤ k_)) v0_ r ∧ Below w.heap.size w w':=by
 have HR0:=Aside0.mk hr0
 have HC0:=Aside0.mk hc0
 clear hr0 hc0
 have HB:=Aside0.mk (Below.refl w.heap.size w)
 have H : (sacristyref01_Of.l0 k l0 (([] : List Bool)) (wrap64 ((l0.length : Int) - 1))) = some r:=h
 clear h
 obtain ⟨y459,hy459⟩ : ∃ y_ : List Bool,y_ = (([] : List Bool)):=⟨_,rfl⟩
 replace H : (sacristyref01_Of.l0 k l0 y459 (wrap64 ((l0.length : Int) - 1))) = some r:=by first|(rw [hy459];with_reducible exact H)|(have H2_:=(Option.bind_some _ _).symm.trans H;rw [hy459];with_reducible exact H2_)|(have H2_:=(Option.bind_some _ _).symm.trans H;with_reducible exact H2_)|with_reducible exact H|(rw [hy459];exact H)|exact H
 have Ny459:=Aside0.mk hy459
 clear hy459
 have H':=Aside0.mk H
 clear H
 go_enter Try.func101,Try.ntmps101
 go_wp2_with (first|((with_reducible refine gate_dst (N:=6) rfl ?_);refine Kd.R_lit Kd.bool _ 4 ?hg (N:=6) ?hd (xs:=([] : List Bool)) (inner:=[]) (ok:=fun _ => True) (okp:=fun _ => True) ?hr ?hp (fun _ hk => hk) trivial (Below.refl _ _) (Nat.le_refl _) (by simp) ?_;(case hd => rfl);(case hg => rfl);(case hr => first|(go_simp;done)|(go_simp;rfl));(case hp => exact (Reps.none _ _));intro v460 w2 ho3 hb hg_ hnew_;clear hg_ hnew_;(first|rw [← Ny459.out] at ho3|(simp only [Int.reduceToNat] at ho3;rw [← Ny459.out] at ho3));have HO461:=Aside0.mk (Kd.R_lower (Kd.R_newM (M:=fun k_ => (w.heap.size ≤ k_)) ho3 (below_size (qS HB)) (fun k_ h_ => h_)) (below_size (qS HB)));replace HB:=qs HB hb;clear hb ho3))
 go_loopg [3,4] k (fun kq v3 v4 w' => ∃ (x3_1 : List Bool) (x4_1 : Int),v4 = .int .i64 x4_1 ∧ Aside0 (sacristyref01_Of.l0 kq l0 x3_1 x4_1 = some r) ∧ Aside0 (kq ≤ k) ∧ Aside0 (Kd.R Kd.bool 4 w' w.heap.size (fun k_ => (w.heap.size ≤ k_)) v3 x3_1) ∧ Aside0 (Below w.heap.size w w'))
 case atStart => exact ⟨(y459),(wrap64 ((l0.length : Int) - 1)),(by first|rfl|(simp;done)|(simp [*];done)),H',⟨Nat.le_refl _⟩,⟨qRm HO461⟩,⟨qS HB⟩⟩
 case round =>
  clear H'
  try clear c1
  try clear p2
  obtain ⟨x3_1,x4_1,rfl,HA,HK1,HO_3,HB⟩:=hrel
  cases gk with
  |zero => exact absurd HA.out (by simp [sacristyref01_Of.l0])
  |succ k1 =>
   have H:=HA.out
   clear HA
   simp only [sacristyref01_Of.l0] at H
   by_cases c4 : x4_1 ≥ 0
   ·rw [if_pos c4] at H
    have c4b0 : decide (0 ≤ x4_1) = true:=decide_eq_true c4
    clear c4
    have H':=Aside0.mk H
    clear H
    go_wp2
    go_loopg [3,5] k1 (fun kq v3 v5 w' => ∃ (x3_2 : List Bool) (x5_2 : Int),v5 = .int .i64 x5_2 ∧ Aside0 (sacristyref01_Of.l1 kq l0 x3_2 x4_1 x5_2 = some r) ∧ Aside0 (kq ≤ k1) ∧ Aside0 (Kd.R Kd.bool 4 w' w.heap.size (fun k_ => (w.heap.size ≤ k_)) v3 x3_2) ∧ Aside0 (Below w.heap.size w w'))
    case atStart => exact ⟨(x3_1),(0),(by first|rfl|(simp;done)|(simp [*];done)),H',⟨Nat.le_refl _⟩,⟨qRm HO_3⟩,⟨qS HB⟩⟩
    case round =>
     clear H'
     try clear c1
     try clear p2
     try clear c4
     try clear c4b0
     try clear p2
     obtain ⟨x3_2,x5_2,rfl,HA,HK2,HO_3,HB⟩:=hrel
     cases gk with
     |zero => exact absurd HA.out (by simp [sacristyref01_Of.l1])
     |succ k2 =>
      have H:=HA.out
      clear HA
      simp only [sacristyref01_Of.l1] at H
      by_cases c5 : x5_2 < 8
      ·rw [if_pos c5] at H
       have c5b0 : decide (x5_2 < 8) = true:=decide_eq_true c5
       clear c5
       by_cases c6 : 0 ≤ x4_1
       ·rw [if_pos c6] at H
        have c6b0 : decide (0 ≤ x4_1) = true:=decide_eq_true c6
        clear c6
        by_cases c7 : x4_1 < (l0.length : Int)
        ·rw [if_pos c7] at H
         have c7b0 : decide (x4_1 < (l0.length : Int)) = true:=decide_eq_true c7
         clear c7
         by_cases c8 : 0 ≤ x5_2
         ·rw [if_pos c8] at H
          have c8b0:=eq_true c8
          have c8b1 : decide (0 ≤ x5_2) = true:=decide_eq_true c8
          clear c8
          obtain ⟨ji9,hji9⟩ : ∃ j_ : Int,(shr .u8 (rd l0 x4_1) x5_2) = j_:=⟨_,rfl⟩
          (first|rw [hji9] at H|simp only [hji9] at H)
          have hji9_ : ((rd l0 x4_1) / 2 ^ min x5_2.toNat 8) = ji9:=hji9
          have hji9z : x5_2 ≤ 8 → ((rd l0 x4_1) / 2 ^ x5_2.toNat) = ji9:=shr_small hji9
          by_cases c10 : x3_2.length < 140737488355328
          ·rw [if_pos c10] at H
           have LMc10:=Aside0.mk c10
           clear c10
           obtain ⟨y466,hy466⟩ : ∃ y_ : List Bool,y_ = (x3_2 ++ [((Int.tmod (ji9) 2) == 1)]):=⟨_,rfl⟩
           replace H : (sacristyref01_Of.l1 k2 l0 y466 x4_1 (wrap64 (x5_2 + 1))) = some r:=by first|(rw [hy466];with_reducible exact H)|(have H2_:=(Option.bind_some _ _).symm.trans H;rw [hy466];with_reducible exact H2_)|(have H2_:=(Option.bind_some _ _).symm.trans H;with_reducible exact H2_)|with_reducible exact H|(rw [hy466];exact H)|exact H
           have Ny466:=Aside0.mk hy466
           clear hy466
           have H':=Aside0.mk H
           clear H
           have p465 : 0 ≤ (x4_1 : Int):=od
           have q465 : x4_1 < (l0.length : Int):=od
           obtain ⟨ad465,e465,hx465_0⟩:=Kd.at_int HR0.out x4_1 p465 q465
           cases e465
           replace hx465_0:=(HB.out.cell (World.block_lt_of_cell? w _ hx465_0)).trans hx465_0
           replace p465:=eq_true p465
           replace q465:=eq_true q465
           go_wp2_with (first|((with_reducible refine gate_builtin (b:=.append) (xs:=#[.tmp 18,.tmp 27]) rfl ?_);at_builtin;refine Kd.R_append Kd.bool (w0:=w) w.heap.size rfl (.tmp 18) (.tmp 27) 42 4 (.bool false) 1 rfl Try.underlying42 info4 rfl (by decide) (by omega) u3 x3_2 ((Int.tmod (ji9) 2) == 1) [.bool ((Int.tmod (ji9) 2) == 1)] (fun k_ => (w.heap.size ≤ k_)) (fun _ => False) rfl rfl ?aP (fun _ hk => hk.elim) ?aF ?aO ?aB ?aS ?aL ?_;(case aP => exact rfl);(case aB => exact (qS HB));(case aF => exact (fun k_ hk => (Nat.le_trans (below_size (qS HB)) hk)));(case aO => exact (qRm HO_3));(case aS => exact (below_size (qS HB)));(case aL => have:=LMc10.out;omega);intro v467 w11 ho hb hg hat;rw [← Ny466.out] at ho;replace HB:=Aside0.mk (hb);have HO468:=Aside0.mk (ho);(try clear HO_3);clear ho hb hg hat))
           go_roundg k2
           case measure => have:=HK1.out;have:=HK2.out;omega
           case rel => exact ⟨(y466),(wrap64 (x5_2 + 1)),(by first|rfl|(simp;done)|(simp [*];done)),H',⟨by have:=HK1.out;have:=HK2.out;omega⟩,⟨qRm HO468⟩,⟨qS HB⟩⟩
          ·rw [if_neg c10] at H
           exact absurd H (by simp)
         ·rw [if_neg c8] at H
          exact absurd H (by simp)
        ·rw [if_neg c7] at H
         exact absurd H (by simp)
       ·rw [if_neg c6] at H
        exact absurd H (by simp)
      ·rw [if_neg c5] at H
       have c5b0 : decide (x5_2 < 8) = false:=decide_eq_false c5
       clear c5
       have H':=Aside0.mk H
       clear H
       go_wp2
       go_roundg k2
       case measure => have:=HK1.out;have:=HK2.out;omega
       case rel => exact ⟨(x3_2),(wrap64 (x4_1 - 1)),(by first|rfl|(simp;done)|(simp [*];done)),H',⟨by have:=HK1.out;have:=HK2.out;omega⟩,⟨qRm HO_3⟩,⟨qS HB⟩⟩
   ·rw [if_neg c4] at H
    have c4b0 : decide (0 ≤ x4_1) = false:=decide_eq_false c4
    clear c4
    obtain ⟨t462,A12,H⟩:=qH H
    obtain rfl:=Option.some.inj H
    obtain ⟨Ao13,co13,eo13⟩:=Kd.R_slice HO_3.out
    subst eo13
    go_wp2_with (first|((with_reducible refine gate_callee (f:=111) rfl ?_);refine gL (some 30) Try.func111 #[.slice Ao13 x3_1.length co13] ?_;(with_reducible refine (sacristyref01_Trim.calls k1 (fun k_ => some k_ = (.slice Ao13 x3_1.length co13 : Value).ownBlock) _ _ x3_1 t462 _ ?side1 A12.out).mono ?_);(case side1 => exact Kd.R_V (Kd.R_tight rfl (HO_3.out)));rintro e w14 ⟨v463,rfl,ho0,hb⟩;refine ⟨_,rfl,?_⟩;have HO464:=Aside0.mk (Kd.V_lower (Kd.V_mono (ok':=fun k_ => (w.heap.size ≤ k_)) ho0 (fun k_ hk_ => Or.elim hk_ (fun hs_ => ((HO_3.out).1 k_ hs_.symm)) (fun hn_ => (Nat.le_trans (below_size (qS HB)) hn_)))) (below_size (qS HB)));replace HO_3:=qRb HO_3 hb;replace HB:=qs HB hb;clear hb ho0))
    (first|go_ret|(refine ⟨_,results_tmp rfl _ _ _,?_⟩))
    exact ⟨_,by first|rfl|(simp [errW_none,errW_some] <;> rfl)|(simp [*,errW_none,errW_some] <;> rfl),qVm HO464,qS HB⟩
end Go.Proofs.Yteejcpbngnojkaa.P
end
section
namespace Go.Proofs.Yteejcpbngnojkaa.P
open Go.RowKit Go.Proofs.YteejcpbngnojkaaW.PrintWords Go.Proofs.YteejcpbngnojkaaW.PrintLast Go.Proofs.YteejcpbngnojkaaW.PrintMore
attribute [local go_sem] max2_int min2_int max_two min_two max_three min_three max_four min_four
set_option linter.unusedVariables false
set_option linter.unusedSimpArgs false
def sacristylaw01_ref.f (k : Nat) (l0 : List Int) : Option (List Bool):=if 0 ≤ (mn (l0.length : Int) 48) then (if (mn (l0.length : Int) 48) ≤ (l0.length : Int) then ((sacristyref01_Of.f k (l0.take ((mn (l0.length : Int) 48) : Int).toNat)).bind fun t512 => (some t512)) else (none)) else (none)
theorem sacristylaw01_ref.mono : ∀ a0 k,LeO (sacristylaw01_ref.f k a0) (sacristylaw01_ref.f (k + 1) a0):=by
 intro a0 k
 unfold sacristylaw01_ref.f
 repeat' first
   |(with_reducible exact sacristyref01_Of.mono _ _)
   |(with_reducible exact LeO.refl _)
   |(with_reducible exact LeO.none _)
   |(with_reducible refine LeO.ite ?_ ?_)
   |(with_reducible refine LeO.bind ?_ (fun _ => ?_))
   |exact sacristyref01_Of.mono _ _
   |exact LeO.none _
   |refine LeO.ite ?_ ?_
   |refine LeO.bind ?_ (fun _ => ?_)
set_option maxHeartbeats 8000000 in
set_option maxRecDepth 100000 in
theorem sacristylaw01_ref.calls (k : Nat) (A0 : Option Addr) (c0 : Nat) (l0 : List Int) (r : List Bool) (w : World) (hr0 : Kd.C (Kd.int .u8) w A0 l0.length l0) (hc0 : l0.length ≤ c0) (h : sacristylaw01_ref.f k l0 = some r) :
  Calls Try.prog 41 #[.slice A0 l0.length c0] w fun e w' => ∃ v0_ : Value,e = .returned (v0_) ∧ Kd.V Kd.bool 4 w' w.heap.size (fun k_ => (w.heap.size ≤ k_)) v0_ r ∧ Below w.heap.size w w':=by
 have HR0:=Aside0.mk hr0
 have HC0:=Aside0.mk hc0
 clear hr0 hc0
 have HB:=Aside0.mk (Below.refl w.heap.size w)
 have H : (if 0 ≤ (mn (l0.length : Int) 48) then (if (mn (l0.length : Int) 48) ≤ (l0.length : Int) then ((sacristyref01_Of.f k (l0.take ((mn (l0.length : Int) 48) : Int).toNat)).bind fun t512 => (some t512)) else (none)) else (none)) = some r:=h
 clear h
 obtain ⟨ji2,hji2⟩ : ∃ j_ : Int,(mn (l0.length : Int) 48) = j_:=⟨_,rfl⟩
 (first|rw [hji2] at H|simp only [hji2] at H)
 (try (have hji2h : ji2 ≤ 48:=by (rw [← hji2];unfold mn;(repeat' split) <;> omega)))
 (try (have hji2g : ji2 ≤ 64:=by omega))
 (try (have hji2l : 0 ≤ ji2:=by (rw [← hji2];unfold mn;(repeat' split) <;> omega)))
 (try (have hji2m : 0 ≤ ji2:=by omega))
 have hji2_ : (if 48 < (l0.length : Int) then 48 else (l0.length : Int)) = ji2:=hji2
 by_cases c3 : 0 ≤ (ji2)
 ·rw [if_pos c3] at H
  have c3b0:=eq_true c3
  have c3b1 : decide (0 ≤ (ji2)) = true:=decide_eq_true c3
  clear c3
  by_cases c4 : (ji2) ≤ (l0.length : Int)
  ·rw [if_pos c4] at H
   have c4b0:=eq_true c4
   have c4b1 : decide ((ji2) ≤ (l0.length : Int)) = true:=decide_eq_true c4
   clear c4
   obtain ⟨t512,A5,H⟩:=qH H
   obtain rfl:=Option.some.inj H
   obtain ⟨i06,hi06,_,hsz6,_⟩:=info_parts info5
   obtain ⟨hcut6,hA6,hC6⟩:=print_take_of (P:=Try.prog) (Value.int .u8) 0 22 5 .i64 Try.underlying22 hi06 hsz6 A0 c0 l0 (ji2) (od) (od) HC0.out
   have HR511:=Aside0.mk (Kd.C_of_reads (h1:=fun _ => rfl) (hA6 _ (Kd.reads_of_C HR0.out)))
   have HC511:=Aside0.mk hC6
   clear hA6 hC6 hi06 hsz6
   go_enter Try.func41,Try.ntmps41
   go_wp2_with (first|((with_reducible refine gate_callee (f:=101) rfl ?_);refine goesL_ (some 8) rfl rfl Try.func101 (by kernel_rfl) rfl #[.slice A0 (l0.take ((ji2) : Int).toNat).length c0] rfl (by (try simp only [List.map_toArray,List.map_cons,List.map_nil]);first|done|(rw [show (l0.take ((ji2) : Int).toNat).length = (ji2).toNat from (by rw [List.length_take];have h_ : ((ji2) : Int) ≤ (l0.length : Int):=od;omega)] <;> rfl)|(simp only [hji2];rfl)|rfl|(simp only [List.length_drop,List.length_take];rfl)) ?_;(with_reducible refine (sacristyref01_Of.calls k _ _ (l0.take ((ji2) : Int).toNat) t512 _ ?side1 ?side2 A5.out).mono ?_);(case side1 => exact qC HR511);(case side2 => exact HC511.out);rintro e w7 ⟨v513,rfl,ho0,hb⟩;refine ⟨_,rfl,?_⟩;have HO514:=Aside0.mk (Kd.V_lower (Kd.V_mono (ok':=fun k_ => (w.heap.size ≤ k_)) ho0 (fun k_ hk_ => (Nat.le_trans (below_size (qS HB)) hk_))) (below_size (qS HB)));replace HB:=qs HB hb;clear hb ho0))
   (first|go_ret|(refine ⟨_,results_tmp rfl _ _ _,?_⟩))
   exact ⟨_,by first|rfl|(simp [errW_none,errW_some] <;> rfl)|(simp only [← hji2];first|rfl|(simp [errW_none,errW_some] <;> rfl))|(simp [*,errW_none,errW_some] <;> rfl),qVm HO514,qS HB⟩
  ·rw [if_neg c4] at H
   exact absurd H (by simp)
 ·rw [if_neg c3] at H
  exact absurd H (by simp)
end Go.Proofs.Yteejcpbngnojkaa.P
end
section
namespace Go.Proofs.Yteejcpbngnojkaa.P
open Go.RowKit Go.Proofs.YteejcpbngnojkaaW.PrintWords Go.Proofs.YteejcpbngnojkaaW.PrintLast Go.Proofs.YteejcpbngnojkaaW.PrintMore
attribute [local go_sem] max2_int min2_int max_two min_two max_three min_three max_four min_four
set_option linter.unusedVariables false
set_option linter.unusedSimpArgs false
def nat_Nat_Uint.l0 : Nat → Int → List Int → Int → Int → Option (Int × Bool)
 |0,_,_,_,_ => none
 |k + 1,x4,x12,x13,x14 => if x14 < x13 then (if 0 ≤ x14 then (if x14 < (x12.length : Int) then (if 0 ≤ (wrap64 (32 * x14)) then (nat_Nat_Uint.l0 k (Go.bits .or .u64 x4 (shl .u64 (IntKind.u64.wrap (rd x12 x14)) (wrap64 (32 * x14)))) x12 x13 (wrap64 (x14 + 1))) else (none)) else (none)) else (none)) else (some (x4,true))
def nat_Nat_Uint.f (k : Nat) (l0_0 : List Int) : Option (Int × Bool):=if (l0_0.length : Int) > 2 then (some (0,false)) else (nat_Nat_Uint.l0 k 0 l0_0 (l0_0.length : Int) 0)
theorem nat_Nat_Uint.mono_l : ∀ k,(∀ y0 y1 y2 y3,LeO (nat_Nat_Uint.l0 k y0 y1 y2 y3) (nat_Nat_Uint.l0 (k + 1) y0 y1 y2 y3))
 |0 => fun _ _ _ _ r h => by simp [nat_Nat_Uint.l0] at h
 |k + 1 => by
  have ih0:=nat_Nat_Uint.mono_l k
  ·intro y0 y1 y2 y3
   unfold nat_Nat_Uint.l0
   repeat' first
   |(with_reducible exact ih0 _ _ _ _)
   |(with_reducible exact LeO.refl _)
   |(with_reducible exact LeO.none _)
   |(with_reducible refine LeO.ite ?_ ?_)
   |(with_reducible refine LeO.bind ?_ (fun _ => ?_))
   |exact ih0 _ _ _ _
   |exact LeO.none _
   |refine LeO.ite ?_ ?_
   |refine LeO.bind ?_ (fun _ => ?_)
theorem nat_Nat_Uint.mono : ∀ a0 k,LeO (nat_Nat_Uint.f k a0) (nat_Nat_Uint.f (k + 1) a0):=by
 intro a0 k
 have ih0:=nat_Nat_Uint.mono_l k
 unfold nat_Nat_Uint.f
 repeat' first
   |(with_reducible exact ih0 _ _ _ _)
   |(with_reducible exact LeO.refl _)
   |(with_reducible exact LeO.none _)
   |(with_reducible refine LeO.ite ?_ ?_)
   |(with_reducible refine LeO.bind ?_ (fun _ => ?_))
   |exact ih0 _ _ _ _
   |exact LeO.none _
   |refine LeO.ite ?_ ?_
   |refine LeO.bind ?_ (fun _ => ?_)
set_option maxHeartbeats 8000000 in
set_option maxRecDepth 100000 in
theorem nat_Nat_Uint.calls (k : Nat) (A0_0 : Option Addr) (c0_0 : Nat) (l0_0 : List Int) (r1 : Int) (r2 : Bool) (w : World) (hr0_0 : Kd.C (Kd.int .u32) w A0_0 l0_0.length l0_0) (hc0_0 : l0_0.length ≤ c0_0) (h : nat_Nat_Uint.f k l0_0 = some (r1,r2)) :
  Calls Try.prog 55 #[.agg #[.slice A0_0 l0_0.length c0_0]] w fun e w' => e = .returned (.tuple #[.int .u64 r1,.bool r2]) ∧ Below w.heap.size w w':=by
 have hu38:=Try.underlying38
 have HR0_0:=Aside0.mk hr0_0
 have HC0_0:=Aside0.mk hc0_0
 clear hr0_0 hc0_0
 have HB:=Aside0.mk (Below.refl w.heap.size w)
 have H : (if (l0_0.length : Int) > 2 then (some (0,false)) else (nat_Nat_Uint.l0 k 0 l0_0 (l0_0.length : Int) 0)) = some (r1,r2):=h
 clear h
 by_cases c2 : (l0_0.length : Int) > 2
 ·rw [if_pos c2] at H
  have c2b0 : decide (2 < (l0_0.length : Int)) = true:=decide_eq_true c2
  have c2b1 : decide (2 < l0_0.length) = true:=decide_eq_true (by omega)
  clear c2
  simp only [Option.some.injEq,Prod.mk.injEq] at H
  obtain ⟨rfl,rfl⟩:=H
  go_enter Try.func55,Try.ntmps55
  go_wp2_with (first|((with_reducible refine gate_dst (N:=1) rfl ?_);refine qX #[.slice A0_0 l0_0.length c0_0] 38 ?_;intro gb561 hg w3 hbox hb;have BK561:=Aside0.mk hbox;have GE561:=qh hg HB;replace HB:=qs HB hb;clear hb hbox hg;have hcz4_0:=bc BK561;have hfz4_0:=bz BK561))
  (first|go_ret2|(refine ⟨_,results_tmp2 rfl _ _ _,?_⟩))
  exact ⟨by first|rfl|(simp [errW_none,errW_some] <;> rfl)|(simp [*,errW_none,errW_some] <;> rfl),qS HB⟩
 ·rw [if_neg c2] at H
  have c2b0 : decide (2 < (l0_0.length : Int)) = false:=decide_eq_false c2
  have c2b1 : decide (2 < l0_0.length) = false:=decide_eq_false (by omega)
  clear c2
  have H':=Aside0.mk H
  clear H
  go_enter Try.func55,Try.ntmps55
  go_wp2_with (first|((with_reducible refine gate_dst (N:=1) rfl ?_);refine qX #[.slice A0_0 l0_0.length c0_0] 38 ?_;intro gb561 hg w5 hbox hb;have BK561:=Aside0.mk hbox;have GE561:=qh hg HB;replace HB:=qs HB hb;clear hb hbox hg;have hcz6_0:=bc BK561;have hfz6_0:=bz BK561))
  go_loopg [4,14] k (fun kq v4 v14 w' => ∃ (x4_1 : Int) (x14_1 : Int),v4 = .int .u64 x4_1 ∧ v14 = .int .i64 x14_1 ∧ Aside0 (nat_Nat_Uint.l0 kq x4_1 l0_0 (l0_0.length : Int) x14_1 = some (r1,r2)) ∧ Aside0 (kq ≤ k) ∧ Aside0 (w'.heap[gb561]? = some (.cells #[(.slice A0_0 l0_0.length c0_0)] 38 (0,0))) ∧ Aside0 (Below w.heap.size w w'))
  case atStart => exact ⟨(0),(0),(by first|rfl|(simp;done)|(simp [*];done)),(by first|rfl|(simp;done)|(simp [*];done)),H',⟨Nat.le_refl _⟩,⟨qB BK561.out⟩,⟨qS HB⟩⟩
  case round =>
   clear H'
   try clear c2
   try clear c2b0
   try clear c2b1
   try clear p2
   try clear c5
   try clear hcz4_0
   try clear hcz6_0
   try clear hfz4_0
   try clear hfz6_0
   obtain ⟨x4_1,x14_1,rfl,rfl,HA,HK1,BK561,HB⟩:=hrel
   cases gk with
   |zero => exact absurd HA.out (by simp [nat_Nat_Uint.l0])
   |succ k1 =>
    have H:=HA.out
    clear HA
    simp only [nat_Nat_Uint.l0] at H
    by_cases c7 : x14_1 < (l0_0.length : Int)
    ·rw [if_pos c7] at H
     have c7b0 : decide (x14_1 < (l0_0.length : Int)) = true:=decide_eq_true c7
     clear c7
     by_cases c8 : 0 ≤ x14_1
     ·rw [if_pos c8] at H
      have c8b0 : decide (0 ≤ x14_1) = true:=decide_eq_true c8
      clear c8
      by_cases c9 : x14_1 < (l0_0.length : Int)
      ·rw [if_pos c9] at H
       have c9b0 : decide (x14_1 < (l0_0.length : Int)) = true:=decide_eq_true c9
       clear c9
       obtain ⟨ji10,hji10⟩ : ∃ j_ : Int,(wrap64 (32 * x14_1)) = j_:=⟨_,rfl⟩
       (first|rw [hji10] at H|simp only [hji10] at H)
       have hji10w : (IntKind.i64.wrap (32 * x14_1)) = ji10:=(i64_w _).trans hji10
       by_cases c11 : 0 ≤ (ji10)
       ·rw [if_pos c11] at H
        have c11b0:=eq_true c11
        have c11b1 : decide (0 ≤ (ji10)) = true:=decide_eq_true c11
        clear c11
        obtain ⟨ji12,hji12⟩ : ∃ j_ : Int,(shl .u64 (IntKind.u64.wrap (rd l0_0 x14_1)) (ji10)) = j_:=⟨_,rfl⟩
        (first|rw [hji12] at H|simp only [hji12] at H)
        have hji12_ : (IntKind.u64.wrap ((IntKind.u64.wrap (rd l0_0 x14_1)) * 2 ^ min (ji10).toNat 64)) = ji12:=hji12
        have hji12z : (ji10) ≤ 64 → (IntKind.u64.wrap ((IntKind.u64.wrap (rd l0_0 x14_1)) * 2 ^ (ji10).toNat)) = ji12:=shl_small hji12
        have H':=Aside0.mk H
        clear H
        have p562 : 0 ≤ (x14_1 : Int):=od
        have q562 : x14_1 < (l0_0.length : Int):=od
        obtain ⟨ad562,e562,hx562_0⟩:=Kd.at_int HR0_0.out x14_1 p562 q562
        cases e562
        replace hx562_0:=(HB.out.cell (World.block_lt_of_cell? w _ hx562_0)).trans hx562_0
        replace p562:=eq_true p562
        replace q562:=eq_true q562
        go_wp2
        go_roundg k1
        case measure => have:=HK1.out;omega
        case rel => exact ⟨(Go.bits .or .u64 x4_1 (ji12)),(wrap64 (x14_1 + 1)),(by first|rfl|(simp;done)|(simp only [← hji12] <;> (first|rfl|simp))|(simp [*];done)),(by first|rfl|(simp;done)|(simp [*];done)),H',⟨by have:=HK1.out;omega⟩,⟨qB BK561.out⟩,⟨qS HB⟩⟩
       ·rw [if_neg c11] at H
        exact absurd H (by simp)
      ·rw [if_neg c9] at H
       exact absurd H (by simp)
     ·rw [if_neg c8] at H
      exact absurd H (by simp)
    ·rw [if_neg c7] at H
     have c7b0 : decide (x14_1 < (l0_0.length : Int)) = false:=decide_eq_false c7
     clear c7
     simp only [Option.some.injEq,Prod.mk.injEq] at H
     obtain ⟨rfl,rfl⟩:=H
     go_wp2
     (first|go_ret2|(refine ⟨_,results_tmp2 rfl _ _ _,?_⟩))
     exact ⟨by first|rfl|(simp [errW_none,errW_some] <;> rfl)|(simp [*,errW_none,errW_some] <;> rfl),qS HB⟩
end Go.Proofs.Yteejcpbngnojkaa.P
end
section
namespace Go.Proofs.Yteejcpbngnojkaa.P
open Go.RowKit Go.Proofs.YteejcpbngnojkaaW.PrintWords Go.Proofs.YteejcpbngnojkaaW.PrintLast Go.Proofs.YteejcpbngnojkaaW.PrintMore
attribute [local go_sem] max2_int min2_int max_two min_two max_three min_three max_four min_four
set_option linter.unusedVariables false
set_option linter.unusedSimpArgs false
def sacristylaw01_NatSmall.j0 : Nat → Int → Bool → List Bool → Bool → Option (Bool)
 |0,_,_,_,_ => none
 |k + 1,x7,x8,x9,x47 => if x47 = true then (none) else (if x8 = true then ((nat_New.f k x7).bind fun t845 => ((sacristylaw01_Same.f k t845 x9).bind fun t848 => (if t848 = true then (some true) else (none)))) else (some (x7 == 0)))
def sacristylaw01_NatSmall.f (k : Nat) (a0 : Int) (l1 : List Int) : Option (Bool):=(sacristylaw01_lives.f k).bind fun t824 => (if t824 = true then ((nat_New.f k a0).bind fun t825 => ((nat_Nat_Uint.f k t825).bind fun bt828 => ((sacristylaw01_Num.f k l1).bind fun t830 => ((nat_Nat_Uint.f k t830).bind fun bt833 => ((sacristylaw01_ref.f k l1).bind fun t835 => (if bt828.2 = true then (if bt828.1 = a0 then ((nat_New.f k a0).bind fun t838 => ((sacristyref01_Small.f k a0).bind fun t841 => ((sacristylaw01_Same.f k t838 t841).bind fun t844 => (if t844 = true then (sacristylaw01_NatSmall.j0 k bt833.1 bt833.2 t835 (bt833.2 != (decide ((t835.length : Int) ≤ 64)))) else (sacristylaw01_NatSmall.j0 k bt833.1 bt833.2 t835 true))))) else (sacristylaw01_NatSmall.j0 k bt833.1 bt833.2 t835 true)) else (sacristylaw01_NatSmall.j0 k bt833.1 bt833.2 t835 true))))))) else (none))
theorem sacristylaw01_NatSmall.mono_l : ∀ k,(∀ y0 y1 y2 y3,LeO (sacristylaw01_NatSmall.j0 k y0 y1 y2 y3) (sacristylaw01_NatSmall.j0 (k + 1) y0 y1 y2 y3))
 |0 => fun _ _ _ _ r h => by simp [sacristylaw01_NatSmall.j0] at h
 |k + 1 => by
  have ih0:=sacristylaw01_NatSmall.mono_l k
  ·intro y0 y1 y2 y3
   unfold sacristylaw01_NatSmall.j0
   repeat' first
   |(with_reducible exact ih0 _ _ _ _)
   |(with_reducible exact nat_Nat_Uint.mono _ _)
   |(with_reducible exact nat_New.mono _ _)
   |(with_reducible exact sacristylaw01_Num.mono _ _)
   |(with_reducible exact sacristylaw01_Same.mono _ _ _)
   |(with_reducible exact sacristylaw01_lives.mono _)
   |(with_reducible exact sacristylaw01_ref.mono _ _)
   |(with_reducible exact sacristyref01_Small.mono _ _)
   |(with_reducible exact LeO.refl _)
   |(with_reducible exact LeO.none _)
   |(with_reducible refine LeO.ite ?_ ?_)
   |(with_reducible refine LeO.bind ?_ (fun _ => ?_))
   |exact ih0 _ _ _ _
   |exact nat_Nat_Uint.mono _ _
   |exact nat_New.mono _ _
   |exact sacristylaw01_Num.mono _ _
   |exact sacristylaw01_Same.mono _ _ _
   |exact sacristylaw01_lives.mono _
   |exact sacristylaw01_ref.mono _ _
   |exact sacristyref01_Small.mono _ _
   |exact LeO.none _
   |refine LeO.ite ?_ ?_
   |refine LeO.bind ?_ (fun _ => ?_)
theorem sacristylaw01_NatSmall.mono : ∀ a0 a1 k,LeO (sacristylaw01_NatSmall.f k a0 a1) (sacristylaw01_NatSmall.f (k + 1) a0 a1):=by
 intro a0 a1 k
 have ih0:=sacristylaw01_NatSmall.mono_l k
 unfold sacristylaw01_NatSmall.f
 repeat' first
   |(with_reducible exact ih0 _ _ _ _)
   |(with_reducible exact nat_Nat_Uint.mono _ _)
   |(with_reducible exact nat_New.mono _ _)
   |(with_reducible exact sacristylaw01_Num.mono _ _)
   |(with_reducible exact sacristylaw01_Same.mono _ _ _)
   |(with_reducible exact sacristylaw01_lives.mono _)
   |(with_reducible exact sacristylaw01_ref.mono _ _)
   |(with_reducible exact sacristyref01_Small.mono _ _)
   |(with_reducible exact LeO.refl _)
   |(with_reducible exact LeO.none _)
   |(with_reducible refine LeO.ite ?_ ?_)
   |(with_reducible refine LeO.bind ?_ (fun _ => ?_))
   |exact ih0 _ _ _ _
   |exact nat_Nat_Uint.mono _ _
   |exact nat_New.mono _ _
   |exact sacristylaw01_Num.mono _ _
   |exact sacristylaw01_Same.mono _ _ _
   |exact sacristylaw01_lives.mono _
   |exact sacristylaw01_ref.mono _ _
   |exact sacristyref01_Small.mono _ _
   |exact LeO.none _
   |refine LeO.ite ?_ ?_
   |refine LeO.bind ?_ (fun _ => ?_)
set_option maxHeartbeats 8000000 in
set_option maxRecDepth 100000 in
theorem sacristylaw01_NatSmall.calls (k : Nat) (a0 : Int) (A1 : Option Addr) (c1 : Nat) (l1 : List Int) (r : Bool) (w : World) (hr1 : Kd.C (Kd.int .u8) w A1 l1.length l1) (hc1 : l1.length ≤ c1) (h : sacristylaw01_NatSmall.f k a0 l1 = some r) :
  Calls Try.prog 11 #[.int .u64 a0,.slice A1 l1.length c1] w fun e w' => e = .returned (.bool r) ∧ Below w.heap.size w w':=by
 have HR1:=Aside0.mk hr1
 have HC1:=Aside0.mk hc1
 clear hr1 hc1
 have HB:=Aside0.mk (Below.refl w.heap.size w)
 have H : ((sacristylaw01_lives.f k).bind fun t824 => (if t824 = true then ((nat_New.f k a0).bind fun t825 => ((nat_Nat_Uint.f k t825).bind fun bt828 => ((sacristylaw01_Num.f k l1).bind fun t830 => ((nat_Nat_Uint.f k t830).bind fun bt833 => ((sacristylaw01_ref.f k l1).bind fun t835 => (if bt828.2 = true then (if bt828.1 = a0 then ((nat_New.f k a0).bind fun t838 => ((sacristyref01_Small.f k a0).bind fun t841 => ((sacristylaw01_Same.f k t838 t841).bind fun t844 => (if t844 = true then (sacristylaw01_NatSmall.j0 k bt833.1 bt833.2 t835 (bt833.2 != (decide ((t835.length : Int) ≤ 64)))) else (sacristylaw01_NatSmall.j0 k bt833.1 bt833.2 t835 true))))) else (sacristylaw01_NatSmall.j0 k bt833.1 bt833.2 t835 true)) else (sacristylaw01_NatSmall.j0 k bt833.1 bt833.2 t835 true))))))) else (none))) = some r:=h
 clear h
 obtain ⟨t824,A3,H⟩:=qH H
 by_cases c4 : t824 = true
 ·subst c4
  rw [if_pos rfl] at H
  obtain ⟨t825,A5,H⟩:=qH H
  obtain ⟨⟨t828,t829⟩,A6,H⟩:=qH H
  dsimp only at H
  obtain ⟨t830,A7,H⟩:=qH H
  obtain ⟨⟨t833,t834⟩,A8,H⟩:=qH H
  dsimp only at H
  obtain ⟨t835,A9,H⟩:=qH H
  have HC10:=Aside0.mk H
  clear H
  go_enter Try.func11,Try.ntmps11
  go_upto_region 6 with (first|((with_reducible refine gate_callee (f:=34) rfl ?_);refine gL (some 10) Try.func34 #[] ?_;(with_reducible refine (sacristylaw01_lives.calls k  true _ A3.out).mono ?_);rintro e w11 ⟨rfl,hb⟩;refine ⟨_,rfl,?_⟩;replace HB:=qs HB hb;clear hb)|((with_reducible refine gate_callee (f:=54) rfl ?_);refine gL (some 14) Try.func54 #[.int .u64 a0] ?_;(with_reducible refine (nat_New.calls k a0 t825 _ A5.out).mono ?_);rintro e w12 ⟨v826,rfl,ho0,hb⟩;refine ⟨_,rfl,?_⟩;have HO827:=Aside0.mk (Kd.V_lower (Kd.V_mono (ok':=fun k_ => True) ho0 (fun k_ hk_ => trivial)) (below_size (qS HB)));replace HB:=qs HB hb;clear hb ho0;obtain ⟨Ao13,co13,eo13⟩:=Kd.V_slice HO827.out;subst eo13)|((with_reducible refine gate_callee (f:=55) rfl ?_);refine gL (some 15) Try.func55 #[.agg #[.slice Ao13 t825.length co13]] ?_;(with_reducible refine (nat_Nat_Uint.calls k _ _ t825 t828 t829 _ ?side1 ?side2 A6.out).mono ?_);(case side1 => exact qCV HO827);(case side2 => exact qL HO827);rintro e w14 ⟨rfl,hb⟩;refine ⟨_,rfl,?_⟩;replace HO827:=qVb HO827 hb;replace HB:=qs HB hb;clear hb)|((with_reducible refine gate_callee (f:=40) rfl ?_);refine gL (some 20) Try.func40 #[.slice A1 l1.length c1] ?_;(with_reducible refine (sacristylaw01_Num.calls k _ _ l1 t830 _ ?side1 ?side2 A7.out).mono ?_);(case side1 => exact qCB HR1 HB);(case side2 => exact HC1.out);rintro e w15 ⟨v831,rfl,ho0,hb⟩;refine ⟨_,rfl,?_⟩;replace HO827:=qVb HO827 hb;have HO832:=Aside0.mk (Kd.V_lower (Kd.V_mono (ok':=fun k_ => True) ho0 (fun k_ hk_ => trivial)) (below_size (qS HB)));replace HB:=qs HB hb;clear hb ho0;obtain ⟨Ao16,co16,eo16⟩:=Kd.V_slice HO832.out;subst eo16)|((with_reducible refine gate_callee (f:=55) rfl ?_);refine gL (some 21) Try.func55 #[.agg #[.slice Ao16 t830.length co16]] ?_;(with_reducible refine (nat_Nat_Uint.calls k _ _ t830 t833 t834 _ ?side1 ?side2 A8.out).mono ?_);(case side1 => exact qCV HO832);(case side2 => exact qL HO832);rintro e w17 ⟨rfl,hb⟩;refine ⟨_,rfl,?_⟩;replace HO827:=qVb HO827 hb;replace HO832:=qVb HO832 hb;replace HB:=qs HB hb;clear hb)|((with_reducible refine gate_callee (f:=41) rfl ?_);refine gL (some 25) Try.func41 #[.slice A1 l1.length c1] ?_;(with_reducible refine (sacristylaw01_ref.calls k _ _ l1 t835 _ ?side1 ?side2 A9.out).mono ?_);(case side1 => exact qCB HR1 HB);(case side2 => exact HC1.out);rintro e w18 ⟨v836,rfl,ho0,hb⟩;refine ⟨_,rfl,?_⟩;replace HO827:=qVb HO827 hb;replace HO832:=qVb HO832 hb;have HO837:=Aside0.mk (Kd.V_lower (Kd.V_mono (ok':=fun k_ => True) ho0 (fun k_ hk_ => trivial)) (below_size (qS HB)));replace HB:=qs HB hb;clear hb ho0))
  (try simp only [Act.put,List.setIfInBounds_toArray,List.set_cons_zero,List.set_cons_succ])
  go_cut [47] (fun v47 wc => ∃ (kq : Nat) (x47_9 : Bool),v47 = .bool x47_9 ∧ Aside0 (sacristylaw01_NatSmall.j0 kq t833 t834 t835 x47_9 = some r) ∧ Aside0 (kq ≤ k) ∧ Aside0 (Kd.V Kd.bool 4 wc w.heap.size (fun _ => True) v836 t835) ∧ Aside0 (Below w.heap.size w wc))
  case first =>
   have H:=HC10.out
   clear HC10
   by_cases c19 : t829 = true
   ·subst c19
    rw [if_pos rfl] at H
    by_cases c20 : t828 = a0
    ·rw [if_pos c20] at H
     have c20b0 : (t828 == a0) = true:=beq_iff_eq.mpr c20
     have c20b1 : (t828 != a0) = false:=bne_eq_false_iff_eq.mpr c20
     clear c20
     (first|rw [c20b0]|(simp only [i64_w,i32_w];rw [c20b0])|skip)
     obtain ⟨t838,A21,H⟩:=qH H
     obtain ⟨t841,A22,H⟩:=qH H
     obtain ⟨t844,A23,H⟩:=qH H
     by_cases c24 : t844 = true
     ·subst c24
      rw [if_pos rfl] at H
      have H':=Aside0.mk H
      clear H
      go_wp2_with (first|(go_at_call 54;(with_reducible refine (nat_New.calls k a0 t838 _ A21.out).mono ?_);rintro e w25 ⟨v839,rfl,ho0,hb⟩;replace HO827:=qVb HO827 hb;replace HO832:=qVb HO832 hb;replace HO837:=qVb HO837 hb;have HO840:=Aside0.mk (Kd.V_lower (Kd.V_mono (ok':=fun k_ => True) ho0 (fun k_ hk_ => trivial)) (below_size (qS HB)));replace HB:=qs HB hb;clear hb ho0)|(go_at_call 56;(with_reducible refine (sacristyref01_Small.calls k a0 t841 _ A22.out).mono ?_);rintro e w26 ⟨v842,rfl,ho0,hb⟩;replace HO827:=qVd HO827 ho0 hb;replace HO832:=qVd HO832 ho0 hb;replace HO837:=qVd HO837 ho0 hb;replace HO840:=qVd HO840 ho0 hb;have HO843:=Aside0.mk (Kd.R_lower ho0 (below_size (qS HB)));replace HB:=qs HB hb;clear hb ho0;obtain ⟨Ao27,co27,eo27⟩:=Kd.V_slice HO840.out;subst eo27;obtain ⟨Ao28,co28,eo28⟩:=Kd.R_slice HO843.out;subst eo28)|(go_at_call 37;(with_reducible refine (sacristylaw01_Same.calls k _ _ t838 _ _ t841 true _ ?side1 ?side2 ?side3 ?side4 A23.out).mono ?_);(case side1 => exact qCV HO840);(case side2 => exact qL HO840);(case side3 => exact qCR HO843);(case side4 => exact qLR HO843);rintro e w29 ⟨rfl,hb⟩;replace HO827:=qVb HO827 hb;replace HO832:=qVb HO832 hb;replace HO837:=qVb HO837 hb;replace HO840:=qVb HO840 hb;replace HO843:=qRb HO843 hb;replace HB:=qs HB hb;clear hb;obtain ⟨Ao30,co30,eo30⟩:=Kd.V_slice HO837.out;subst eo30))
      go_meet
      case rel => exact ⟨_,((t834 != (decide ((t835.length : Int) ≤ 64)))),(by first|rfl|(simp;done)|(simp [*];done)),H',⟨by first|omega|exact Nat.le_refl _⟩,⟨qVm HO837⟩,⟨qS HB⟩⟩
     ·replace c24:=Bool.eq_false_iff.mpr c24
      subst c24
      rw [qFT] at H
      have H':=Aside0.mk H
      clear H
      go_wp2_with (first|(go_at_call 54;(with_reducible refine (nat_New.calls k a0 t838 _ A21.out).mono ?_);rintro e w31 ⟨v839,rfl,ho0,hb⟩;replace HO827:=qVb HO827 hb;replace HO832:=qVb HO832 hb;replace HO837:=qVb HO837 hb;have HO840:=Aside0.mk (Kd.V_lower (Kd.V_mono (ok':=fun k_ => True) ho0 (fun k_ hk_ => trivial)) (below_size (qS HB)));replace HB:=qs HB hb;clear hb ho0)|(go_at_call 56;(with_reducible refine (sacristyref01_Small.calls k a0 t841 _ A22.out).mono ?_);rintro e w32 ⟨v842,rfl,ho0,hb⟩;replace HO827:=qVd HO827 ho0 hb;replace HO832:=qVd HO832 ho0 hb;replace HO837:=qVd HO837 ho0 hb;replace HO840:=qVd HO840 ho0 hb;have HO843:=Aside0.mk (Kd.R_lower ho0 (below_size (qS HB)));replace HB:=qs HB hb;clear hb ho0;obtain ⟨Ao33,co33,eo33⟩:=Kd.V_slice HO840.out;subst eo33;obtain ⟨Ao34,co34,eo34⟩:=Kd.R_slice HO843.out;subst eo34)|(go_at_call 37;(with_reducible refine (sacristylaw01_Same.calls k _ _ t838 _ _ t841 false _ ?side1 ?side2 ?side3 ?side4 A23.out).mono ?_);(case side1 => exact qCV HO840);(case side2 => exact qL HO840);(case side3 => exact qCR HO843);(case side4 => exact qLR HO843);rintro e w35 ⟨rfl,hb⟩;replace HO827:=qVb HO827 hb;replace HO832:=qVb HO832 hb;replace HO837:=qVb HO837 hb;replace HO840:=qVb HO840 hb;replace HO843:=qRb HO843 hb;replace HB:=qs HB hb;clear hb))
      go_meet
      case rel => exact ⟨_,(true),(by first|rfl|(simp;done)|(simp [*];done)),H',⟨by first|omega|exact Nat.le_refl _⟩,⟨qVm HO837⟩,⟨qS HB⟩⟩
    ·rw [if_neg c20] at H
     have c20b0 : (t828 == a0) = false:=beq_eq_false_iff_ne.mpr c20
     have c20b1 : (t828 != a0) = true:=bne_iff_ne.mpr c20
     (first|rw [c20b0]|(simp only [i64_w,i32_w];rw [c20b0])|skip)
     have H':=Aside0.mk H
     clear H
     go_wp2
     go_meet
     case rel => exact ⟨_,(true),(by first|rfl|(simp;done)|(simp [*];done)),H',⟨by first|omega|exact Nat.le_refl _⟩,⟨qVm HO837⟩,⟨qS HB⟩⟩
   ·replace c19:=Bool.eq_false_iff.mpr c19
    subst c19
    rw [qFT] at H
    have H':=Aside0.mk H
    clear H
    go_wp2
    go_meet
    case rel => exact ⟨_,(true),(by first|rfl|(simp;done)|(simp [*];done)),H',⟨by first|omega|exact Nat.le_refl _⟩,⟨qVm HO837⟩,⟨qS HB⟩⟩
  case rest =>
   clear HC10
   try clear c1
   try clear c2
   try clear p2
   try clear c3
   try clear c4
   try clear c5
   try clear c11
   try clear c19
   try clear c20
   try clear c20b0
   try clear c20b1
   try clear c24
   try clear c34
   obtain ⟨kq,x47_9,rfl,HA,HJ9,HO_9,HB⟩:=hcut
   cases kq with
   |zero => exact absurd HA.out (by simp [sacristylaw01_NatSmall.j0])
   |succ kj9 =>
    have H:=HA.out
    clear HA
    simp only [sacristylaw01_NatSmall.j0] at H
    by_cases c36 : x47_9 = true
    ·subst c36
     rw [if_pos rfl] at H
     exact absurd H (by simp)
    ·replace c36:=Bool.eq_false_iff.mpr c36
     subst c36
     rw [qFT] at H
     by_cases c37 : t834 = true
     ·subst c37
      rw [if_pos rfl] at H
      obtain ⟨t845,A38,H⟩:=qH H
      obtain ⟨t848,A39,H⟩:=qH H
      by_cases c40 : t848 = true
      ·subst c40
       rw [if_pos rfl] at H
       obtain rfl:=Option.some.inj H
       go_wp2_with (first|(go_at_call 54;(with_reducible refine (nat_New.calls kj9 t833 t845 _ A38.out).mono ?_);rintro e w41 ⟨v846,rfl,ho0,hb⟩;replace HO_9:=qVb HO_9 hb;have HO847:=Aside0.mk (Kd.V_lower (Kd.V_mono (ok':=fun k_ => True) ho0 (fun k_ hk_ => trivial)) (below_size (qS HB)));replace HB:=qs HB hb;clear hb ho0;obtain ⟨Ao42,co42,eo42⟩:=Kd.V_slice HO847.out;subst eo42;obtain ⟨Ao43,co43,eo43⟩:=Kd.V_slice HO_9.out;subst eo43)|(go_at_call 37;(with_reducible refine (sacristylaw01_Same.calls kj9 _ _ t845 _ _ t835 true _ ?side1 ?side2 ?side3 ?side4 A39.out).mono ?_);(case side1 => exact qCV HO847);(case side2 => exact qL HO847);(case side3 => exact qCV HO_9);(case side4 => exact qL HO_9);rintro e w44 ⟨rfl,hb⟩;replace HO_9:=qVb HO_9 hb;replace HO847:=qVb HO847 hb;replace HB:=qs HB hb;clear hb))
       (first|go_ret|(refine ⟨_,results_tmp rfl _ _ _,?_⟩))
       exact ⟨by first|rfl|(simp [errW_none,errW_some] <;> rfl)|(simp [*,errW_none,errW_some] <;> rfl),qS HB⟩
      ·replace c40:=Bool.eq_false_iff.mpr c40
       subst c40
       rw [qFT] at H
       exact absurd H (by simp)
     ·replace c37:=Bool.eq_false_iff.mpr c37
      subst c37
      rw [qFT] at H
      obtain rfl:=Option.some.inj H
      go_wp2
      (first|go_ret|(refine ⟨_,results_tmp rfl _ _ _,?_⟩))
      exact ⟨by first|rfl|(simp [errW_none,errW_some] <;> rfl)|(simp [*,errW_none,errW_some] <;> rfl),qS HB⟩
 ·replace c4:=Bool.eq_false_iff.mpr c4
  subst c4
  rw [qFT] at H
  exact absurd H (by simp)
def sacristylaw01_NatSmall.Pure : Prop:=∀ (a0 : Int) (l1 : List Int),(Lit.int .u64 a0).wf = true → l1.length ≤ maxLen → l1.length * 1 ≤ 140737488351232 → (∀ x ∈ l1,(Lit.int .u8 x).wf = true) → ∃ k,sacristylaw01_NatSmall.f k a0 l1 = some true
theorem sacristylaw01_NatSmall.walk (P : sacristylaw01_NatSmall.Pure) (a0 : Int) (a1 : Option Addr) (len1 cap1 : Nat) (z1 : List Int) (w : World) (w0 : (Lit.int .u64 a0).wf = true) (w1 : (a1 = none ∧ len1 = 0 ∧ cap1 = 0 ∧ z1 = []) ∨ ∃ x,a1 = some x ∧ len1 ≤ cap1 ∧ cap1 ≤ maxLen ∧ z1.length = cap1 ∧ (∀ i,i < z1.length → w.cell? (x.add i) = some (.int .u8 (z1.getD i 0))) ∧ ∀ n ∈ z1,(Lit.int .u8 n).wf = true) (y1 : len1 * 1 ≤ 140737488351232) :
  Calls Try.prog 11 #[.int .u64 a0,.slice a1 len1 cap1] w fun e w' => e = .returned (.bool true) ∧ Below w.heap.size w w':=by
 obtain ⟨l1,rfl,hr1,hm1,hw1,hc1⟩:=ReadsInt.ofRowC w1
 obtain ⟨k,h⟩:=P a0 l1 w0 hm1 y1 hw1
 refine (sacristylaw01_NatSmall.calls k a0 _ _ l1 true w (Kd.C_of_reads (d:=(0 : Int)) (h1:=fun _ => rfl) hr1) hc1 h).mono ?_
 rintro e w' ⟨rfl,hd⟩
 exact ⟨rfl,hd⟩
end Go.Proofs.Yteejcpbngnojkaa.P
end
section
namespace Go.Proofs.Yteejcpbngnojkaa.P
open Go.RowKit Go.Proofs.YteejcpbngnojkaaW.PrintWords Go.Proofs.YteejcpbngnojkaaW.PrintLast Go.Proofs.YteejcpbngnojkaaW.PrintMore
attribute [local go_sem] max2_int min2_int max_two min_two max_three min_three max_four min_four
set_option linter.unusedVariables false
set_option linter.unusedSimpArgs false
def sacristyref01_Cmp.l0 : Nat → List Bool → List Bool → Int → Option (Int)
 |0,_,_,_ => none
 |k + 1,x0,x1,x5 => if x5 ≥ 0 then (if 0 ≤ x5 then (if x5 < (x0.length : Int) then (if x5 < (x1.length : Int) then (if ((rdOf false x0 x5) != (rdOf false x1 x5)) = true then (if rdOf false x1 x5 = true then (some (-1)) else (some 1)) else (sacristyref01_Cmp.l0 k x0 x1 (wrap64 (x5 - 1)))) else (none)) else (none)) else (none)) else (some 0)
def sacristyref01_Cmp.f (k : Nat) (l0 : List Bool) (l1 : List Bool) : Option (Int):=if (l0.length : Int) < (l1.length : Int) then (some (-1)) else (if (l0.length : Int) > (l1.length : Int) then (some 1) else (sacristyref01_Cmp.l0 k l0 l1 (wrap64 ((l0.length : Int) - 1))))
theorem sacristyref01_Cmp.mono_l : ∀ k,(∀ y0 y1 y2,LeO (sacristyref01_Cmp.l0 k y0 y1 y2) (sacristyref01_Cmp.l0 (k + 1) y0 y1 y2))
 |0 => fun _ _ _ r h => by simp [sacristyref01_Cmp.l0] at h
 |k + 1 => by
  have ih0:=sacristyref01_Cmp.mono_l k
  ·intro y0 y1 y2
   unfold sacristyref01_Cmp.l0
   repeat' first
   |(with_reducible exact ih0 _ _ _)
   |(with_reducible exact LeO.refl _)
   |(with_reducible exact LeO.none _)
   |(with_reducible refine LeO.ite ?_ ?_)
   |(with_reducible refine LeO.bind ?_ (fun _ => ?_))
   |exact ih0 _ _ _
   |exact LeO.none _
   |refine LeO.ite ?_ ?_
   |refine LeO.bind ?_ (fun _ => ?_)
theorem sacristyref01_Cmp.mono : ∀ a0 a1 k,LeO (sacristyref01_Cmp.f k a0 a1) (sacristyref01_Cmp.f (k + 1) a0 a1):=by
 intro a0 a1 k
 have ih0:=sacristyref01_Cmp.mono_l k
 unfold sacristyref01_Cmp.f
 repeat' first
   |(with_reducible exact ih0 _ _ _)
   |(with_reducible exact LeO.refl _)
   |(with_reducible exact LeO.none _)
   |(with_reducible refine LeO.ite ?_ ?_)
   |(with_reducible refine LeO.bind ?_ (fun _ => ?_))
   |exact ih0 _ _ _
   |exact LeO.none _
   |refine LeO.ite ?_ ?_
   |refine LeO.bind ?_ (fun _ => ?_)
end Go.Proofs.Yteejcpbngnojkaa.P
end
section
namespace Go.Proofs.Yteejcpbngnojkaa.P
open Go.RowKit Go.Proofs.YteejcpbngnojkaaW.PrintWords Go.Proofs.YteejcpbngnojkaaW.PrintLast Go.Proofs.YteejcpbngnojkaaW.PrintMore
attribute [local go_sem] max2_int min2_int max_two min_two max_three min_three max_four min_four
set_option linter.unusedVariables false
set_option linter.unusedSimpArgs false
def sacristyref01_at.f (l0 : List Bool) (a1 : Int) : Option (Int):=if a1 ≥ 0 then (if a1 < (l0.length : Int) then (if 0 ≤ a1 then (if rdOf false l0 a1 = true then (some 1) else (some 0)) else (none)) else (some 0)) else (some 0)
end Go.Proofs.Yteejcpbngnojkaa.P
end
section
namespace Go.Proofs.Yteejcpbngnojkaa.P
open Go.RowKit Go.Proofs.YteejcpbngnojkaaW.PrintWords Go.Proofs.YteejcpbngnojkaaW.PrintLast Go.Proofs.YteejcpbngnojkaaW.PrintMore
attribute [local go_sem] max2_int min2_int max_two min_two max_three min_three max_four min_four
set_option linter.unusedVariables false
set_option linter.unusedSimpArgs false
def sacristyref01_Sub.l0 : Nat → List Bool → List Bool → List Bool → Int → Int → Option (List Bool)
 |0,_,_,_,_,_ => none
 |k + 1,x0,x1,x5,x6,x7 => if x7 < (x0.length : Int) then ((sacristyref01_at.f x0 x7).bind fun t738 => ((sacristyref01_at.f x1 x7).bind fun t739 => (if (wrap64 ((wrap64 (t738 - t739)) - x6)) < 0 then (if x5.length < 140737488355328 then (sacristyref01_Sub.l0 k x0 x1 (x5 ++ [((wrap64 ((wrap64 ((wrap64 (t738 - t739)) - x6)) + 2)) == 1)]) 1 (wrap64 (x7 + 1))) else (none)) else (if x5.length < 140737488355328 then (sacristyref01_Sub.l0 k x0 x1 (x5 ++ [((wrap64 ((wrap64 (t738 - t739)) - x6)) == 1)]) 0 (wrap64 (x7 + 1))) else (none))))) else ((sacristyref01_Trim.f k x5).bind fun t735 => (some t735))
def sacristyref01_Sub.f (k : Nat) (l0 : List Bool) (l1 : List Bool) : Option (List Bool):=sacristyref01_Sub.l0 k l0 l1 (([] : List Bool)) 0 0
theorem sacristyref01_Sub.mono_l : ∀ k,(∀ y0 y1 y2 y3 y4,LeO (sacristyref01_Sub.l0 k y0 y1 y2 y3 y4) (sacristyref01_Sub.l0 (k + 1) y0 y1 y2 y3 y4))
 |0 => fun _ _ _ _ _ r h => by simp [sacristyref01_Sub.l0] at h
 |k + 1 => by
  have ih0:=sacristyref01_Sub.mono_l k
  ·intro y0 y1 y2 y3 y4
   unfold sacristyref01_Sub.l0
   repeat' first
   |(with_reducible exact ih0 _ _ _ _ _)
   |(with_reducible exact sacristyref01_Trim.mono _ _)
   |(with_reducible exact LeO.refl _)
   |(with_reducible exact LeO.none _)
   |(with_reducible refine LeO.ite ?_ ?_)
   |(with_reducible refine LeO.bind ?_ (fun _ => ?_))
   |exact ih0 _ _ _ _ _
   |exact sacristyref01_Trim.mono _ _
   |exact LeO.none _
   |refine LeO.ite ?_ ?_
   |refine LeO.bind ?_ (fun _ => ?_)
theorem sacristyref01_Sub.mono : ∀ a0 a1 k,LeO (sacristyref01_Sub.f k a0 a1) (sacristyref01_Sub.f (k + 1) a0 a1):=by
 intro a0 a1 k
 have ih0:=sacristyref01_Sub.mono_l k
 unfold sacristyref01_Sub.f
 repeat' first
   |(with_reducible exact ih0 _ _ _ _ _)
   |(with_reducible exact sacristyref01_Trim.mono _ _)
   |(with_reducible exact LeO.refl _)
   |(with_reducible exact LeO.none _)
   |(with_reducible refine LeO.ite ?_ ?_)
   |(with_reducible refine LeO.bind ?_ (fun _ => ?_))
   |exact ih0 _ _ _ _ _
   |exact sacristyref01_Trim.mono _ _
   |exact LeO.none _
   |refine LeO.ite ?_ ?_
   |refine LeO.bind ?_ (fun _ => ?_)
end Go.Proofs.Yteejcpbngnojkaa.P
end
section
namespace Go.Proofs.Yteejcpbngnojkaa.P
open Go.RowKit Go.Proofs.YteejcpbngnojkaaW.PrintWords Go.Proofs.YteejcpbngnojkaaW.PrintLast Go.Proofs.YteejcpbngnojkaaW.PrintMore
attribute [local go_sem] max2_int min2_int max_two min_two max_three min_three max_four min_four
set_option linter.unusedVariables false
set_option linter.unusedSimpArgs false
def sacristyref01_Div.l0 : Nat → List Bool → List Bool → List Bool → List Bool → Int → Option (List Bool × List Bool)
 |0,_,_,_,_,_ => none
 |k + 1,x0,x1,x6,x7,x8 => if x8 ≥ 0 then (if 0 ≤ x8 then (if x8 < (x0.length : Int) then ((some (([rdOf false x0 x8] : List Bool) : List Bool)).bind fun y756 => (if y756.length + x7.length < 140737488355328 then ((sacristyref01_Trim.f k (y756 ++ x7)).bind fun t762 => ((sacristyref01_Cmp.f k t762 x1).bind fun t765 => (if t765 ≥ 0 then ((sacristyref01_Sub.f k t762 x1).bind fun t766 => (if x8 < (x6.length : Int) then (sacristyref01_Div.l0 k x0 x1 (x6.set (x8 : Int).toNat true) t766 (wrap64 (x8 - 1))) else (none))) else (sacristyref01_Div.l0 k x0 x1 x6 t762 (wrap64 (x8 - 1)))))) else (none))) else (none)) else (none)) else ((sacristyref01_Trim.f k x6).bind fun t752 => (some (t752,x7)))
def sacristyref01_Div.f (k : Nat) (l0 : List Bool) (l1 : List Bool) : Option (List Bool × List Bool):=if 0 ≤ (l0.length : Int) then (if ((l0.length : Int) : Int).toNat ≤ 281474976710656 then (sacristyref01_Div.l0 k l0 l1 (List.replicate ((l0.length : Int) : Int).toNat false) (([] : List Bool)) (wrap64 ((l0.length : Int) - 1))) else (none)) else (none)
theorem sacristyref01_Div.mono_l : ∀ k,(∀ y0 y1 y2 y3 y4,LeO (sacristyref01_Div.l0 k y0 y1 y2 y3 y4) (sacristyref01_Div.l0 (k + 1) y0 y1 y2 y3 y4))
 |0 => fun _ _ _ _ _ r h => by simp [sacristyref01_Div.l0] at h
 |k + 1 => by
  have ih0:=sacristyref01_Div.mono_l k
  ·intro y0 y1 y2 y3 y4
   unfold sacristyref01_Div.l0
   repeat' first
   |(with_reducible exact ih0 _ _ _ _ _)
   |(with_reducible exact sacristyref01_Cmp.mono _ _ _)
   |(with_reducible exact sacristyref01_Sub.mono _ _ _)
   |(with_reducible exact sacristyref01_Trim.mono _ _)
   |(with_reducible exact LeO.refl _)
   |(with_reducible exact LeO.none _)
   |(with_reducible refine LeO.ite ?_ ?_)
   |(with_reducible refine LeO.bind ?_ (fun _ => ?_))
   |exact ih0 _ _ _ _ _
   |exact sacristyref01_Cmp.mono _ _ _
   |exact sacristyref01_Sub.mono _ _ _
   |exact sacristyref01_Trim.mono _ _
   |exact LeO.none _
   |refine LeO.ite ?_ ?_
   |refine LeO.bind ?_ (fun _ => ?_)
theorem sacristyref01_Div.mono : ∀ a0 a1 k,LeO (sacristyref01_Div.f k a0 a1) (sacristyref01_Div.f (k + 1) a0 a1):=by
 intro a0 a1 k
 have ih0:=sacristyref01_Div.mono_l k
 unfold sacristyref01_Div.f
 repeat' first
   |(with_reducible exact ih0 _ _ _ _ _)
   |(with_reducible exact sacristyref01_Cmp.mono _ _ _)
   |(with_reducible exact sacristyref01_Sub.mono _ _ _)
   |(with_reducible exact sacristyref01_Trim.mono _ _)
   |(with_reducible exact LeO.refl _)
   |(with_reducible exact LeO.none _)
   |(with_reducible refine LeO.ite ?_ ?_)
   |(with_reducible refine LeO.bind ?_ (fun _ => ?_))
   |exact ih0 _ _ _ _ _
   |exact sacristyref01_Cmp.mono _ _ _
   |exact sacristyref01_Sub.mono _ _ _
   |exact sacristyref01_Trim.mono _ _
   |exact LeO.none _
   |refine LeO.ite ?_ ?_
   |refine LeO.bind ?_ (fun _ => ?_)
end Go.Proofs.Yteejcpbngnojkaa.P
end
section
namespace Go.Proofs.Yteejcpbngnojkaa.P
open Go.RowKit Go.Proofs.YteejcpbngnojkaaW.PrintWords Go.Proofs.YteejcpbngnojkaaW.PrintLast Go.Proofs.YteejcpbngnojkaaW.PrintMore
attribute [local go_sem] max2_int min2_int max_two min_two max_three min_three max_four min_four
set_option linter.unusedVariables false
set_option linter.unusedSimpArgs false
def sacristyref01_Gcd.l0 : Nat → List Bool → List Bool → Option (List Bool)
 |0,_,_ => none
 |k + 1,x0,x1 => if (x1.length : Int) > 0 then ((sacristyref01_Div.f k x0 x1).bind fun bt770 => (sacristyref01_Gcd.l0 k x1 bt770.2)) else (some x0)
def sacristyref01_Gcd.f (k : Nat) (l0 : List Bool) (l1 : List Bool) : Option (List Bool):=sacristyref01_Gcd.l0 k l0 l1
theorem sacristyref01_Gcd.mono_l : ∀ k,(∀ y0 y1,LeO (sacristyref01_Gcd.l0 k y0 y1) (sacristyref01_Gcd.l0 (k + 1) y0 y1))
 |0 => fun _ _ r h => by simp [sacristyref01_Gcd.l0] at h
 |k + 1 => by
  have ih0:=sacristyref01_Gcd.mono_l k
  ·intro y0 y1
   unfold sacristyref01_Gcd.l0
   repeat' first
   |(with_reducible exact ih0 _ _)
   |(with_reducible exact sacristyref01_Div.mono _ _ _)
   |(with_reducible exact LeO.refl _)
   |(with_reducible exact LeO.none _)
   |(with_reducible refine LeO.ite ?_ ?_)
   |(with_reducible refine LeO.bind ?_ (fun _ => ?_))
   |exact ih0 _ _
   |exact sacristyref01_Div.mono _ _ _
   |exact LeO.none _
   |refine LeO.ite ?_ ?_
   |refine LeO.bind ?_ (fun _ => ?_)
theorem sacristyref01_Gcd.mono : ∀ a0 a1 k,LeO (sacristyref01_Gcd.f k a0 a1) (sacristyref01_Gcd.f (k + 1) a0 a1):=by
 intro a0 a1 k
 have ih0:=sacristyref01_Gcd.mono_l k
 unfold sacristyref01_Gcd.f
 repeat' first
   |(with_reducible exact ih0 _ _)
   |(with_reducible exact sacristyref01_Div.mono _ _ _)
   |(with_reducible exact LeO.refl _)
   |(with_reducible exact LeO.none _)
   |(with_reducible refine LeO.ite ?_ ?_)
   |(with_reducible refine LeO.bind ?_ (fun _ => ?_))
   |exact ih0 _ _
   |exact sacristyref01_Div.mono _ _ _
   |exact LeO.none _
   |refine LeO.ite ?_ ?_
   |refine LeO.bind ?_ (fun _ => ?_)
end Go.Proofs.Yteejcpbngnojkaa.P
end
section
namespace Go.Proofs.Yteejcpbngnojkaa.P
open Go.RowKit Go.Proofs.YteejcpbngnojkaaW.PrintWords Go.Proofs.YteejcpbngnojkaaW.PrintLast Go.Proofs.YteejcpbngnojkaaW.PrintMore
attribute [local go_sem] max2_int min2_int max_two min_two max_three min_three max_four min_four
set_option linter.unusedVariables false
set_option linter.unusedSimpArgs false
mutual
def sacristyref01_Add.l0 : Nat → List Bool → List Bool → List Bool → Int → Int → Option (List Bool)
 |0,_,_,_,_,_ => none
 |k + 1,x0,x1,x5,x6,x7 => if x7 < (x0.length : Int) then (sacristyref01_Add.j1 k x0 x1 x5 x6 x7 true) else (if x7 < (x1.length : Int) then (sacristyref01_Add.j1 k x0 x1 x5 x6 x7 true) else (sacristyref01_Add.j1 k x0 x1 x5 x6 x7 (decide (x6 > 0))))
def sacristyref01_Add.j1 : Nat → List Bool → List Bool → List Bool → Int → Int → Bool → Option (List Bool)
 |0,_,_,_,_,_,_ => none
 |k + 1,x0,x1,x5,x6,x7,x23 => if x23 = true then ((sacristyref01_at.f x0 x7).bind fun t853 => ((sacristyref01_at.f x1 x7).bind fun t854 => (if x5.length < 140737488355328 then (sacristyref01_Add.l0 k x0 x1 (x5 ++ [((Int.tmod (wrap64 ((wrap64 (t853 + t854)) + x6)) 2) == 1)]) (wrap64 (Int.tdiv (wrap64 ((wrap64 (t853 + t854)) + x6)) 2)) (wrap64 (x7 + 1))) else (none)))) else ((sacristyref01_Trim.f k x5).bind fun t858 => (some t858))
end
def sacristyref01_Add.f (k : Nat) (l0 : List Bool) (l1 : List Bool) : Option (List Bool):=sacristyref01_Add.l0 k l0 l1 (([] : List Bool)) 0 0
theorem sacristyref01_Add.mono_l : ∀ k,(∀ y0 y1 y2 y3 y4,LeO (sacristyref01_Add.l0 k y0 y1 y2 y3 y4) (sacristyref01_Add.l0 (k + 1) y0 y1 y2 y3 y4)) ∧ (∀ y0 y1 y2 y3 y4 y5,LeO (sacristyref01_Add.j1 k y0 y1 y2 y3 y4 y5) (sacristyref01_Add.j1 (k + 1) y0 y1 y2 y3 y4 y5))
 |0 => ⟨fun _ _ _ _ _ r h => by simp [sacristyref01_Add.l0] at h,fun _ _ _ _ _ _ r h => by simp [sacristyref01_Add.j1] at h⟩
 |k + 1 => by
  obtain ⟨ih0,ih1⟩:=sacristyref01_Add.mono_l k
  refine ⟨?_,?_⟩
  ·intro y0 y1 y2 y3 y4
   unfold sacristyref01_Add.l0
   repeat' first
   |(with_reducible exact ih0 _ _ _ _ _)
   |(with_reducible exact ih1 _ _ _ _ _ _)
   |(with_reducible exact sacristyref01_Trim.mono _ _)
   |(with_reducible exact LeO.refl _)
   |(with_reducible exact LeO.none _)
   |(with_reducible refine LeO.ite ?_ ?_)
   |(with_reducible refine LeO.bind ?_ (fun _ => ?_))
   |exact ih0 _ _ _ _ _
   |exact ih1 _ _ _ _ _ _
   |exact sacristyref01_Trim.mono _ _
   |exact LeO.none _
   |refine LeO.ite ?_ ?_
   |refine LeO.bind ?_ (fun _ => ?_)
  ·intro y0 y1 y2 y3 y4 y5
   unfold sacristyref01_Add.j1
   repeat' first
   |(with_reducible exact ih0 _ _ _ _ _)
   |(with_reducible exact ih1 _ _ _ _ _ _)
   |(with_reducible exact sacristyref01_Trim.mono _ _)
   |(with_reducible exact LeO.refl _)
   |(with_reducible exact LeO.none _)
   |(with_reducible refine LeO.ite ?_ ?_)
   |(with_reducible refine LeO.bind ?_ (fun _ => ?_))
   |exact ih0 _ _ _ _ _
   |exact ih1 _ _ _ _ _ _
   |exact sacristyref01_Trim.mono _ _
   |exact LeO.none _
   |refine LeO.ite ?_ ?_
   |refine LeO.bind ?_ (fun _ => ?_)
theorem sacristyref01_Add.mono : ∀ a0 a1 k,LeO (sacristyref01_Add.f k a0 a1) (sacristyref01_Add.f (k + 1) a0 a1):=by
 intro a0 a1 k
 obtain ⟨ih0,ih1⟩:=sacristyref01_Add.mono_l k
 unfold sacristyref01_Add.f
 repeat' first
   |(with_reducible exact ih0 _ _ _ _ _)
   |(with_reducible exact ih1 _ _ _ _ _ _)
   |(with_reducible exact sacristyref01_Trim.mono _ _)
   |(with_reducible exact LeO.refl _)
   |(with_reducible exact LeO.none _)
   |(with_reducible refine LeO.ite ?_ ?_)
   |(with_reducible refine LeO.bind ?_ (fun _ => ?_))
   |exact ih0 _ _ _ _ _
   |exact ih1 _ _ _ _ _ _
   |exact sacristyref01_Trim.mono _ _
   |exact LeO.none _
   |refine LeO.ite ?_ ?_
   |refine LeO.bind ?_ (fun _ => ?_)
end Go.Proofs.Yteejcpbngnojkaa.P
end
section
namespace Go.Proofs.Yteejcpbngnojkaa.P
open Go.RowKit Go.Proofs.YteejcpbngnojkaaW.PrintWords Go.Proofs.YteejcpbngnojkaaW.PrintLast Go.Proofs.YteejcpbngnojkaaW.PrintMore
attribute [local go_sem] max2_int min2_int max_two min_two max_three min_three max_four min_four
set_option linter.unusedVariables false
set_option linter.unusedSimpArgs false
def sacristyref01_Shift.f (l0 : List Bool) (a1 : Int) : Option (List Bool):=if (l0.length : Int) = 0 then (some (([] : List Bool))) else (if 0 ≤ a1 then (if (a1 : Int).toNat ≤ 281474976710656 then ((some (List.replicate (a1 : Int).toNat false : List Bool)).bind fun y864 => (if y864.length + l0.length < 140737488355328 then (some (y864 ++ l0)) else (none))) else (none)) else (none))
end Go.Proofs.Yteejcpbngnojkaa.P
end
section
namespace Go.Proofs.Yteejcpbngnojkaa.P
open Go.RowKit Go.Proofs.YteejcpbngnojkaaW.PrintWords Go.Proofs.YteejcpbngnojkaaW.PrintLast Go.Proofs.YteejcpbngnojkaaW.PrintMore
attribute [local go_sem] max2_int min2_int max_two min_two max_three min_three max_four min_four
set_option linter.unusedVariables false
set_option linter.unusedSimpArgs false
def sacristyref01_Mul.l0 : Nat → List Bool → List Bool → List Bool → Int → Int → Option (List Bool)
 |0,_,_,_,_,_ => none
 |k + 1,x0,x5,x9,x10,x11 => if x11 < x10 then (if 0 ≤ x11 then (if x11 < (x9.length : Int) then (if rdOf false x9 x11 = true then ((sacristyref01_Shift.f x0 x11).bind fun t874 => ((sacristyref01_Add.f k x5 t874).bind fun t877 => (sacristyref01_Mul.l0 k x0 t877 x9 x10 (wrap64 (x11 + 1))))) else (sacristyref01_Mul.l0 k x0 x5 x9 x10 (wrap64 (x11 + 1)))) else (none)) else (none)) else (some x5)
def sacristyref01_Mul.f (k : Nat) (l0 : List Bool) (l1 : List Bool) : Option (List Bool):=sacristyref01_Mul.l0 k l0 (([] : List Bool)) l1 (l1.length : Int) 0
theorem sacristyref01_Mul.mono_l : ∀ k,(∀ y0 y1 y2 y3 y4,LeO (sacristyref01_Mul.l0 k y0 y1 y2 y3 y4) (sacristyref01_Mul.l0 (k + 1) y0 y1 y2 y3 y4))
 |0 => fun _ _ _ _ _ r h => by simp [sacristyref01_Mul.l0] at h
 |k + 1 => by
  have ih0:=sacristyref01_Mul.mono_l k
  ·intro y0 y1 y2 y3 y4
   unfold sacristyref01_Mul.l0
   repeat' first
   |(with_reducible exact ih0 _ _ _ _ _)
   |(with_reducible exact sacristyref01_Add.mono _ _ _)
   |(with_reducible exact LeO.refl _)
   |(with_reducible exact LeO.none _)
   |(with_reducible refine LeO.ite ?_ ?_)
   |(with_reducible refine LeO.bind ?_ (fun _ => ?_))
   |exact ih0 _ _ _ _ _
   |exact sacristyref01_Add.mono _ _ _
   |exact LeO.none _
   |refine LeO.ite ?_ ?_
   |refine LeO.bind ?_ (fun _ => ?_)
theorem sacristyref01_Mul.mono : ∀ a0 a1 k,LeO (sacristyref01_Mul.f k a0 a1) (sacristyref01_Mul.f (k + 1) a0 a1):=by
 intro a0 a1 k
 have ih0:=sacristyref01_Mul.mono_l k
 unfold sacristyref01_Mul.f
 repeat' first
   |(with_reducible exact ih0 _ _ _ _ _)
   |(with_reducible exact sacristyref01_Add.mono _ _ _)
   |(with_reducible exact LeO.refl _)
   |(with_reducible exact LeO.none _)
   |(with_reducible refine LeO.ite ?_ ?_)
   |(with_reducible refine LeO.bind ?_ (fun _ => ?_))
   |exact ih0 _ _ _ _ _
   |exact sacristyref01_Add.mono _ _ _
   |exact LeO.none _
   |refine LeO.ite ?_ ?_
   |refine LeO.bind ?_ (fun _ => ?_)
end Go.Proofs.Yteejcpbngnojkaa.P
end
section
namespace Go.Proofs.Yteejcpbngnojkaa.P
open Go.RowKit Go.Proofs.YteejcpbngnojkaaW.PrintWords Go.Proofs.YteejcpbngnojkaaW.PrintLast Go.Proofs.YteejcpbngnojkaaW.PrintMore
open Go.Proofs.Yteejcpbngnojkaa.Num
set_option linter.unusedVariables false
def gb (l : List Bool) (j : Nat) : Bool := l.getD j false
theorem rdB (l : List Bool) (i : Nat) : rdOf false l (i : Int) = gb l i := by simp [rdOf, gb]
theorem gb_eq {l : List Bool} {j : Nat} (h : j < l.length) : gb l j = l[j] := by simp [gb, List.getD_eq_getElem?_getD, List.getElem?_eq_getElem h]
theorem gb_out {l : List Bool} {j : Nat} (h : l.length ≤ j) : gb l j = false := by simp [gb, List.getD_eq_getElem?_getD, List.getElem?_eq_none h]
theorem wdec {n : Nat} (h : n ≤ 4611686018427387904) : wrap64 (((n + 1 : Nat) : Int) - 1) = (n : Int) := by rw [w64 (by omega) (by omega)]; omega
theorem winc {n : Nat} (h : n ≤ 4611686018427387904) : wrap64 ((n : Int) + 1) = ((n + 1 : Nat) : Int) := by rw [w64 (by omega) (by omega)]; omega
theorem rTrim_ev (l : List Bool) (hn : l.length ≤ 4611686018427387904) : Ev (fun k => sacristyref01_Trim.f k l) (toB (valB l)) := by
  unfold sacristyref01_Trim.f
  generalize hm : l.length = m
  induction m generalizing l with
  | zero =>
    obtain rfl := List.eq_nil_of_length_eq_zero hm
    refine Ev.step (f := fun _ => some []) (fun k => by simp [sacristyref01_Trim.l0]) ?_
    rw [valB_nil, toB_zero]
    exact Ev.now _
  | succ m ih =>
    have hne : l ≠ [] := fun e => by subst e; simp at hm
    obtain ⟨l', x, rfl⟩ : ∃ l' x, l = l' ++ [x] := ⟨l.dropLast, l.getLast hne, (List.dropLast_concat_getLast hne).symm⟩
    have hm' : l'.length = m := by simpa using hm
    have hm4 : m ≤ 4611686018427387904 := by simp at hn; omega
    have hlen : ((l' ++ [x]).length : Int) = ((m + 1 : Nat) : Int) := by rw [hm]
    have c1 : ((m + 1 : Nat) : Int) > 0 := by omega
    have c2 : (0 : Int) ≤ (m : Int) := by omega
    have c3 : (m : Int) < ((m + 1 : Nat) : Int) := by omega
    have c4 : (m : Int) ≤ ((m + 1 : Nat) : Int) := by omega
    have hw := wdec hm4
    have hrd : rdOf false (l' ++ [x]) (m : Int) = x := by rw [rdB]; simp [gb, List.getD_eq_getElem?_getD, ← hm']
    cases x with
    | false =>
      refine Ev.step (f := fun k => sacristyref01_Trim.l0 k l') (fun k => ?_) ?_
      · simp only [sacristyref01_Trim.l0]
        rw [hlen, hw, if_pos c1, if_pos c2, if_pos c3, hrd, if_neg (by decide), if_pos c4, Int.toNat_natCast, ← hm', List.take_left' rfl]
      · rw [toB_valB_snoc_false]
        exact ih l' (by omega) hm'
    | true =>
      refine Ev.step (f := fun _ => some (l' ++ [true])) (fun k => ?_) ?_
      · simp only [sacristyref01_Trim.l0]
        rw [hlen, hw, if_pos c1, if_pos c2, if_pos c3, hrd, if_pos rfl]
      · rw [toB_valB_true]
        exact Ev.now _
def bitsFrom (x : Nat) : Nat → Nat → List Bool
  | _, 0 => []
  | j, d + 1 => (x / 2 ^ j % 2 == 1) :: bitsFrom x (j + 1) d
theorem bitsFrom_len (x j d : Nat) : (bitsFrom x j d).length = d := by
  induction d generalizing j with
  | zero => rfl
  | succ d ih => simp [bitsFrom, ih]
theorem bit_toNat (n : Nat) : (n % 2 == 1).toNat = n % 2 := by
  have := Nat.mod_lt n (show 0 < 2 by omega)
  rcases Nat.mod_two_eq_zero_or_one n with h | h <;> rw [h] <;> rfl
theorem bitsFrom_val (x j d : Nat) : valB (bitsFrom x j d) = x / 2 ^ j % 2 ^ d := by
  induction d generalizing j with
  | zero => simp [bitsFrom, valB_nil, Nat.mod_one]
  | succ d ih =>
    rw [bitsFrom, valB_cons, ih, bit_toNat, Nat.pow_succ 2 j, ← Nat.div_div_eq_div_mul, Nat.pow_succ, Nat.mul_comm (2 ^ d) 2, Nat.mod_mul]
theorem of_bit (x : Int) (j : Nat) (h0 : 0 ≤ x) (h : x < 256) (hj : j < 8) : (Int.tmod (shr .u8 x (j : Int)) 2 == 1) = (x.toNat / 2 ^ j % 2 == 1) := by
  obtain ⟨n, rfl⟩ := Int.eq_ofNat_of_zero_le h0
  have hmin : min j IntKind.u8.bits = j := Nat.min_eq_left (by show j ≤ 8; omega)
  unfold shr
  rw [Int.toNat_natCast, hmin, Int.toNat_natCast]
  have h2 : (2 : Int) ^ j = ((2 ^ j : Nat) : Int) := by simp
  rw [h2, ← Int.natCast_ediv]
  generalize n / 2 ^ j = N
  rw [show (2 : Int) = ((2 : Nat) : Int) from rfl, ← Int.ofNat_tmod]
  rw [Bool.eq_iff_iff, beq_iff_eq, beq_iff_eq]
  omega
theorem rOf_inner (l : List Int) (hb : Bytes l) (i : Nat) (hi : i < l.length) (r : List Bool) (d : Nat) : ∀ (j : Nat) (acc : List Bool), j + d = 8 → acc.length + d ≤ 1000000 → Ev (fun k => sacristyref01_Of.l0 k l (acc ++ bitsFrom (gw l i).toNat j d) (wrap64 ((i : Int) - 1))) r → Ev (fun k => sacristyref01_Of.l1 k l acc (i : Int) (j : Int)) r := by
  induction d with
  | zero =>
    intro j acc hj hacc hev
    obtain rfl : j = 8 := by omega
    simp only [bitsFrom, List.append_nil] at hev
    exact Ev.step (fun k => by simp only [sacristyref01_Of.l1]; rw [if_neg (by omega)]) hev
  | succ d ih =>
    intro j acc hj hacc hev
    have c1 : (j : Int) < 8 := by omega
    have c2 : (0 : Int) ≤ (i : Int) := by omega
    have c3 : (i : Int) < (l.length : Int) := by omega
    have c4 : (0 : Int) ≤ (j : Int) := by omega
    have c5 : acc.length < 140737488355328 := by omega
    have hj8 : j < 8 := by omega
    have hjd : j + 1 + d = 8 := by omega
    have hw := winc (n := j) (by omega)
    have g := hb.gw i
    refine Ev.step (f := fun k => sacristyref01_Of.l1 k l (acc ++ [((gw l i).toNat / 2 ^ j % 2 == 1)]) (i : Int) ((j + 1 : Nat) : Int)) (fun k => ?_) ?_
    · simp only [sacristyref01_Of.l1]
      rw [if_pos c1, if_pos c2, if_pos c3, if_pos c4, if_pos c5, hw, rd_gw, of_bit _ j g.1 g.2 hj8]
    · refine ih (j + 1) _ hjd (by simp; omega) ?_
      rw [List.append_assoc]
      exact hev
theorem rOf_outer (l : List Int) (hb : Bytes l) (n : Nat) : ∀ (acc : List Bool), n ≤ l.length → acc.length + 8 * n ≤ 900000 → Ev (fun k => sacristyref01_Of.l0 k l acc ((n : Int) - 1)) (toB (valB acc + 2 ^ acc.length * valL (l.take n).reverse)) := by
  induction n with
  | zero =>
    intro acc hn hacc
    have ht := rTrim_ev acc (by omega)
    refine Ev.step (fun k => by simp only [sacristyref01_Of.l0]; rw [if_neg (by omega)]) (Ev.bind (f := fun _ t => some t) ht ?_)
    simp only [List.take_zero, List.reverse_nil, show valL [] = 0 from rfl, Nat.mul_zero, Nat.add_zero]
    exact Ev.now _
  | succ n ih =>
    intro acc hn hacc
    have c1 : ((n : Nat) : Int) ≥ 0 := by omega
    have e1 : ((n + 1 : Nat) : Int) - 1 = (n : Int) := by omega
    have hw : wrap64 ((n : Int) - 1) = (n : Int) - 1 := w64 (by omega) (by omega)
    have g := hb.gw n
    have hlt : (gw l n).toNat < 256 := by omega
    have hn1 : n < l.length := by omega
    rw [e1]
    refine Ev.step (f := fun k => sacristyref01_Of.l1 k l acc (n : Int) 0) (fun k => by simp only [sacristyref01_Of.l0]; rw [if_pos c1]) ?_
    refine rOf_inner l hb n hn1 _ 8 0 acc rfl (by omega) ?_
    rw [hw]
    have h := ih (acc ++ bitsFrom (gw l n).toNat 0 8) (by omega) (by rw [List.length_append, bitsFrom_len]; omega)
    have e2 : valB (acc ++ bitsFrom (gw l n).toNat 0 8) + 2 ^ (acc ++ bitsFrom (gw l n).toNat 0 8).length * valL (l.take n).reverse = valB acc + 2 ^ acc.length * valL (l.take (n + 1)).reverse := by
      have e3 : (l.take (n + 1)).reverse = gw l n :: (l.take n).reverse := by rw [take_snoc hn1, List.reverse_append]; rfl
      rw [e3, valL_cons, valB_append, bitsFrom_val, List.length_append, bitsFrom_len, Nat.pow_add]
      simp only [Nat.pow_zero, Nat.div_one]
      rw [Nat.mod_eq_of_lt hlt]
      generalize (gw l n).toNat = x
      generalize valL (l.take n).reverse = V
      generalize 2 ^ acc.length = P
      grind
    rw [e2] at h
    exact h
theorem rOf_ev (l : List Int) (hb : Bytes l) (hn : l.length ≤ 100000) : Ev (fun k => sacristyref01_Of.f k l) (toB (valH l)) := by
  unfold sacristyref01_Of.f
  have hw : wrap64 ((l.length : Int) - 1) = (l.length : Int) - 1 := w64 (by omega) (by omega)
  rw [hw]
  have h := rOf_outer l hb l.length [] (Nat.le_refl _) (by simp; omega)
  rw [List.take_length] at h
  simpa [valB_nil, valH] using h
theorem rSmall_ev (x : Nat) : ∀ (acc : List Bool), x < 18446744073709551616 → acc.length + (toB x).length ≤ 1000 → Ev (fun k => sacristyref01_Small.l0 k (x : Int) acc) (acc ++ toB x) := by
  induction x using Nat.strongRecOn with
  | ind x ih =>
    intro acc hx hacc
    by_cases h0 : x = 0
    · subst h0
      rw [toB_zero, List.append_nil]
      exact Ev.step (fun k => by simp only [sacristyref01_Small.l0]; rw [if_neg (by omega)]) (Ev.now _)
    · rw [toB_pos (by omega)] at hacc ⊢
      have c1 : (x : Int) > 0 := by omega
      have c2 : acc.length < 140737488355328 := by omega
      have e1 : IntKind.u64.wrap (Int.tdiv (x : Int) 2) = ((x / 2 : Nat) : Int) := by
        rw [show (2 : Int) = ((2 : Nat) : Int) from rfl, ← Int.ofNat_tdiv, wu64 (by omega) (by omega)]
      have e2 : (Int.tmod (x : Int) 2 == 1) = (x % 2 == 1) := by
        rw [show (2 : Int) = ((2 : Nat) : Int) from rfl, ← Int.ofNat_tmod, Bool.eq_iff_iff, beq_iff_eq, beq_iff_eq]; omega
      have h := ih (x / 2) (by omega) (acc ++ [(x % 2 == 1)]) (by omega) (by simp at hacc ⊢; omega)
      rw [List.append_assoc] at h
      refine Ev.step (fun k => ?_) h
      simp only [sacristyref01_Small.l0]
      rw [if_pos c1, if_pos c2, e1, e2]
theorem rSmall (x : Nat) (hx : x < 18446744073709551616) : Ev (fun k => sacristyref01_Small.f k (x : Int)) (toB x) := by
  have h64 : (toB x).length ≤ 64 := toB_len_le 64 x hx
  have := rSmall_ev x [] hx (by simp; omega)
  simpa [sacristyref01_Small.f] using this
theorem gb_toB (a i : Nat) : (gb (toB a) i).toNat = a / 2 ^ i % 2 := by
  by_cases h : i < (toB a).length
  · rw [gb_eq h, toB_get, bit_toNat]
  · rw [gb_out (by omega)]
    have h1 := toB_lt a
    have h2 : 2 ^ (toB a).length ≤ 2 ^ i := Nat.pow_le_pow_right (by omega) (by omega)
    rw [Nat.div_eq_of_lt (by omega)]
    rfl
theorem mod_snoc (a i : Nat) : a % 2 ^ (i + 1) = a % 2 ^ i + 2 ^ i * (a / 2 ^ i % 2) := Nat.mod_pow_succ ..
end Go.Proofs.Yteejcpbngnojkaa.P
end
section
namespace Go.Proofs.Yteejcpbngnojkaa.P
open Go.RowKit Go.Proofs.YteejcpbngnojkaaW.PrintWords Go.Proofs.YteejcpbngnojkaaW.PrintLast Go.Proofs.YteejcpbngnojkaaW.PrintMore
open Go.Proofs.Yteejcpbngnojkaa.Num
set_option linter.unusedVariables false
theorem pw_two (q : Nat) : pw q = 2 ^ (32 * q) := by
  unfold pw; rw [show (4294967296 : Nat) = 2 ^ 32 from by decide, ← Nat.pow_mul]
theorem pow256 (i : Nat) : 256 ^ i = pw (i / 4) * 2 ^ (8 * (i % 4)) := by
  rw [pw_two, ← Nat.pow_add, show (256 : Nat) = 2 ^ 8 from by decide, ← Nat.pow_mul]
  congr 1
  omega
theorem toB_len_eq {n L : Nat} (hL : 0 < L) (h1 : n < 2 ^ L) (h2 : 2 ^ (L - 1) ≤ n) : (toB n).length = L := by
  have h3 := toB_len_le L n h1
  have h4 := toB_len_gt (L - 1) n h2
  omega
theorem bits_len {n m r : Nat} (hm : 1 ≤ m) (hr : 0 < r) (h1 : n / pw (m - 1) < 2 ^ r) (h2 : 2 ^ (r - 1) ≤ n / pw (m - 1)) : (toB n).length = 32 * (m - 1) + r := by
  refine toB_len_eq (by omega) ?_ ?_
  · rw [Nat.div_lt_iff_lt_mul (pw_pos _), Nat.mul_comm, pw_two, ← Nat.pow_add] at h1
    exact h1
  · rw [Nat.le_div_iff_mul_le (pw_pos _), pw_two, ← Nat.pow_add] at h2
    rw [show 32 * (m - 1) + r - 1 = r - 1 + 32 * (m - 1) by omega]
    exact h2
theorem Bits_toW (n : Nat) (hn : (toW n).length ≤ 1048576) : nat_Nat_Bits.f (toW n) = some (((toB n).length : Nat) : Int) := by
  unfold nat_Nat_Bits.f
  by_cases h0 : n = 0
  · subst h0; simp [toW_zero, toB_zero]
  · have hne : (toW n).length ≠ 0 := by rw [Ne, List.length_eq_zero_iff, toW_eq_nil]; exact h0
    obtain ⟨m, hm⟩ : ∃ m, (toW n).length = m := ⟨_, rfl⟩
    have c1 : ¬ (((toW n).length : Nat) : Int) = 0 := by omega
    have c2 : (0 : Int) ≤ ((m - 1 : Nat) : Int) := by omega
    have c3 : ((m - 1 : Nat) : Int) < (m : Int) := by omega
    have hm1 : 1 ≤ m := by omega
    have hm2 : m ≤ 1048576 := by omega
    have hlo : pw (m - 1) ≤ n := toW_len_lt (by omega)
    have hhi : n < pw m := by have := toW_lt n; rwa [hm] at this
    have hd : n / pw (m - 1) < 4294967296 := by
      rw [Nat.div_lt_iff_lt_mul (pw_pos _), Nat.mul_comm, ← pw_succ, show m - 1 + 1 = m by omega]; exact hhi
    have hp : 0 < n / pw (m - 1) := Nat.div_pos hlo (pw_pos _)
    have hg : gw (toW n) (m - 1) = ((n / pw (m - 1) : Nat) : Int) := by rw [toW_gw, Nat.mod_eq_of_lt hd]
    obtain ⟨r, hr, hr32, hlt, hge⟩ := len32 (gw (toW n) (m - 1)) (by rw [hg]; exact Int.natCast_nonneg _) (by rw [hg]; exact Int.ofNat_lt.2 hd)
    rw [hg] at hlt hge
    rw [Int.toNat_natCast] at hlt hge
    obtain ⟨h3, h4⟩ := hge (Int.natCast_pos.2 hp)
    have hlen := bits_len hm1 h3 hlt h4
    have w1 : wrap64 ((m : Int) - 1) = ((m - 1 : Nat) : Int) := by clear hlen hr; rw [w64 (by omega) (by omega)]; omega
    have w2 : wrap64 (wrap64 (32 * ((m - 1 : Nat) : Int)) + (r : Int)) = ((32 * (m - 1) + r : Nat) : Int) := by
      clear hlen hr w1 hd hp hlt h4 hlo hhi hg
      rw [w64 (x := 32 * ((m - 1 : Nat) : Int)) (by omega) (by omega), w64 (by omega) (by omega)]; omega
    rw [if_neg c1, hm, w1, if_pos c2, if_pos c3, rd_gw, hr]
    simp only [Option.bind_some]
    rw [w2, hlen]
theorem fb_round (a b : Int) (y : Nat) (hy : y = 0 ∨ y = 8 ∨ y = 16 ∨ y = 24) (ha0 : 0 ≤ a) (ha : a.toNat < 2 ^ y) (hb0 : 0 ≤ b) (hb : b < 256) :
    Go.bits .or .u32 a (shl .u32 (b % 4294967296) (y : Int)) = ((a.toNat + b.toNat * 2 ^ y : Nat) : Int) ∧ a.toNat + b.toNat * 2 ^ y < 4294967296 := by
  obtain ⟨n, rfl⟩ := Int.eq_ofNat_of_zero_le ha0
  obtain ⟨m, rfl⟩ := Int.eq_ofNat_of_zero_le hb0
  simp only [Int.toNat_natCast] at ha ⊢
  have hmin : min y IntKind.u32.bits = y := Nat.min_eq_left (by show y ≤ 32; omega)
  have hs : shl .u32 ((m : Int) % 4294967296) (y : Int) = ((m * 2 ^ y : Nat) : Int) := by
    unfold shl
    rw [Int.toNat_natCast, hmin]
    have e1 : (m : Int) % 4294967296 = (m : Int) := by omega
    have e2 : (m : Int) * 2 ^ y = ((m * 2 ^ y : Nat) : Int) := by simp
    rw [e1, e2]
    rcases hy with rfl | rfl | rfl | rfl <;> exact wraps_u32 _ (by omega) (by omega)
  rw [hs]
  rcases hy with rfl | rfl | rfl | rfl
  all_goals
    refine ⟨?_, by omega⟩
    rw [bits_join_low .u32 32 (by decide) wraps_u32 _ (n : Int) ((m * 2 ^ _ : Nat) : Int) (by omega) (by first | exact_mod_cast ha) (by omega) (by omega) (by omega) (by omega)]
    omega
structure FBInv (l : List Int) (i : Nat) (row : List Int) : Prop where
  len : row.length = (l.length + 3) / 4
  sz : Sized row
  eq : valW row = valL (l.reverse.take i)
theorem digit_lt {row : List Int} (hs : Sized row) {q c : Nat} (hq : q < row.length) (h : valW row < pw q * c) : (gw row q).toNat < c := by
  have h1 : valW row = valW (row.take q) + pw q * valW (row.drop q) := valW_drop (by omega)
  have h2 : row.drop q = gw row q :: row.drop (q + 1) := by rw [List.drop_eq_getElem_cons hq, gw_eq hq]
  rw [h2, valW_cons] at h1
  have h3 : pw q * (gw row q).toNat < pw q * c := by
    rw [Nat.mul_add] at h1
    omega
  exact Nat.lt_of_mul_lt_mul_left h3
theorem valW_set' {row : List Int} {q : Nat} (hq : q < row.length) {x : Int} (hx : 0 ≤ x) : valW (row.set q x) + pw q * (gw row q).toNat = valW row + pw q * x.toNat := by
  have := val_set (β := 4294967296) (enc := Int.toNat) row q x hq
  rw [← gw_eq hq] at this
  exact this
theorem fb_loop (l : List Int) (hb : Bytes l) (hl : l.length ≤ 128) (d : Nat) : ∀ (i : Nat) (row : List Int), FBInv l i row → i + d = l.length →
    Ev (fun k => nat_FromBytes.l0 k l row (l.length : Int) (i : Int)) (toW (valH l), 0) := by
  induction d with
  | zero =>
    intro i row h hi
    obtain rfl : i = l.length := by omega
    have ht := trim_ev row h.sz (by rw [h.len]; omega)
    have hv : valW row = valH l := by rw [h.eq, List.take_of_length_le (by simp)]; rfl
    rw [hv] at ht
    exact Ev.step (fun k => by simp only [nat_FromBytes.l0]; rw [if_neg (by omega)]) (Ev.bind (f := fun _ t => some (t, (0 : Int))) ht (Ev.now _))
  | succ d ih =>
    intro i row h hi
    have hrl := h.len
    have hil : i < l.length := by omega
    have c1 : (i : Int) < (l.length : Int) := by omega
    have c2 : (0 : Int) ≤ ((l.length - 1 - i : Nat) : Int) := by omega
    have c3 : ((l.length - 1 - i : Nat) : Int) < (l.length : Int) := by omega
    have c4 : (0 : Int) ≤ ((i / 4 : Nat) : Int) := by omega
    have c5 : ((i / 4 : Nat) : Int) < (row.length : Int) := by omega
    have c6 : (0 : Int) ≤ ((8 * (i % 4) : Nat) : Int) := by omega
    have hq : i / 4 < row.length := by omega
    have hy : 8 * (i % 4) = 0 ∨ 8 * (i % 4) = 8 ∨ 8 * (i % 4) = 16 ∨ 8 * (i % 4) = 24 := by omega
    have i1 : i + 1 + d = l.length := by omega
    have hgl : gw l (l.length - 1 - i) = gw l.reverse i := by
      rw [gw_eq (by omega), gw_eq (by simp; omega), List.getElem_reverse]
    have g := hb.gw (l.length - 1 - i)
    have gr := h.sz.gw (i / 4)
    have hval : valW row < 256 ^ i := by
      have := valL_lt (hb.reverse.take i)
      rw [List.length_take, List.length_reverse, Nat.min_eq_left (by omega)] at this
      rw [h.eq]; exact this
    rw [pow256] at hval
    have hdig := digit_lt h.sz hq hval
    obtain ⟨e1, e2⟩ := fb_round (gw row (i / 4)) (gw l (l.length - 1 - i)) (8 * (i % 4)) hy gr.1 hdig g.1 g.2
    have hst : FBInv l (i + 1) (row.set (i / 4) (((gw row (i / 4)).toNat + (gw l (l.length - 1 - i)).toNat * 2 ^ (8 * (i % 4)) : Nat) : Int)) := by
      refine ⟨by rw [List.length_set]; exact h.len, h.sz.set _ ⟨Int.natCast_nonneg _, Int.ofNat_lt.2 e2⟩, ?_⟩
      have e3 := valW_set' hq (x := (((gw row (i / 4)).toNat + (gw l (l.length - 1 - i)).toNat * 2 ^ (8 * (i % 4)) : Nat) : Int)) (Int.natCast_nonneg _)
      rw [Int.toNat_natCast] at e3
      have e4 : valL (l.reverse.take (i + 1)) = valL (l.reverse.take i) + 256 ^ i * (gw l (l.length - 1 - i)).toNat := by
        rw [take_snoc (by simp; omega), valL_append, valL_one, hgl, List.length_take, List.length_reverse, Nat.min_eq_left (by omega)]
      rw [e4, ← h.eq, pow256]
      generalize 2 ^ (8 * (i % 4)) = P at *
      generalize pw (i / 4) = Q at *
      generalize (gw row (i / 4)).toNat = x at *
      generalize (gw l (l.length - 1 - i)).toNat = y at *
      clear e1 e2 e4 hdig hval hgl hy h ih
      grind
    have w1 : wrap64 (wrap64 ((l.length : Int) - 1) - (i : Int)) = ((l.length - 1 - i : Nat) : Int) := by
      clear e1 e2 hst hdig hval hgl
      rw [w64 (x := (l.length : Int) - 1) (by omega) (by omega), w64 (by omega) (by omega)]; omega
    have w2 : wrap64 (Int.tdiv (i : Int) 4) = ((i / 4 : Nat) : Int) := by
      clear e1 e2 hst hdig hval hgl w1
      rw [show (4 : Int) = ((4 : Nat) : Int) from rfl, ← Int.ofNat_tdiv]; exact w64 (by omega) (by omega)
    have w3 : wrap64 (8 * Int.tmod (i : Int) 4) = ((8 * (i % 4) : Nat) : Int) := by
      clear e1 e2 hst hdig hval hgl w1 w2
      rw [show (4 : Int) = ((4 : Nat) : Int) from rfl, ← Int.ofNat_tmod, w64 (by omega) (by omega)]; omega
    have w4 : wrap64 ((i : Int) + 1) = ((i + 1 : Nat) : Int) := by clear e1 e2 hst hdig hval hgl w1 w2 w3; exact winc (by omega)
    refine Ev.step (fun k => ?_) (ih (i + 1) _ hst i1)
    simp only [nat_FromBytes.l0]
    rw [if_pos c1, w1, if_pos c2, if_pos c3, w2, if_pos c4, if_pos c5, w3, if_pos c6, rd_gw, rd_gw, e1, w4, Int.toNat_natCast]
theorem FromBytes_ev (l : List Int) (hb : Bytes l) (hl : l.length ≤ 128) : Ev (fun k => nat_FromBytes.f k l) (toW (valH l), 0) := by
  unfold nat_FromBytes.f
  have h := fb_loop l hb hl l.length 0 (List.replicate ((l.length + 3) / 4) 0) ⟨by simp, Sized.zeros _, by rw [valW_zeros]; rfl⟩ (by omega)
  have w1 : wrap64 (Int.tdiv (wrap64 ((l.length : Int) + 3)) 4) = (((l.length + 3) / 4 : Nat) : Int) := by
    have : wrap64 ((l.length : Int) + 3) = ((l.length + 3 : Nat) : Int) := by rw [w64 (by omega) (by omega)]; omega
    rw [this, show (4 : Int) = ((4 : Nat) : Int) from rfl, ← Int.ofNat_tdiv]
    clear this
    exact w64 (by omega) (by omega)
  have c0 : ¬ (l.length : Int) > 128 := by omega
  have c1 : (0 : Int) ≤ (((l.length + 3) / 4 : Nat) : Int) := by clear w1; omega
  have c2 : (l.length + 3) / 4 ≤ 70368744177664 := by clear w1; omega
  refine Ev.congr (fun k => ?_) h
  rw [if_neg c0, w1, if_pos c1, Int.toNat_natCast, if_pos c2]
  rfl
end Go.Proofs.Yteejcpbngnojkaa.P
end
section
namespace Go.Proofs.Yteejcpbngnojkaa.P
open Go.RowKit Go.Proofs.YteejcpbngnojkaaW.PrintWords Go.Proofs.YteejcpbngnojkaaW.PrintLast Go.Proofs.YteejcpbngnojkaaW.PrintMore
open Go.Proofs.Yteejcpbngnojkaa.Num
set_option linter.unusedVariables false
def nb (v : Nat) : Nat := ((toB v).length + 7) / 8
def highBytes (v size : Nat) : List Int := (lowBytes v size).reverse
theorem highBytes_length (v size : Nat) : (highBytes v size).length = size := by simp [highBytes, lowBytes_length]
theorem highBytes_bytes (v size : Nat) : Bytes (highBytes v size) := (lowBytes_bytes v size).reverse
theorem nb_lt (v : Nat) : v < 256 ^ nb v := by
  have h := toB_lt v
  have h2 : 2 ^ (toB v).length ≤ 2 ^ (8 * nb v) := Nat.pow_le_pow_right (by decide) (by unfold nb; omega)
  rw [show (256 : Nat) = 2 ^ 8 from by decide, ← Nat.pow_mul]
  exact Nat.lt_of_lt_of_le h h2
theorem nb_le {v i : Nat} (h : i < nb v) : 256 ^ i ≤ v := by
  rw [show (256 : Nat) = 2 ^ 8 from by decide, ← Nat.pow_mul]
  exact toB_len_lt (by unfold nb at h; omega)
theorem gw_rev {l : List Int} {j : Nat} (h : j < l.length) : gw l.reverse j = gw l (l.length - 1 - j) := by
  rw [gw_eq (by simpa using h), gw_eq (by omega), List.getElem_reverse]
theorem word_byte (v i : Nat) : (gw (toW v) (i / 4) / 2 ^ (8 * (i % 4))) % 256 = ((v / 256 ^ i % 256 : Nat) : Int) := by
  rw [toW_gw, pow256, ← Nat.div_div_eq_div_mul]
  generalize v / pw (i / 4) = X
  have hy : i % 4 = 0 ∨ i % 4 = 1 ∨ i % 4 = 2 ∨ i % 4 = 3 := by omega
  rcases hy with h | h | h | h <;> rw [h] <;> simp only [Nat.reduceMul, Nat.reducePow, Int.reducePow] <;> omega
theorem nBytes_loop (v size n : Nat) (hn : n = nb v) (hs : n ≤ size) (hsz : size ≤ 1000000) (hv : (toW v).length ≤ 1048576) (d : Nat) : ∀ (i : Nat) (out : List Int), i + d = n → out.length = size → (∀ j, j < size → gw out (size - 1 - j) = if j < i then ((v / 256 ^ j % 256 : Nat) : Int) else 0) →
    Ev (fun k => nat_Nat_Bytes.l0 k (size : Int) out (n : Int) (i : Int) (toW v)) (highBytes v size, 0) := by
  induction d with
  | zero =>
    intro i out hi hl hg
    obtain rfl : i = n := by omega
    have he : out = highBytes v size := by
      refine list_ext_gw (by rw [hl, highBytes_length]) fun j hj => ?_
      unfold highBytes
      rw [gw_rev (by rw [lowBytes_length]; omega), lowBytes_length, lowBytes_get _ _ _ (by omega)]
      have h := hg (size - 1 - j) (by omega)
      rw [show size - 1 - (size - 1 - j) = j by omega] at h
      rw [h]
      by_cases hc : size - 1 - j < i
      · rw [if_pos hc]
      · rw [if_neg hc]
        have h1 := nb_lt v
        rw [← hn] at h1
        have h2 : 256 ^ i ≤ 256 ^ (size - 1 - j) := Nat.pow_le_pow_right (by decide) (by omega)
        rw [Nat.div_eq_of_lt (Nat.lt_of_lt_of_le h1 h2)]
        rfl
    rw [← he]
    exact Ev.step (f := fun _ => some (out, (0 : Int))) (fun k => by simp only [nat_Nat_Bytes.l0]; rw [if_neg (by omega)]) (Ev.now _)
  | succ d ih =>
    intro i out hi hl hg
    have hin : i < nb v := by omega
    have hle := nb_le hin
    have hqa : i / 4 < (toW v).length := by
      refine toW_len_gt _ _ (Nat.le_trans ?_ hle)
      rw [pow256]
      exact Nat.le_mul_of_pos_right _ (Nat.pow_pos (by decide))
    clear hle
    have c1 : (i : Int) < (n : Int) := by omega
    have c2 : (0 : Int) ≤ ((i / 4 : Nat) : Int) := by omega
    have c3 : ((i / 4 : Nat) : Int) < ((toW v).length : Int) := by omega
    have c4 : (0 : Int) ≤ ((8 * (i % 4) : Nat) : Int) := by omega
    have c5 : (0 : Int) ≤ ((size - 1 - i : Nat) : Int) := by omega
    have c6 : ((size - 1 - i : Nat) : Int) < (out.length : Int) := by omega
    have hso : size - 1 - i < out.length := by omega
    have i1 : i + 1 + d = n := by omega
    have hjj : ∀ j, j < size → (size - 1 - i = size - 1 - j ↔ i = j) := fun j hj => by omega
    have hj2 : ∀ j, i ≠ j → (j < i + 1 ↔ j < i) := fun j hj => by omega
    have h2i : i < i + 1 := by omega
    have hy : 8 * (i % 4) ≤ 32 := by omega
    have w1 : wrap64 (wrap64 ((size : Int) - 1) - (i : Int)) = ((size - 1 - i : Nat) : Int) := by
      rw [w64 (x := (size : Int) - 1) (by omega) (by omega), w64 (by omega) (by omega)]; omega
    have w2 : wrap64 (Int.tdiv (i : Int) 4) = ((i / 4 : Nat) : Int) := by
      clear w1
      rw [show (4 : Int) = ((4 : Nat) : Int) from rfl, ← Int.ofNat_tdiv]; exact w64 (by omega) (by omega)
    have w3 : wrap64 (8 * Int.tmod (i : Int) 4) = ((8 * (i % 4) : Nat) : Int) := by
      clear w1 w2
      rw [show (4 : Int) = ((4 : Nat) : Int) from rfl, ← Int.ofNat_tmod, w64 (by omega) (by omega)]; omega
    have w4 : wrap64 ((i : Int) + 1) = ((i + 1 : Nat) : Int) := by clear w1 w2 w3; exact winc (by omega)
    have hsh : shr .u32 (gw (toW v) (i / 4)) ((8 * (i % 4) : Nat) : Int) % 256 = ((v / 256 ^ i % 256 : Nat) : Int) := by
      have hmin : min (8 * (i % 4)) IntKind.u32.bits = 8 * (i % 4) := Nat.min_eq_left hy
      unfold shr
      rw [Int.toNat_natCast, hmin, word_byte]
    refine Ev.step (fun k => ?_) (ih (i + 1) (out.set (size - 1 - i) ((v / 256 ^ i % 256 : Nat) : Int)) i1 (by rw [List.length_set]; exact hl) (fun j hj => ?_))
    · simp only [nat_Nat_Bytes.l0]
      rw [if_pos c1, w2, if_pos c2, if_pos c3, w3, if_pos c4, w1, if_pos c5, if_pos c6, rd_gw, hsh, w4, Int.toNat_natCast]
    · rw [gw_set hso]
      by_cases hij : i = j
      · subst hij
        rw [if_pos rfl, if_pos h2i]
      · rw [if_neg (fun e => hij ((hjj j hj).1 e)), hg j hj]
        simp only [hj2 j hij]
theorem toB_len_words (v n : Nat) (h : 32 * (toW v).length ≤ n) : (toB v).length ≤ n := by
  refine toB_len_le _ _ (Nat.lt_of_lt_of_le (toW_lt v) ?_)
  rw [pw_two]
  exact Nat.pow_le_pow_right (by decide) h
theorem nb_word (v : Nat) (hv : (toW v).length ≤ 1048576) : wrap64 (Int.tdiv (wrap64 ((((toB v).length : Nat) : Int) + 7)) 8) = ((nb v : Nat) : Int) := by
  have h1 : (toB v).length ≤ 33554432 := toB_len_words v _ (by omega)
  unfold nb
  have e1 : wrap64 ((((toB v).length : Nat) : Int) + 7) = (((toB v).length + 7 : Nat) : Int) := by rw [w64 (by omega) (by omega)]; omega
  rw [e1, show (8 : Int) = ((8 : Nat) : Int) from rfl, ← Int.ofNat_tdiv]
  clear e1
  exact w64 (by omega) (by omega)
theorem nb_bound (v : Nat) (hv : (toW v).length ≤ 1000) : nb v ≤ 4000 := by
  have h1 : (toB v).length ≤ 32000 := toB_len_words v _ (by omega)
  unfold nb; omega
theorem nBytes_ev (v size : Nat) (hs : nb v ≤ size) (hsz : size ≤ 1000000) (hv : (toW v).length ≤ 1048576) : Ev (fun k => nat_Nat_Bytes.f k (toW v) (size : Int)) (highBytes v size, 0) := by
  have h : Ev (fun k => nat_Nat_Bytes.l0 k (size : Int) (List.replicate size 0) ((nb v : Nat) : Int) 0 (toW v)) (highBytes v size, 0) := nBytes_loop v size (nb v) rfl hs hsz hv (nb v) 0 (List.replicate size 0) (by omega) (by simp) (fun j hj => by rw [if_neg (by omega)]; exact valW_zero (Sized.zeros _) (valW_zeros _) _)
  have c1 : ¬ (size : Int) < 0 := by omega
  have c2 : ¬ ((nb v : Nat) : Int) > (size : Int) := by omega
  have c3 : (0 : Int) ≤ (size : Int) := by omega
  have c4 : size ≤ 281474976710656 := by omega
  refine Ev.congr (fun k => ?_) h
  unfold nat_Nat_Bytes.f
  rw [if_neg c1, Bits_toW v hv]
  refine (Option.bind_some _ _).trans ?_
  rw [nb_word v hv]
  refine (if_neg c2).trans ?_
  refine (if_pos c3).trans ?_
  rw [Int.toNat_natCast]
  refine (if_pos c4).trans ?_
  with_reducible rfl
theorem Least_ev (v : Nat) (hv : (toW v).length ≤ 1000) : Ev (fun k => nat_Nat_Least.f k (toW v)) (highBytes v (nb v)) := by
  have hb := nb_bound v hv
  have h := nBytes_ev v (nb v) (Nat.le_refl _) (by omega) (by omega)
  refine Ev.congr (fun k => ?_) (Ev.bind (f := fun _ bt => some bt.1) h (Ev.now _))
  unfold nat_Nat_Least.f
  have hv2 : (toW v).length ≤ 1048576 := Nat.le_trans hv (by decide)
  rw [Bits_toW v hv2]
  refine (Option.bind_some _ _).trans ?_
  rw [nb_word v hv2]
structure RBInv (v size i : Nat) (out : List Int) : Prop where
  len : out.length = size
  by_ : Bytes out
  eq : valL out.reverse = v % 2 ^ i
theorem set_rev {l : List Int} {j : Nat} {x : Int} (h : j < l.length) : (l.set (l.length - 1 - j) x).reverse = l.reverse.set j x := by
  refine list_ext_gw (by simp) fun i hi => ?_
  rw [List.length_reverse, List.length_set] at hi
  rw [gw_rev (by rw [List.length_set]; exact hi), gw_set (by omega), gw_set (by rw [List.length_reverse]; exact h), List.length_set]
  by_cases e : j = i
  · subst e; rw [if_pos rfl, if_pos rfl]
  · rw [if_neg (by omega), if_neg e, gw_rev hi]
theorem digitL_lt {l : List Int} (hb : Bytes l) {q c : Nat} (hq : q < l.length) (h : valL l < 256 ^ q * c) : (gw l q).toNat < c := by
  have h1 := val_take_drop (β := 256) (enc := Int.toNat) q l (by omega)
  have h2 : l.drop q = gw l q :: l.drop (q + 1) := by rw [List.drop_eq_getElem_cons hq, gw_eq hq]
  rw [h2] at h1
  have h1 : valL l = valL (l.take q) + 256 ^ q * ((gw l q).toNat + 256 * valL (l.drop (q + 1))) := h1
  have h3 : 256 ^ q * (gw l q).toNat < 256 ^ q * c := by
    rw [Nat.mul_add] at h1
    omega
  exact Nat.lt_of_mul_lt_mul_left h3
theorem valL_set {l : List Int} {q : Nat} (hq : q < l.length) {x : Int} : valL (l.set q x) + 256 ^ q * (gw l q).toNat = valL l + 256 ^ q * x.toNat := by
  have := val_set (β := 256) (enc := Int.toNat) l q x hq
  rw [← gw_eq hq] at this
  exact this
theorem pow2_8 (i : Nat) : 2 ^ i = 256 ^ (i / 8) * 2 ^ (i % 8) := by
  rw [show (256 : Nat) = 2 ^ 8 from by decide, ← Nat.pow_mul, ← Nat.pow_add]
  congr 1
  omega
theorem rb_round (a : Int) (y : Nat) (hy : y < 8) (ha0 : 0 ≤ a) (ha : a.toNat < 2 ^ y) : (a + shl .u8 1 (y : Int)) % 256 = ((a.toNat + 2 ^ y : Nat) : Int) ∧ a.toNat + 2 ^ y < 256 := by
  obtain ⟨n, rfl⟩ := Int.eq_ofNat_of_zero_le ha0
  simp only [Int.toNat_natCast] at ha ⊢
  have hy8 : y = 0 ∨ y = 1 ∨ y = 2 ∨ y = 3 ∨ y = 4 ∨ y = 5 ∨ y = 6 ∨ y = 7 := by omega
  rcases hy8 with rfl | rfl | rfl | rfl | rfl | rfl | rfl | rfl
  all_goals
    simp only [shl, IntKind.bits, Int.toNat_natCast, IntKind.wrap, IntKind.signed] at ha ⊢
    simp at ha ⊢
    omega
theorem rBytes_loop (v size : Nat) (hs : nb v ≤ size) (hsz : size ≤ 1000000) (hv : (toB v).length ≤ 1000000) (d : Nat) : ∀ (i : Nat) (out : List Int), RBInv v size i out → i + d = (toB v).length →
    Ev (fun k => sacristyref01_Bytes.l0 k (size : Int) out (toB v) ((toB v).length : Int) (i : Int)) (highBytes v size, true) := by
  induction d with
  | zero =>
    intro i out h hi
    have hlt := toB_lt v
    rw [show (toB v).length = i by omega] at hlt
    have he : out = highBytes v size := by
      have e1 := h.eq
      rw [Nat.mod_eq_of_lt hlt] at e1
      have e2 := lowBytes_valL h.by_.reverse
      rw [e1, List.length_reverse, h.len] at e2
      unfold highBytes
      rw [e2, List.reverse_reverse]
    rw [← he]
    exact Ev.step (f := fun _ => some (out, true)) (fun k => by simp only [sacristyref01_Bytes.l0]; rw [if_neg (by omega)]) (Ev.now _)
  | succ d ih =>
    intro i out h hi
    have hl := h.len
    have c1 : (i : Int) < ((toB v).length : Int) := by omega
    have c2 : (0 : Int) ≤ (i : Int) := by omega
    have hq8 : i / 8 < size := by unfold nb at hs; omega
    have c3 : (0 : Int) ≤ ((size - 1 - i / 8 : Nat) : Int) := by omega
    have c4 : ((size - 1 - i / 8 : Nat) : Int) < (out.length : Int) := by omega
    have c5 : (0 : Int) ≤ ((i % 8 : Nat) : Int) := by omega
    have i1 : i + 1 + d = (toB v).length := by omega
    have hi8 : i % 8 < 8 := by omega
    have hlo : i / 8 < out.length := by omega
    have hlor : i / 8 < out.reverse.length := by rw [List.length_reverse]; exact hlo
    have w1 : wrap64 (wrap64 ((size : Int) - 1) - wrap64 (Int.tdiv (i : Int) 8)) = ((size - 1 - i / 8 : Nat) : Int) := by
      have : wrap64 (Int.tdiv (i : Int) 8) = ((i / 8 : Nat) : Int) := by
        rw [show (8 : Int) = ((8 : Nat) : Int) from rfl, ← Int.ofNat_tdiv]; exact w64 (by omega) (by omega)
      rw [this]
      clear this
      rw [w64 (x := (size : Int) - 1) (by omega) (by omega), w64 (by omega) (by omega)]; omega
    have w3 : Int.tmod (i : Int) 8 = ((i % 8 : Nat) : Int) := by
      rw [show (8 : Int) = ((8 : Nat) : Int) from rfl, ← Int.ofNat_tmod]
    have w4 : wrap64 ((i : Int) + 1) = ((i + 1 : Nat) : Int) := by clear w1 w3; exact winc (by omega)
    have hg := gb_toB v i
    have hm := mod_snoc v i
    cases hx : gb (toB v) i with
    | false =>
      rw [hx] at hg
      rw [← hg] at hm
      simp only [Bool.toNat_false, Nat.mul_zero, Nat.add_zero] at hm
      refine Ev.step (fun k => ?_) (ih (i + 1) out ⟨h.len, h.by_, by rw [hm]; exact h.eq⟩ i1)
      simp only [sacristyref01_Bytes.l0]
      rw [if_pos c1, if_pos c2, if_pos c1, rdB, hx, if_neg (by decide), w4]
    | true =>
      rw [hx] at hg
      rw [← hg] at hm
      simp only [Bool.toNat_true, Nat.mul_one] at hm
      have hval : valL out.reverse < 2 ^ i := by rw [h.eq]; exact Nat.mod_lt _ (Nat.pow_pos (by decide))
      rw [pow2_8] at hval
      have hdig := digitL_lt h.by_.reverse hlor hval
      have hgr : gw out.reverse (i / 8) = gw out (size - 1 - i / 8) := by rw [gw_rev hlo, hl]
      rw [hgr] at hdig
      obtain ⟨e1, e2⟩ := rb_round (gw out (size - 1 - i / 8)) (i % 8) hi8 (h.by_.gw _).1 hdig
      have hst : RBInv v size (i + 1) (out.set (size - 1 - i / 8) (((gw out (size - 1 - i / 8)).toNat + 2 ^ (i % 8) : Nat) : Int)) := by
        refine ⟨by rw [List.length_set]; exact h.len, fun y hy => ?_, ?_⟩
        · rcases List.mem_or_eq_of_mem_set hy with h1 | rfl
          · exact h.by_ y h1
          · exact ⟨Int.natCast_nonneg _, Int.ofNat_lt.2 e2⟩
        · have e3 := set_rev (l := out) (x := (((gw out (size - 1 - i / 8)).toNat + 2 ^ (i % 8) : Nat) : Int)) hlo
          rw [hl] at e3
          have e4 := valL_set hlor (x := (((gw out (size - 1 - i / 8)).toNat + 2 ^ (i % 8) : Nat) : Int))
          rw [Int.toNat_natCast, hgr, h.eq] at e4
          rw [e3, hm]
          have e5 := pow2_8 i
          rw [e5] at e4 ⊢
          generalize 256 ^ (i / 8) = Q at *
          generalize 2 ^ (i % 8) = P at *
          generalize (gw out (size - 1 - i / 8)).toNat = x at *
          rw [Nat.mul_add] at e4
          clear e1 e2 e3 e5 hdig hgr hval hm ih w1 w3 w4 hg
          omega
      refine Ev.step (fun k => ?_) (ih (i + 1) _ hst i1)
      simp only [sacristyref01_Bytes.l0]
      rw [if_pos c1, if_pos c2, if_pos c1, rdB, hx, if_pos rfl, w1, if_pos c3, if_pos c4, w3, if_pos c5, rd_gw, e1, w4, Int.toNat_natCast]
theorem rnb_word (v : Nat) (hv : (toB v).length ≤ 1000000) : wrap64 (Int.tdiv (wrap64 ((((toB v).length : Nat) : Int) + 7)) 8) = ((nb v : Nat) : Int) := by
  unfold nb
  have e1 : wrap64 ((((toB v).length : Nat) : Int) + 7) = (((toB v).length + 7 : Nat) : Int) := by rw [w64 (by omega) (by omega)]; omega
  rw [e1, show (8 : Int) = ((8 : Nat) : Int) from rfl, ← Int.ofNat_tdiv]
  clear e1
  exact w64 (by omega) (by omega)
theorem rBytes_ev (v size : Nat) (hs : nb v ≤ size) (hsz : size ≤ 1000000) (hv : (toB v).length ≤ 1000000) : Ev (fun k => sacristyref01_Bytes.f k (toB v) (size : Int)) (highBytes v size, true) := by
  have hz : Bytes (List.replicate size 0) := fun x hx => by rw [List.eq_of_mem_replicate hx]; decide
  have h : Ev (fun k => sacristyref01_Bytes.l0 k (size : Int) (List.replicate size 0) (toB v) ((toB v).length : Int) 0) (highBytes v size, true) := rBytes_loop v size hs hsz hv (toB v).length 0 (List.replicate size 0) ⟨by simp, hz, by rw [List.reverse_replicate, valL_zeros]; simp [Nat.mod_one]⟩ (by omega)
  have c2 : ¬ ((nb v : Nat) : Int) > (size : Int) := by omega
  have c3 : (0 : Int) ≤ (size : Int) := by omega
  have c4 : size ≤ 281474976710656 := by omega
  refine Ev.congr (fun k => ?_) h
  unfold sacristyref01_Bytes.f
  rw [rnb_word v hv]
  refine (if_neg c2).trans ?_
  refine (if_pos c3).trans ?_
  rw [Int.toNat_natCast]
  refine (if_pos c4).trans ?_
  with_reducible rfl
theorem highBytes_inj {a b : Nat} (h : highBytes a (nb a) = highBytes b (nb b)) : a = b := by
  have hl := congrArg List.length h
  rw [highBytes_length, highBytes_length] at hl
  have h2 : lowBytes a (nb a) = lowBytes b (nb b) := by
    have := congrArg List.reverse h
    simpa [highBytes] using this
  have h3 := congrArg valL h2
  rw [lowBytes_val, lowBytes_val, Nat.mod_eq_of_lt (nb_lt a), Nat.mod_eq_of_lt (nb_lt b)] at h3
  exact h3
end Go.Proofs.Yteejcpbngnojkaa.P
end
section
namespace Go.Proofs.Yteejcpbngnojkaa.P
open Go.RowKit Go.Proofs.YteejcpbngnojkaaW.PrintWords Go.Proofs.YteejcpbngnojkaaW.PrintLast Go.Proofs.YteejcpbngnojkaaW.PrintMore
attribute [local go_sem] max2_int min2_int max_two min_two max_three min_three max_four min_four
set_option linter.unusedVariables false
set_option linter.unusedSimpArgs false
def nat_Nat_Gcd.l0 : Nat → List Int → List Int → Option (List Int)
 |0,_,_ => none
 |k + 1,x719000,x720000 => (nat_Nat_Zero.f x720000).bind fun t721 => (if t721 = true then (some x719000) else ((nat_Nat_Div.f k x719000 x720000).bind fun bt722 => (nat_Nat_Gcd.l0 k x720000 bt722.2.1)))
def nat_Nat_Gcd.f (k : Nat) (l0_0 : List Int) (l1_0 : List Int) : Option (List Int):=nat_Nat_Gcd.l0 k l0_0 l1_0
theorem nat_Nat_Gcd.mono_l : ∀ k,(∀ y0 y1,LeO (nat_Nat_Gcd.l0 k y0 y1) (nat_Nat_Gcd.l0 (k + 1) y0 y1))
 |0 => fun _ _ r h => by simp [nat_Nat_Gcd.l0] at h
 |k + 1 => by
  have ih0:=nat_Nat_Gcd.mono_l k
  ·intro y0 y1
   unfold nat_Nat_Gcd.l0
   repeat' first
   |(with_reducible exact ih0 _ _)
   |(with_reducible exact nat_Nat_Div.mono _ _ _)
   |(with_reducible exact LeO.refl _)
   |(with_reducible exact LeO.none _)
   |(with_reducible refine LeO.ite ?_ ?_)
   |(with_reducible refine LeO.bind ?_ (fun _ => ?_))
   |exact ih0 _ _
   |exact nat_Nat_Div.mono _ _ _
   |exact LeO.none _
   |refine LeO.ite ?_ ?_
   |refine LeO.bind ?_ (fun _ => ?_)
theorem nat_Nat_Gcd.mono : ∀ a0 a1 k,LeO (nat_Nat_Gcd.f k a0 a1) (nat_Nat_Gcd.f (k + 1) a0 a1):=by
 intro a0 a1 k
 have ih0:=nat_Nat_Gcd.mono_l k
 unfold nat_Nat_Gcd.f
 repeat' first
   |(with_reducible exact ih0 _ _)
   |(with_reducible exact nat_Nat_Div.mono _ _ _)
   |(with_reducible exact LeO.refl _)
   |(with_reducible exact LeO.none _)
   |(with_reducible refine LeO.ite ?_ ?_)
   |(with_reducible refine LeO.bind ?_ (fun _ => ?_))
   |exact ih0 _ _
   |exact nat_Nat_Div.mono _ _ _
   |exact LeO.none _
   |refine LeO.ite ?_ ?_
   |refine LeO.bind ?_ (fun _ => ?_)
end Go.Proofs.Yteejcpbngnojkaa.P
end
section
namespace Go.Proofs.Yteejcpbngnojkaa.P
open Go.RowKit Go.Proofs.YteejcpbngnojkaaW.PrintWords Go.Proofs.YteejcpbngnojkaaW.PrintLast Go.Proofs.YteejcpbngnojkaaW.PrintMore
open Go.Proofs.Yteejcpbngnojkaa.Num
set_option linter.unusedVariables false
theorem str_inj {xs ys : List Int} (hx : Bytes xs) (hy : Bytes ys) : (strOfNums xs).toList = (strOfNums ys).toList ↔ xs = ys := by
  constructor
  · intro h
    rw [Lib.strOfNums_toList, Lib.strOfNums_toList] at h
    have h3 : xs.map (fun n => UInt8.ofNat n.toNat) = ys.map (fun n => UInt8.ofNat n.toNat) := h
    refine List.ext_getElem (by have := congrArg List.length h3; simpa using this) fun i h1 h4 => ?_
    have h5 := congrArg (fun l => l[i]?) h3
    simp only [List.getElem?_map, List.getElem?_eq_getElem h1, List.getElem?_eq_getElem h4, Option.map_some, Option.some.injEq] at h5
    have g1 := hx _ (List.getElem_mem h1)
    have g2 := hy _ (List.getElem_mem h4)
    have h6 := congrArg UInt8.toNat h5
    rw [UInt8.toNat_ofNat_of_lt' (by show _ < 256; omega), UInt8.toNat_ofNat_of_lt' (by show _ < 256; omega)] at h6
    omega
  · rintro rfl; rfl
theorem toB_of_W {v : Nat} {n : Nat} (hv : v < pw n) : (toB v).length ≤ 32 * n := toB_len_le _ _ (by rwa [pw_two] at hv)
theorem Same_ev (a b : Nat) (ha : (toW a).length ≤ 1000) (hb : (toB b).length ≤ 1000000) : Ev (fun k => sacristylaw01_Same.f k (toW a) (toB b)) (decide (a = b)) := by
  have h1 := Least_ev a ha
  have h2 := rBytes_ev b (nb b) (Nat.le_refl _) (by unfold nb; omega) hb
  have e : ((strOfNums (highBytes a (nb a))).toList == (strOfNums (highBytes b (nb b))).toList) = decide (a = b) := by
    rw [Bool.eq_iff_iff, beq_iff_eq, decide_eq_true_iff, str_inj (highBytes_bytes _ _) (highBytes_bytes _ _)]
    exact ⟨fun h => highBytes_inj h, fun h => by rw [h]⟩
  rw [← e]
  refine Ev.congr (fun k => ?_) (Ev.bind (f := fun k bt => (nat_Nat_Least.f k (toW a)).bind fun t317 => some ((strOfNums t317).toList == (strOfNums bt.1).toList)) h2 (Ev.bind h1 (f := fun _ t317 => some ((strOfNums t317).toList == (strOfNums (highBytes b (nb b))).toList)) (Ev.now _)))
  unfold sacristylaw01_Same.f
  rw [rnb_word b hb]
theorem Same_true (a : Nat) (ha : (toW a).length ≤ 1000) : Ev (fun k => sacristylaw01_Same.f k (toW a) (toB a)) true := by
  have := Same_ev a a ha (Nat.le_trans (toB_of_W (toW_lt a)) (by omega))
  simpa using this
theorem mn_nat (a b : Nat) : mn (a : Int) (b : Int) = ((min a b : Nat) : Int) := by unfold mn; split <;> omega
def num48 (l : List Int) : Nat := valH (l.take 48)
theorem num48_lt (l : List Int) (hb : Bytes l) : num48 l < pw 12 := by
  have h := valH_lt (hb.take 48)
  refine Nat.lt_of_lt_of_le h (Nat.le_trans (Nat.pow_le_pow_right (by decide) (List.length_take_le ..)) ?_)
  exact Nat.le_of_eq (by rw [pow256]; decide)
theorem num48_W (l : List Int) (hb : Bytes l) : (toW (num48 l)).length ≤ 12 := toW_len_le _ _ (num48_lt l hb)
theorem num48_B (l : List Int) (hb : Bytes l) : (toB (num48 l)).length ≤ 384 := toB_of_W (num48_lt l hb)
theorem take_min (l : List Int) (n : Nat) : l.take (min l.length n) = l.take n := by
  by_cases h : n ≤ l.length
  · rw [Nat.min_eq_right h]
  · rw [Nat.min_eq_left (by omega), List.take_length, List.take_of_length_le (by omega)]
theorem Num_ev (l : List Int) (hb : Bytes l) : Ev (fun k => sacristylaw01_Num.f k l) (toW (num48 l)) := by
  have h := FromBytes_ev (l.take 48) (hb.take 48) (Nat.le_trans (List.length_take_le ..) (by decide))
  have hm : mn (l.length : Int) 48 = ((min l.length 48 : Nat) : Int) := mn_nat _ 48
  have c1 : (0 : Int) ≤ ((min l.length 48 : Nat) : Int) := Int.natCast_nonneg _
  have c2 : ((min l.length 48 : Nat) : Int) ≤ (l.length : Int) := Int.ofNat_le.2 (Nat.min_le_left ..)
  refine Ev.congr (fun k => ?_) (Ev.bind (f := fun _ bt => some bt.1) h (Ev.now _))
  unfold sacristylaw01_Num.f
  rw [hm, if_pos c1, if_pos c2, Int.toNat_natCast, take_min]
theorem ref_ev (l : List Int) (hb : Bytes l) : Ev (fun k => sacristylaw01_ref.f k l) (toB (num48 l)) := by
  have h := rOf_ev (l.take 48) (hb.take 48) (Nat.le_trans (List.length_take_le ..) (by decide))
  have hm : mn (l.length : Int) 48 = ((min l.length 48 : Nat) : Int) := mn_nat _ 48
  have c1 : (0 : Int) ≤ ((min l.length 48 : Nat) : Int) := Int.natCast_nonneg _
  have c2 : ((min l.length 48 : Nat) : Int) ≤ (l.length : Int) := Int.ofNat_le.2 (Nat.min_le_left ..)
  refine Ev.congr (fun k => ?_) (Ev.bind (f := fun _ t => some t) h (Ev.now _))
  unfold sacristylaw01_ref.f
  rw [hm, if_pos c1, if_pos c2, Int.toNat_natCast, take_min]
theorem Div_toW (k a b : Nat) (hb : 0 < b) (ha : (toW a).length ≤ 1048576) (hbl : (toW b).length ≤ 1048576) : nat_Nat_Div.f k (toW a) (toW b) = some (toW (a / b), toW (a % b), 0) := by
  unfold nat_Nat_Div.f
  rw [if_pos (by rw [canonB_toW, canonB_toW]; simp [ha, hbl]), valW_toW, valW_toW, if_neg (by omega)]
theorem toW_small (n : Nat) (h : n < 4294967296) : (toW n).length ≤ 1 := toW_len_le 1 n (by simpa [pw] using h)
theorem lives_ev : Ev (fun k => sacristylaw01_lives.f k) true := by
  have n7 := New_ev 7 (by decide) (by decide)
  have n2 := New_ev 2 (by decide) (by decide)
  have s3 := rSmall 3 (by decide)
  have s1 := rSmall 1 (by decide)
  have m3 := Same_true 3 (Nat.le_trans (toW_small 3 (by decide)) (by decide))
  have m1 := Same_true 1 (Nat.le_trans (toW_small 1 (by decide)) (by decide))
  unfold sacristylaw01_lives.f
  refine Ev.bind n7 (Ev.bind n2 ?_)
  have hd : ∀ k, nat_Nat_Div.f k (toW (7 : Int).toNat) (toW (2 : Int).toNat) = some (toW 3, toW 1, 0) := fun k => Div_toW k 7 2 (by decide) (Nat.le_trans (toW_small 7 (by decide)) (by decide)) (Nat.le_trans (toW_small 2 (by decide)) (by decide))
  refine Ev.congr (f := fun k => (sacristyref01_Small.f k 3).bind fun t435 => (sacristylaw01_Same.f k (toW 3) t435).bind fun t438 => if t438 = true then ((sacristyref01_Small.f k 1).bind fun t439 => (sacristylaw01_Same.f k (toW 1) t439).bind fun t442 => some t442) else some false) (fun k => ?_) ?_
  · rw [hd]
    refine (Option.bind_some _ _).trans ?_
    exact if_pos rfl
  · refine Ev.bind s3 (Ev.bind m3 ?_)
    refine Ev.congr (fun k => if_pos rfl) ?_
    exact Ev.bind s1 (Ev.bind (f := fun _ t442 => some t442) m1 (Ev.now _))
end Go.Proofs.Yteejcpbngnojkaa.P
end
section
namespace Go.Proofs.Yteejcpbngnojkaa.P
open Go.RowKit Go.Proofs.YteejcpbngnojkaaW.PrintWords Go.Proofs.YteejcpbngnojkaaW.PrintLast Go.Proofs.YteejcpbngnojkaaW.PrintMore
attribute [local go_sem] max2_int min2_int max_two min_two max_three min_three max_four min_four
set_option linter.unusedVariables false
set_option linter.unusedSimpArgs false
def nat_Nat_Sub.l0 : Nat → List Int → Int → List Int → Int → Int → List Int → Option (List Int × Bool)
 |0,_,_,_,_,_,_ => none
 |k + 1,x6,x7,x21,x22,x23,x584000 => if x23 < x22 then (if 0 ≤ x23 then (if x23 < (x21.length : Int) then (if x23 < (x584000.length : Int) then (if (wrap64 ((wrap64 ((wrap64 (rd x21 x23)) - x7)) - (wrap64 (rd x584000 x23)))) < 0 then (if x23 < (x6.length : Int) then (nat_Nat_Sub.l0 k (x6.set (x23 : Int).toNat ((wrap64 ((wrap64 ((wrap64 ((wrap64 (rd x21 x23)) - x7)) - (wrap64 (rd x584000 x23)))) + 4294967296)) % 4294967296)) 1 x21 x22 (wrap64 (x23 + 1)) x584000) else (none)) else (if x23 < (x6.length : Int) then (nat_Nat_Sub.l0 k (x6.set (x23 : Int).toNat ((wrap64 ((wrap64 ((wrap64 (rd x21 x23)) - x7)) - (wrap64 (rd x584000 x23)))) % 4294967296)) 0 x21 x22 (wrap64 (x23 + 1)) x584000) else (none))) else (if (wrap64 ((wrap64 (rd x21 x23)) - x7)) < 0 then (if x23 < (x6.length : Int) then (nat_Nat_Sub.l0 k (x6.set (x23 : Int).toNat ((wrap64 ((wrap64 ((wrap64 (rd x21 x23)) - x7)) + 4294967296)) % 4294967296)) 1 x21 x22 (wrap64 (x23 + 1)) x584000) else (none)) else (if x23 < (x6.length : Int) then (nat_Nat_Sub.l0 k (x6.set (x23 : Int).toNat ((wrap64 ((wrap64 (rd x21 x23)) - x7)) % 4294967296)) 0 x21 x22 (wrap64 (x23 + 1)) x584000) else (none)))) else (none)) else (none)) else ((nat_trim.f k x6).bind fun t589 => (some (t589,true)))
def nat_Nat_Sub.f (k : Nat) (l0_0 : List Int) (l1_0 : List Int) : Option (List Int × Bool):=(nat_Nat_Cmp.f k l0_0 l1_0).bind fun t585 => (if t585 < 0 then (some (([] : List Int),false)) else (if 0 ≤ (l0_0.length : Int) then (if ((l0_0.length : Int) : Int).toNat ≤ 70368744177664 then (nat_Nat_Sub.l0 k (List.replicate ((l0_0.length : Int) : Int).toNat 0) 0 l0_0 (l0_0.length : Int) 0 l1_0) else (none)) else (none)))
theorem nat_Nat_Sub.mono_l : ∀ k,(∀ y0 y1 y2 y3 y4 y5,LeO (nat_Nat_Sub.l0 k y0 y1 y2 y3 y4 y5) (nat_Nat_Sub.l0 (k + 1) y0 y1 y2 y3 y4 y5))
 |0 => fun _ _ _ _ _ _ r h => by simp [nat_Nat_Sub.l0] at h
 |k + 1 => by
  have ih0:=nat_Nat_Sub.mono_l k
  ·intro y0 y1 y2 y3 y4 y5
   unfold nat_Nat_Sub.l0
   repeat' first
   |(with_reducible exact ih0 _ _ _ _ _ _)
   |(with_reducible exact nat_Nat_Cmp.mono _ _ _)
   |(with_reducible exact nat_trim.mono _ _)
   |(with_reducible exact LeO.refl _)
   |(with_reducible exact LeO.none _)
   |(with_reducible refine LeO.ite ?_ ?_)
   |(with_reducible refine LeO.bind ?_ (fun _ => ?_))
   |exact ih0 _ _ _ _ _ _
   |exact nat_Nat_Cmp.mono _ _ _
   |exact nat_trim.mono _ _
   |exact LeO.none _
   |refine LeO.ite ?_ ?_
   |refine LeO.bind ?_ (fun _ => ?_)
theorem nat_Nat_Sub.mono : ∀ a0 a1 k,LeO (nat_Nat_Sub.f k a0 a1) (nat_Nat_Sub.f (k + 1) a0 a1):=by
 intro a0 a1 k
 have ih0:=nat_Nat_Sub.mono_l k
 unfold nat_Nat_Sub.f
 repeat' first
   |(with_reducible exact ih0 _ _ _ _ _ _)
   |(with_reducible exact nat_Nat_Cmp.mono _ _ _)
   |(with_reducible exact nat_trim.mono _ _)
   |(with_reducible exact LeO.refl _)
   |(with_reducible exact LeO.none _)
   |(with_reducible refine LeO.ite ?_ ?_)
   |(with_reducible refine LeO.bind ?_ (fun _ => ?_))
   |exact ih0 _ _ _ _ _ _
   |exact nat_Nat_Cmp.mono _ _ _
   |exact nat_trim.mono _ _
   |exact LeO.none _
   |refine LeO.ite ?_ ?_
   |refine LeO.bind ?_ (fun _ => ?_)
end Go.Proofs.Yteejcpbngnojkaa.P
end
section
namespace Go.Proofs.Yteejcpbngnojkaa.P
open Go.RowKit Go.Proofs.YteejcpbngnojkaaW.PrintWords Go.Proofs.YteejcpbngnojkaaW.PrintLast Go.Proofs.YteejcpbngnojkaaW.PrintMore
attribute [local go_sem] max2_int min2_int max_two min_two max_three min_three max_four min_four
set_option linter.unusedVariables false
set_option linter.unusedSimpArgs false
def nat_Nat_Bit.f (l0_0 : List Int) (a1 : Int) : Option (Int):=if a1 < 0 then (some 0) else (if (wrap64 (Int.tdiv a1 32)) ≥ (l0_0.length : Int) then (some 0) else (if 0 ≤ (wrap64 (Int.tdiv a1 32)) then (if (wrap64 (Int.tdiv a1 32)) < (l0_0.length : Int) then (if 0 ≤ (Int.tmod a1 32) then (some (wrap64 (Go.bits .and .u32 (shr .u32 (rd l0_0 (wrap64 (Int.tdiv a1 32))) (Int.tmod a1 32)) 1))) else (none)) else (none)) else (none)))
end Go.Proofs.Yteejcpbngnojkaa.P
end
section
namespace Go.Proofs.Yteejcpbngnojkaa.P
open Go.RowKit Go.Proofs.YteejcpbngnojkaaW.PrintWords Go.Proofs.YteejcpbngnojkaaW.PrintLast Go.Proofs.YteejcpbngnojkaaW.PrintMore
open Go.Proofs.Yteejcpbngnojkaa.Num
set_option linter.unusedVariables false
theorem u64_join (a b i : Nat) (hi : i ≤ 1) (ha : a < 2 ^ (32 * i)) (hb : b < 4294967296) : Go.bits .or .u64 (a : Int) (shl .u64 (IntKind.u64.wrap (b : Int)) ((32 * i : Nat) : Int)) = ((a + pw i * b : Nat) : Int) := by
  have hb64 : IntKind.u64.wrap (b : Int) = (b : Int) := wu64 (by omega) (by omega)
  have hmin : min (32 * i) IntKind.u64.bits = 32 * i := Nat.min_eq_left (by show 32 * i ≤ 64; omega)
  have hs : shl .u64 (b : Int) ((32 * i : Nat) : Int) = ((b * 2 ^ (32 * i) : Nat) : Int) := by
    unfold shl
    rw [Int.toNat_natCast, hmin]
    have e2 : (b : Int) * 2 ^ (32 * i) = ((b * 2 ^ (32 * i) : Nat) : Int) := by simp
    rw [e2]
    rcases Nat.le_one_iff_eq_zero_or_eq_one.1 hi with rfl | rfl <;> exact wu64 (by omega) (by omega)
  rw [hb64, hs]
  rcases Nat.le_one_iff_eq_zero_or_eq_one.1 hi with rfl | rfl
  · have h0 : a = 0 := by simpa using ha
    subst h0
    rw [bits_join_low .u64 64 (by decide) (fun n h0 h1 => wu64 h0 h1) 0 _ _ (by omega) (by omega) (by omega) (by omega) (by omega) (by omega)]
    rw [pw_zero]; omega
  · rw [bits_join_low .u64 64 (by decide) (fun n h0 h1 => wu64 h0 h1) 32 _ _ (by omega) (by omega) (by omega) (by omega) (by omega) (by omega)]
    have : pw 1 = 4294967296 := rfl
    rw [this]; omega
theorem uint_loop (l : List Int) (hl : Sized l) (h2 : l.length ≤ 2) (d : Nat) : ∀ i, i + d = l.length → Ev (fun k => nat_Nat_Uint.l0 k ((valW (l.take i) : Nat) : Int) l (l.length : Int) (i : Int)) (((valW l : Nat) : Int), true) := by
  induction d with
  | zero =>
    intro i hi
    obtain rfl : i = l.length := by omega
    have c1 : ¬ ((l.length : Nat) : Int) < (l.length : Int) := by omega
    rw [List.take_length]
    exact Ev.step (fun k => by simp only [nat_Nat_Uint.l0]; rw [if_neg c1]) (Ev.now _)
  | succ d ih =>
    intro i hi
    have gx := hl.gw i
    obtain ⟨x, hx⟩ := Int.eq_ofNat_of_zero_le gx.1
    rw [hx] at gx
    have hx4 : x < 4294967296 := by omega
    have c1 : (i : Int) < (l.length : Int) := by omega
    have c2 : (0 : Int) ≤ (i : Int) := by omega
    have c3 : (0 : Int) ≤ ((32 * i : Nat) : Int) := by omega
    have hi1 : i ≤ 1 := by omega
    have hil : i < l.length := by omega
    have ha : valW (l.take i) < 2 ^ (32 * i) := by
      have := valW_lt (hl.take i)
      rw [List.length_take, Nat.min_eq_left (by omega), pw_two] at this
      exact this
    have hj := u64_join (valW (l.take i)) x i hi1 ha hx4
    have hv := valW_snoc hil
    rw [hx, Int.toNat_natCast] at hv
    have w1 : wrap64 (32 * (i : Int)) = ((32 * i : Nat) : Int) := by rw [w64 (by omega) (by omega)]; omega
    have w2 := winc (n := i) (by omega)
    refine Ev.step (fun k => ?_) (ih (i + 1) (by omega))
    simp only [nat_Nat_Uint.l0]
    rw [if_pos c1, if_pos c2, if_pos c1, w1, if_pos c3, rd_gw, hx, hj, w2, ← hv]
theorem Uint_small (n : Nat) (h : n < 18446744073709551616) : Ev (fun k => nat_Nat_Uint.f k (toW n)) ((n : Int), true) := by
  have h2 : (toW n).length ≤ 2 := toW_len_le 2 n (by simpa [pw] using h)
  have hl := uint_loop (toW n) (toW_sized n) h2 (toW n).length 0 (by omega)
  rw [valW_toW, List.take_zero, valW_nil] at hl
  have c1 : ¬ ((toW n).length : Int) > 2 := by omega
  refine Ev.congr (fun k => ?_) hl
  unfold nat_Nat_Uint.f
  exact if_neg c1
theorem Uint_great (k n : Nat) (h : 18446744073709551616 ≤ n) : nat_Nat_Uint.f k (toW n) = some (0, false) := by
  have h2 : 2 < (toW n).length := toW_len_gt 2 n (by simpa [pw] using h)
  unfold nat_Nat_Uint.f
  exact if_pos (by omega)
end Go.Proofs.Yteejcpbngnojkaa.P
end
section
namespace Go.Proofs.Yteejcpbngnojkaa.Pure
open Go.RowKit Go.Proofs.Yteejcpbngnojkaa.P Go.Proofs.YteejcpbngnojkaaW.PrintWords Go.Proofs.YteejcpbngnojkaaW.PrintLast Go.Proofs.YteejcpbngnojkaaW.PrintMore
open Go.Proofs.Yteejcpbngnojkaa.Num
set_option linter.unusedVariables false
theorem bytes_of_wf {l : List Int} (h : ∀ x ∈ l, (Lit.int .u8 x).wf = true) : Bytes l := fun x hx => by
  have := h x hx
  simp [Lit.wf, IntKind.min, IntKind.max, IntKind.bits, IntKind.signed] at this
  omega
theorem NatSmall : sacristylaw01_NatSmall.Pure := by
  intro a0 l1 h0 _ _ b1
  have B1 := bytes_of_wf b1
  have hu : 0 ≤ a0 ∧ a0 < 18446744073709551616 := by
    simp [Lit.wf, IntKind.min, IntKind.max, IntKind.bits, IntKind.signed] at h0
    omega
  obtain ⟨u, rfl⟩ := Int.eq_ofNat_of_zero_le hu.1
  have hu64 : u < 18446744073709551616 := by omega
  refine Ev.rounds ?_
  unfold sacristylaw01_NatSmall.f
  refine Ev.bind lives_ev ?_
  refine Ev.congr (fun k => if_pos rfl) ?_
  have lb := num48_W _ B1
  have rb := num48_B _ B1
  have nb := Num_ev _ B1
  have fb := ref_ev _ B1
  generalize num48 l1 = b at *
  have hn := New_ev (u : Int) hu.1 hu.2
  rw [Int.toNat_natCast] at hn
  have hU := Uint_small u hu64
  have hs := rSmall u hu64
  have hul : (toW u).length ≤ 2 := toW_len_le 2 u (by simpa [pw] using hu64)
  have hS := Same_true u (by omega)
  have hSb := Same_true b (by omega)
  have fin : ∀ (m : Int) (y : Bool), Ev (fun k => nat_Nat_Uint.f k (toW b)) (m, y) → (y != decide (((toB b).length : Int) ≤ 64)) = false → Ev (fun k => sacristylaw01_NatSmall.j0 k m y (toB b) false) true → Ev (fun k => (nat_New.f k (u : Int)).bind fun t825 => (nat_Nat_Uint.f k t825).bind fun bt828 => (sacristylaw01_Num.f k l1).bind fun t830 => (nat_Nat_Uint.f k t830).bind fun bt833 => (sacristylaw01_ref.f k l1).bind fun t835 => (if bt828.2 = true then (if bt828.1 = (u : Int) then ((nat_New.f k (u : Int)).bind fun t838 => ((sacristyref01_Small.f k (u : Int)).bind fun t841 => ((sacristylaw01_Same.f k t838 t841).bind fun t844 => (if t844 = true then (sacristylaw01_NatSmall.j0 k bt833.1 bt833.2 t835 (bt833.2 != (decide ((t835.length : Int) ≤ 64)))) else (sacristylaw01_NatSmall.j0 k bt833.1 bt833.2 t835 true))))) else (sacristylaw01_NatSmall.j0 k bt833.1 bt833.2 t835 true)) else (sacristylaw01_NatSmall.j0 k bt833.1 bt833.2 t835 true))) true := by
    intro m y hb hy hj
    refine Ev.bind hn ?_
    refine Ev.bind hU ?_
    refine Ev.bind nb ?_
    refine Ev.bind hb ?_
    refine Ev.bind fb ?_
    refine Ev.congr (fun k => (if_pos rfl).trans (if_pos rfl)) ?_
    refine Ev.bind hn ?_
    refine Ev.bind hs ?_
    refine Ev.bind hS ?_
    refine Ev.congr (fun k => if_pos rfl) ?_
    refine Ev.congr (fun k => ?_) hj
    show sacristylaw01_NatSmall.j0 k m y (toB b) (y != decide (((toB b).length : Int) ≤ 64)) = _
    rw [hy]
  by_cases h64 : b < 18446744073709551616
  · have hl : (toB b).length ≤ 64 := toB_len_le 64 b (by simpa using h64)
    refine fin _ _ (Uint_small b h64) ?_ ?_
    · have : decide (((toB b).length : Int) ≤ 64) = true := decide_eq_true (by omega)
      rw [this]; rfl
    · have hnb := New_ev (b : Int) (by omega) (by omega)
      rw [Int.toNat_natCast] at hnb
      refine Ev.step (f := fun k => (nat_New.f k (b : Int)).bind fun t845 => (sacristylaw01_Same.f k t845 (toB b)).bind fun t848 => if t848 = true then some true else none) (fun k => ?_) ?_
      · simp only [sacristylaw01_NatSmall.j0]
        exact (if_neg (by decide)).trans (if_pos trivial)
      · refine Ev.bind hnb ?_
        refine Ev.bind hSb ?_
        exact Ev.congr (fun k => if_pos rfl) (Ev.now _)
  · have hl : 64 < (toB b).length := toB_len_gt 64 b (by simpa using h64)
    refine fin 0 false ⟨0, fun k _ => Uint_great k b (by omega)⟩ ?_ ?_
    · have : decide (((toB b).length : Int) ≤ 64) = false := decide_eq_false (by omega)
      rw [this]; rfl
    · refine Ev.step (f := fun k => some true) (fun k => ?_) (Ev.now _)
      simp only [sacristylaw01_NatSmall.j0]
      exact (if_neg (by decide)).trans (if_neg (by decide))
end Go.Proofs.Yteejcpbngnojkaa.Pure
end
section
namespace Go.Proofs.Yteejcpbngnojkaa.Head
open Go
def hd : List Char := ['h', 'a', 'r', 'n', 'e', 's', 's']
def sm : List Char := ['1', '8', 'e', 'b', '4', '4', '3', '4', '8', '7', 'b', 'c', 'a', 'd', 'e', '8', '1', '4', '1', 'e', '3', 'b', 'e', '1', '8', '2', '5', '9', '4', '4', '6', '3', 'a', '2', 'd', 'e', 'd', '6', 'd', 'a', 'e', 'b', 'f', 'a', '9', 'e', 'f', '2', 'e', '8', '6', '2', '7', '8', '6', 'b', '2', '1', '5', '3', 'b', 'd', '8', '1']
def ct : List Char := ['c', 'u', 't']
def rs : List Char := ['a', 't', ' ', 's', 'a', 'c', 'r', 'i', 's', 't', 'y', '/', 's', 'a', 'c', 'r', 'i', 's', 't', 'y', 'l', 'a', 'w', '0', '5', '.', 'S', 't', 'r', 'e', 'a', 'm', 'B', 'l', 'o', 'c', 'k', 's', ' ', 's', 'a', 'c', 'r', 'i', 's', 't', 'y', '/', 's', 'a', 'c', 'r', 'i', 's', 't', 'y', 'l', 'a', 'w', '0', '5', '.', 'S', 't', 'r', 'e', 'a', 'm', 'X', 'o', 'r', 's', ' ', 's', 'a', 'c', 'r', 'i', 's', 't', 'y', '/', 's', 'a', 'c', 'r', 'i', 's', 't', 'y', 'l', 'a', 'w', '0', '5', '.', 'S', 't', 'r', 'e', 'a', 'm', 'B', 'a', 'c', 'k', ' ', 's', 'a', 'c', 'r', 'i', 's', 't', 'y', '/', 's', 'a', 'c', 'r', 'i', 's', 't', 'y', 'l', 'a', 'w', '0', '5', '.', 'S', 't', 'r', 'e', 'a', 'm', 'P', 'a', 'r', 't', 's', ' ', 's', 'a', 'c', 'r', 'i', 's', 't', 'y', '/', 's', 'a', 'c', 'r', 'i', 's', 't', 'y', 'l', 'a', 'w', '0', '1', '.', 'N', 'a', 't', 'B', 'y', 't', 'e', 's', ' ', 's', 'a', 'c', 'r', 'i', 's', 't', 'y', '/', 's', 'a', 'c', 'r', 'i', 's', 't', 'y', 'l', 'a', 'w', '0', '1', '.', 'N', 'a', 't', 'B', 'i', 't', 's', ' ', 's', 'a', 'c', 'r', 'i', 's', 't', 'y', '/', 's', 'a', 'c', 'r', 'i', 's', 't', 'y', 'l', 'a', 'w', '0', '7', '.', 'B', 'o', 'x', 'B', 'a', 'c', 'k', ' ', 's', 'a', 'c', 'r', 'i', 's', 't', 'y', '/', 's', 'a', 'c', 'r', 'i', 's', 't', 'y', 'l', 'a', 'w', '0', '1', '.', 'N', 'a', 't', 'G', 'c', 'd', 's', ' ', 's', 'a', 'c', 'r', 'i', 's', 't', 'y', '/', 's', 'a', 'c', 'r', 'i', 's', 't', 'y', 'l', 'a', 'w', '0', '1', '.', 'N', 'a', 't', 'S', 'm', 'a', 'l', 'l', ' ', 's', 'a', 'c', 'r', 'i', 's', 't', 'y', '/', 's', 'a', 'c', 'r', 'i', 's', 't', 'y', 'l', 'a', 'w', '0', '7', '.', 'B', 'o', 'x', 'S', 'h', 'o', 'r', 't', ' ', 's', 'a', 'c', 'r', 'i', 's', 't', 'y', '/', 's', 'a', 'c', 'r', 'i', 's', 't', 'y', 'l', 'a', 'w', '0', '1', '.', 'N', 'a', 't', 'P', 'r', 'o', 'd', 'u', 'c', 't', 's', ' ', 's', 'a', 'c', 'r', 'i', 's', 't', 'y', '/', 's', 'a', 'c', 'r', 'i', 's', 't', 'y', 'l', 'a', 'w', '0', '1', '.', 'N', 'a', 't', 'B', 'a', 'c', 'k', ' ', 's', 'a', 'c', 'r', 'i', 's', 't', 'y', '/', 's', 'a', 'c', 'r', 'i', 's', 't', 'y', 'l', 'a', 'w', '0', '1', '.', 'N', 'a', 't', 'O', 'r', 'd', 'e', 'r', 's', ' ', 's', 'a', 'c', 'r', 'i', 's', 't', 'y', '/', 's', 'a', 'c', 'r', 'i', 's', 't', 'y', 'l', 'a', 'w', '0', '1', '.', 'N', 'a', 't', 'S', 'u', 'm', 's', ' ', 's', 'a', 'c', 'r', 'i', 's', 't', 'y', '/', 's', 'a', 'c', 'r', 'i', 's', 't', 'y', 'l', 'a', 'w', '0', '1', '.', 'N', 'a', 't', 'R', 'u', 'l', 'e', 's', ' ', 's', 'a', 'c', 'r', 'i', 's', 't', 'y', '/', 's', 'a', 'c', 'r', 'i', 's', 't', 'y', 'l', 'a', 'w', '0', '6', '.', 'T', 'a', 'g', 'T', 'a', 'g', 's', ' ', 's', 'a', 'c', 'r', 'i', 's', 't', 'y', '/', 's', 'a', 'c', 'r', 'i', 's', 't', 'y', 'l', 'a', 'w', '0', '6', '.', 'T', 'a', 'g', 'N', 'o', 'n', 'e', ' ', 's', 'a', 'c', 'r', 'i', 's', 't', 'y', '/', 's', 'a', 'c', 'r', 'i', 's', 't', 'y', 'l', 'a', 'w', '0', '6', '.', 'T', 'a', 'g', 'A', 'd', 'd', 's', ' ', 's', 'a', 'c', 'r', 'i', 's', 't', 'y', '/', 's', 'a', 'c', 'r', 'i', 's', 't', 'y', 'l', 'a', 'w', '0', '2', '.', 'M', 'o', 'd', 'S', 'u', 'm', 's', ' ', 's', 'a', 'c', 'r', 'i', 's', 't', 'y', '/', 's', 'a', 'c', 'r', 'i', 's', 't', 'y', 'l', 'a', 'w', '0', '8', '.', 'C', 'e', 'r', 't', 'S', 'm', 'a', 'l', 'l', 's', ' ', 's', 'a', 'c', 'r', 'i', 's', 't', 'y', '/', 's', 'a', 'c', 'r', 'i', 's', 't', 'y', 'l', 'a', 'w', '0', '8', '.', 'C', 'e', 'r', 't', 'F', 'r', 'o', 'n', 't', 's', ' ', 's', 'a', 'c', 'r', 'i', 's', 't', 'y', '/', 's', 'a', 'c', 'r', 'i', 's', 't', 'y', 'l', 'a', 'w', '0', '8', '.', 'C', 'e', 'r', 't', 'C', 'h', 'e', 'c', 'k', 's', ' ', 's', 'a', 'c', 'r', 'i', 's', 't', 'y', '/', 's', 'a', 'c', 'r', 'i', 's', 't', 'y', 'l', 'a', 'w', '0', '8', '.', 'C', 'e', 'r', 't', 'P', 'r', 'i', 'm', 'e', 's', ' ', 's', 'a', 'c', 'r', 'i', 's', 't', 'y', '/', 's', 'a', 'c', 'r', 'i', 's', 't', 'y', 'l', 'a', 'w', '0', '7', '.', 'B', 'o', 'x', 'S', 'e', 'a', 'l', 's', ' ', 's', 'a', 'c', 'r', 'i', 's', 't', 'y', '/', 's', 'a', 'c', 'r', 'i', 's', 't', 'y', 'l', 'a', 'w', '0', '7', '.', 'B', 'o', 'x', 'O', 'p', 'e', 'n', 's']
set_option maxRecDepth 100000 in
theorem init_chars : Try.prog.initOrder.toList = hd ++ ' ' :: (sm ++ ' ' :: (ct ++ ' ' :: rs)) :=
  (String.toList_ofList : (String.ofList (hd ++ ' ' :: (sm ++ ' ' :: (ct ++ ' ' :: rs)))).toList = _)
theorem words_cons (a r : List Char) (h : ∀ c ∈ a, c ≠ ' ') : wordsSigns (a ++ ' ' :: r) = a :: wordsSigns r := by
  induction a with
  | nil => rfl
  | cons c a ih =>
    have hc : c ≠ ' ' := h c List.mem_cons_self
    have := ih fun x hx => h x (List.mem_cons_of_mem _ hx)
    rw [List.cons_append, wordsSigns.eq_3 _ _ (fun e => hc e), this]
theorem init_words : ∃ r, wordsSigns Try.prog.initOrder.toList = hd :: sm :: ct :: r := by
  refine ⟨wordsSigns rs, ?_⟩
  rw [init_chars, words_cons _ _ (by decide), words_cons _ _ (by decide), words_cons _ _ (by decide)]
theorem behind (r : List (List Char)) : behindMainWord (hd :: sm :: ct :: r) = ct :: r := by
  unfold behindMainWord
  dsimp only
  rw [if_pos (by decide +kernel)]
theorem init_behind : ∃ r, behindMainWord (wordsSigns Try.prog.initOrder.toList) = ct :: r := by
  obtain ⟨r, h⟩ := init_words
  exact ⟨r, by rw [h, behind]⟩
theorem strip (os : List String) (h : ∀ o ∈ os, (ct == o.toList) = false) (r : List (List Char)) : stripLifts os (ct :: r) = ([], ct :: r) := by
  induction os with
  | nil => rfl
  | cons o os ih =>
    rw [stripLifts, h o List.mem_cons_self]
    exact ih fun x hx => h x (List.mem_cons_of_mem _ hx)
theorem strip_lifts (r : List (List Char)) : stripLifts liftWords (ct :: r) = ([], ct :: r) := strip _ (by decide +kernel) r
section
variable (P : Program) (r : List (List Char)) (h : behindMainWord (wordsSigns P.initOrder.toList) = ct :: r)
include h
theorem head_lifts_of : P.headLifts = [] := by
  unfold Program.headLifts
  rw [h, strip_lifts]
  dsimp only
  split <;> rfl
theorem may_enter_of (h1 : P.laysLater = false) (h2 : P.bearsReflect = false) (h3 : P.doorFits [] = true) : P.mayEnter = true := by
  unfold Program.mayEnter
  rw [h]
  dsimp only
  rw [strip_lifts, h1, h2, h3]
  have h4 : (some ct == some "cut".toList) = true := by decide +kernel
  rw [List.head?_cons, h4]
  simp
theorem lifts_final_of : P.liftsFinal = false := by
  unfold Program.liftsFinal
  rw [head_lifts_of P r h]
  dsimp only
  rw [h]
  have h4 : (some ct == some "carried".toList) = false := by decide +kernel
  rw [List.head?_cons, h4]
  rfl
theorem make_cut_of : P.make = some .cut := by
  unfold Program.make
  rw [h]
  dsimp only
  rw [if_neg (by decide +kernel), if_pos (by rw [show (ct == "cut".toList) = true by decide +kernel]; rfl)]
end
theorem lays_later : Try.prog.laysLater = false := by kernel_rfl
theorem bears_reflect : Try.prog.bearsReflect = false := by kernel_rfl
theorem door_fits : Try.prog.doorFits [] = true := by kernel_rfl
theorem may_enter : Try.prog.mayEnter = true := by
  obtain ⟨r, h⟩ := init_behind
  exact may_enter_of _ r h lays_later bears_reflect door_fits
theorem lifts_final : Try.prog.liftsFinal = false := by
  obtain ⟨r, h⟩ := init_behind
  exact lifts_final_of _ r h
theorem make_cut : Try.prog.make = some .cut := by
  obtain ⟨r, h⟩ := init_behind
  exact make_cut_of _ r h
end Go.Proofs.Yteejcpbngnojkaa.Head
end
section
namespace Go.Proofs.YteejcpbngnojkaaW.PrintWords
open Go.ChangeShapes Go.WideShapes
theorem sized_ints {H : Type} {enc : TypeId × Value → H} {P : Program} {W : World} {base : Nat} {spare : Nat → Bool} {held : Bool} {t e : TypeId} {k : IntKind} {a : Option Addr} {len cap : Nat} {d : DataW H} {ps : List MemPlace} {ts : List TypeId} {ds : List (DataW H)} {j : Nat}
    (hsz : (DataW.weightsEach P ts ds).all (· ≤ reachBytes) = true) (ht : ts[j]? = some t) (hd : ds[j]? = some d) (hu : P.underlying t = some (.slice e)) (he : P.underlying e = some (.int k)) (hc : P.cellsOf e = 1) {B : Nat} (hB : P.bytesOf e = B)
    (h : DataW.Trod enc P W base spare held t (.slice a len cap) d ps) : len * B ≤ 140737488351232 := by
  obtain ⟨fuel, hf⟩ := h
  rcases open_ints hu he hc hf with ⟨hcs, _⟩ | ⟨x, l, c, zs, hcs, _, hl, _, hz, hx, _, _⟩
  · simp [Value.cells] at hcs
    obtain ⟨rfl, rfl, rfl⟩ := hcs
    simp
  · simp [Value.cells] at hcs
    obtain ⟨rfl, rfl, rfl⟩ := hcs
    obtain ⟨hx, _⟩ := Prod.mk.inj hx
    subst hx
    have z := sized_slice hsz ht hd hu
    rw [hB] at z
    have hl2 : len ≤ zs.length := by
      rw [hz]
      split
      · exact hl
      · exact Nat.le_refl _
    have h1 : (lits (H := H) k (zs.take len)).length + (lits (H := H) k (zs.drop len)).length = zs.length := by
      simp [lits]
      omega
    rw [h1] at z
    exact Nat.le_trans (Nat.mul_le_mul_right _ hl2) z
end Go.Proofs.YteejcpbngnojkaaW.PrintWords
end
