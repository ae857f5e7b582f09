/- Part of the proof: the walks and the plain arithmetic, in line (wip/tools/pack.py). -/
import Derived.Test.YteejcpbngnojkaaXLawNatBack2
section
namespace Go.Proofs.Yteejcpbngnojkaa.P
open Go.RowKit Go.Shelf Go.Proofs.YteejcpbngnojkaaW.PrintWords Go.Proofs.YteejcpbngnojkaaW.PrintLast Go.Proofs.YteejcpbngnojkaaW.PrintMore
open Go.Proofs.Yteejcpbngnojkaa.Num
set_option linter.unusedVariables false
def nat_Nat_Div.f (_k : Nat) (l0_0 : List Int) (l1_0 : List Int) : Option (List Int × List Int × Int) :=
  if canonB l0_0 && canonB l1_0 && decide (l0_0.length ≤ 1048576) && decide (l1_0.length ≤ 1048576) then (if valW l1_0 = 0 then some ([], [], 5) else some (toW (valW l0_0 / valW l1_0), toW (valW l0_0 % valW l1_0), 0)) else none
theorem nat_Nat_Div.mono : ∀ a0 a1 k, LeO (nat_Nat_Div.f k a0 a1) (nat_Nat_Div.f (k + 1) a0 a1) := fun _ _ _ => LeO.refl _
theorem four_new (w : World) (o0 o1 o2 o3 : Obj) : ((((w.alloc o0).alloc o1).alloc o2).alloc o3).heap[w.heap.size]? = some o0 ∧ ((((w.alloc o0).alloc o1).alloc o2).alloc o3).heap[w.heap.size + 1]? = some o1 ∧ ((((w.alloc o0).alloc o1).alloc o2).alloc o3).heap[w.heap.size + 1 + 1]? = some o2 ∧ ((((w.alloc o0).alloc o1).alloc o2).alloc o3).heap[w.heap.size + 1 + 1 + 1]? = some o3 ∧ Below w.heap.size w ((((w.alloc o0).alloc o1).alloc o2).alloc o3) := by
  refine ⟨blk_alloc (blk_alloc (blk_alloc (blk_new w o0) _) _) _, ?_, ?_, ?_, ?_⟩
  · refine blk_alloc (blk_alloc ?_ _) _
    have := blk_new (w.alloc o0) o1
    simpa only [World.size_alloc] using this
  · refine blk_alloc ?_ _
    have := blk_new ((w.alloc o0).alloc o1) o2
    simpa only [World.size_alloc] using this
  · have := blk_new (((w.alloc o0).alloc o1).alloc o2) o3
    simpa only [World.size_alloc] using this
  · exact ((((Below.refl _ w).alloc (Nat.le_refl _) _).alloc (by simp) _).alloc (by simp; omega) _).alloc (by simp; omega) _
theorem two_end {w W : World} {va vb : Value} (m2 : W.heap[w.heap.size + 1 + 1]? = some (.cells #[.slice none 0 0] 38 (0, 0))) (m3 : W.heap[w.heap.size + 1 + 1 + 1]? = some (.cells #[.slice none 0 0] 38 (0, 0))) (hB : Below w.heap.size w W) (Wf : World)
    (hW : (W.setCell ⟨w.heap.size + 1 + 1, 0, none⟩ va).setCell ⟨w.heap.size + 1 + 1 + 1, 0, none⟩ vb = Wf) :
    Wf.heap[w.heap.size + 1 + 1]? = some (.cells #[va] 38 (0, 0)) ∧ Wf.heap[w.heap.size + 1 + 1 + 1]? = some (.cells #[vb] 38 (0, 0)) ∧ Below w.heap.size w Wf ∧ ∀ (b : Nat) (ok ok' : Nat → Prop) (v : Value) (xs : List Int), Kd.V (Kd.int .u32) 23 W b ok v xs → (∀ k, ok k → (k ≠ w.heap.size + 1 + 1 ∧ k ≠ w.heap.size + 1 + 1 + 1) ∧ ok' k) → Kd.V (Kd.int .u32) 23 Wf w.heap.size ok' v xs := by
  subst hW
  refine ⟨(Below.heap_setCell _ _ _ _ (by show w.heap.size + 1 + 1 ≠ w.heap.size + 1 + 1 + 1; omega)).trans (blk_put m2 0 _ rfl), blk_put ((Below.heap_setCell _ _ _ _ (by show w.heap.size + 1 + 1 + 1 ≠ w.heap.size + 1 + 1; omega)).trans m3) 0 _ rfl,
    (hB.setCell (p := ⟨w.heap.size + 1 + 1, 0, none⟩) (by show w.heap.size ≤ w.heap.size + 1 + 1; omega) _).setCell (p := ⟨w.heap.size + 1 + 1 + 1, 0, none⟩) (by show w.heap.size ≤ w.heap.size + 1 + 1 + 1; omega) _, fun b ok ok' v xs hv ho => ?_⟩
  exact Kd.V_mono (Kd.V_far (Kd.V_far hv (fun k hk => (ho k hk).1.1) _) (fun k hk => (ho k hk).1.2) _) (fun k hk => (ho k hk).2)
set_option maxRecDepth 100000 in
set_option maxHeartbeats 4000000 in
theorem nat_Nat_Div.calls_z (P0_0_ : Nat → Prop) (A0_0 : Option Addr) (c0_0 : Nat) (l0_0 : List Int) (A1_0 : Option Addr) (c1_0 : Nat) (l1_0 : List Int) (w : World) (hs0_0 : Kd.V (Kd.int .u32) 23 w w.heap.size (fun k_ => P0_0_ k_) (.slice A0_0 l0_0.length c0_0) l0_0) (hr1_0 : Kd.C (Kd.int .u32) w A1_0 l1_0.length l1_0) (hc1_0 : l1_0.length ≤ c1_0) (hz : l1_0.length = 0) :
    Calls Try.prog 53 #[.agg #[.slice A0_0 l0_0.length c0_0], .agg #[.slice A1_0 l1_0.length c1_0]] w fun e w' => ∃ v0_ v1_ : Value, e = .returned (.tuple #[.agg #[v0_], .agg #[v1_], (.int .i64 5)]) ∧ Kd.V (Kd.int .u32) 23 w' w.heap.size (fun k_ => (P0_0_ k_ ∨ w.heap.size ≤ k_)) v0_ [] ∧ Kd.V (Kd.int .u32) 23 w' w.heap.size (fun k_ => (P0_0_ k_ ∨ w.heap.size ≤ k_)) v1_ [] ∧ Below w.heap.size w w' := by
  have V0 := Aside0.mk (Kd.V_bound hs0_0)
  have C1 := Aside0.mk hr1_0
  have hc1 := Aside0.mk hc1_0
  clear hs0_0 hr1_0 hc1_0
  obtain ⟨k0, k1, k2, k3, B⟩ := four_new w (.cells #[.slice A0_0 l0_0.length c0_0] 38) (.cells #[.slice A1_0 l1_0.length c1_0] 38) (.cells #[.slice none 0 0] 38) (.cells #[.slice none 0 0] 38)
  have V1 := Aside0.mk (Kd.V_alloc (Kd.V_alloc (Kd.V_alloc (Kd.V_alloc V0.out (.cells #[.slice A0_0 l0_0.length c0_0] 38)) (.cells #[.slice A1_0 l1_0.length c1_0] 38)) (.cells #[.slice none 0 0] 38)) (.cells #[.slice none 0 0] 38))
  have C2 := Aside0.mk (Kd.C_below C1.out B)
  have hzb : ((l1_0.length : Int) == 0) = true := by rw [hz]; rfl
  replace hz := Aside0.mk hz
  go_enter Try.func53, Try.ntmps53
  go_wp2_with (go_at_call 44; refine (nat_Nat_Zero.calls _ _ l1_0 _ _ C2.out hc1.out rfl).mono ?_; rintro e w1 ⟨rfl, hb⟩; replace k0 := (hb.block _ (blk_lt k0)).trans k0; replace k1 := (hb.block _ (blk_lt k1)).trans k1; replace k2 := (hb.block _ (blk_lt k2)).trans k2; replace k3 := (hb.block _ (blk_lt k3)).trans k3; replace V1 := Aside0.mk (Kd.V_below V1.out hb); replace C2 := Aside0.mk (Kd.C_below C2.out hb); replace B := below_step B hb; clear hb; have q0 : World.cell? _ ⟨w.heap.size, 0, none⟩ = some (.slice A0_0 l0_0.length c0_0) := blk_cell k0 0; have q1 : World.cell? _ ⟨w.heap.size + 1, 0, none⟩ = some (.slice A1_0 l1_0.length c1_0) := blk_cell k1 0; have q2 : World.cell? _ ⟨w.heap.size + 1 + 1, 0, none⟩ = some (.slice none 0 0) := blk_cell k2 0; have q3 : World.cell? _ ⟨w.heap.size + 1 + 1 + 1, 0, none⟩ = some (.slice none 0 0) := blk_cell k3 0; have f2 := blk_frozen k2 0; have f3 := blk_frozen k3 0)
  obtain ⟨e2, e3, y1, y2⟩ := two_end k2 k3 B _ rfl
  refine bodyPost_ret (results_list (rs := [.cell 4 38, .cell 5 38, .tmp 6]) rfl (by simp) (.cell _ 38 _ (0, 0) _ rfl e2 Try.underlying38 rfl (by kernel_rfl) (.cell _ 38 _ (0, 0) _ rfl e3 Try.underlying38 rfl (by kernel_rfl) (.tmp .nil)))) rfl ?_
  exact ⟨_, _, rfl, Kd.V_nil _ _ _ _ _, Kd.V_nil _ _ _ _ _, y1⟩
set_option maxRecDepth 100000 in
set_option maxHeartbeats 4000000 in
theorem nat_Nat_Div.calls_l (k : Nat) (c : Int) (P0_0_ : Nat → Prop) (A0_0 : Option Addr) (c0_0 : Nat) (l0_0 : List Int) (A1_0 : Option Addr) (c1_0 : Nat) (l1_0 : List Int) (w : World) (hs0_0 : Kd.V (Kd.int .u32) 23 w w.heap.size (fun k_ => P0_0_ k_) (.slice A0_0 l0_0.length c0_0) l0_0) (hr1_0 : Kd.C (Kd.int .u32) w A1_0 l1_0.length l1_0) (hc1_0 : l1_0.length ≤ c1_0) (hz : ¬ l1_0.length = 0) (hc : nat_Nat_Cmp.f k l0_0 l1_0 = some c) (hneg : c < 0) :
    Calls Try.prog 53 #[.agg #[.slice A0_0 l0_0.length c0_0], .agg #[.slice A1_0 l1_0.length c1_0]] w fun e w' => ∃ v0_ v1_ : Value, e = .returned (.tuple #[.agg #[v0_], .agg #[v1_], (.int .i64 0)]) ∧ Kd.V (Kd.int .u32) 23 w' w.heap.size (fun k_ => (P0_0_ k_ ∨ w.heap.size ≤ k_)) v0_ [] ∧ Kd.V (Kd.int .u32) 23 w' w.heap.size (fun k_ => (P0_0_ k_ ∨ w.heap.size ≤ k_)) v1_ l0_0 ∧ Below w.heap.size w w' := by
  have V0 := Aside0.mk (Kd.V_bound hs0_0)
  have C1 := Aside0.mk hr1_0
  have hc1 := Aside0.mk hc1_0
  clear hs0_0 hr1_0 hc1_0
  obtain ⟨k0, k1, k2, k3, B⟩ := four_new w (.cells #[.slice A0_0 l0_0.length c0_0] 38) (.cells #[.slice A1_0 l1_0.length c1_0] 38) (.cells #[.slice none 0 0] 38) (.cells #[.slice none 0 0] 38)
  have V1 := Aside0.mk (Kd.V_alloc (Kd.V_alloc (Kd.V_alloc (Kd.V_alloc V0.out (.cells #[.slice A0_0 l0_0.length c0_0] 38)) (.cells #[.slice A1_0 l1_0.length c1_0] 38)) (.cells #[.slice none 0 0] 38)) (.cells #[.slice none 0 0] 38))
  have C2 := Aside0.mk (Kd.C_below C1.out B)
  have hzb : ((l1_0.length : Int) == 0) = false := beq_eq_false_iff_ne.2 (by omega)
  replace hc := Aside0.mk hc
  replace hz := Aside0.mk hz
  have hmx : Try.prog.follows .mixedOrders = true := by kernel_rfl
  have hnb : decide (c < 0) = true := decide_eq_true hneg
  go_enter Try.func53, Try.ntmps53
  go_wp2_with (first | (go_at_call 44; refine (nat_Nat_Zero.calls _ _ l1_0 _ _ C2.out hc1.out rfl).mono ?_; rintro e w1 ⟨rfl, hb⟩; replace k0 := (hb.block _ (blk_lt k0)).trans k0; replace k1 := (hb.block _ (blk_lt k1)).trans k1; replace k2 := (hb.block _ (blk_lt k2)).trans k2; replace k3 := (hb.block _ (blk_lt k3)).trans k3; replace V1 := Aside0.mk (Kd.V_below V1.out hb); replace C2 := Aside0.mk (Kd.C_below C2.out hb); replace B := below_step B hb; clear hb; have q0 : World.cell? _ ⟨w.heap.size, 0, none⟩ = some (.slice A0_0 l0_0.length c0_0) := blk_cell k0 0; have q1 : World.cell? _ ⟨w.heap.size + 1, 0, none⟩ = some (.slice A1_0 l1_0.length c1_0) := blk_cell k1 0; have q2 : World.cell? _ ⟨w.heap.size + 1 + 1, 0, none⟩ = some (.slice none 0 0) := blk_cell k2 0; have q3 : World.cell? _ ⟨w.heap.size + 1 + 1 + 1, 0, none⟩ = some (.slice none 0 0) := blk_cell k3 0; have f2 := blk_frozen k2 0; have f3 := blk_frozen k3 0) | (go_at_call 45; refine (nat_Nat_Cmp.calls k _ _ l0_0 _ _ l1_0 c _ (Kd.V_reads' V1.out).2.2 (Kd.V_reads' V1.out).2.1 C2.out hc1.out hc.out).mono ?_; rintro e w2 ⟨rfl, hb⟩; replace k0 := (hb.block _ (blk_lt k0)).trans k0; replace k1 := (hb.block _ (blk_lt k1)).trans k1; replace k2 := (hb.block _ (blk_lt k2)).trans k2; replace k3 := (hb.block _ (blk_lt k3)).trans k3; replace V1 := Aside0.mk (Kd.V_below V1.out hb); replace C2 := Aside0.mk (Kd.C_below C2.out hb); replace B := below_step B hb; clear hb; have q0 : World.cell? _ ⟨w.heap.size, 0, none⟩ = some (.slice A0_0 l0_0.length c0_0) := blk_cell k0 0; have q1 : World.cell? _ ⟨w.heap.size + 1, 0, none⟩ = some (.slice A1_0 l1_0.length c1_0) := blk_cell k1 0; have q2 : World.cell? _ ⟨w.heap.size + 1 + 1, 0, none⟩ = some (.slice none 0 0) := blk_cell k2 0; have q3 : World.cell? _ ⟨w.heap.size + 1 + 1 + 1, 0, none⟩ = some (.slice none 0 0) := blk_cell k3 0; have f2 := blk_frozen k2 0; have f3 := blk_frozen k3 0))
  go_region
  all_goals go_wp2
  obtain ⟨e2, e3, y1, y2⟩ := two_end (w := w) (W := w2) (va := .slice none 0 0) (vb := .slice A0_0 l0_0.length c0_0) k2 k3 B _ rfl
  refine bodyPost_ret (results_list (rs := [.cell 4 38, .cell 5 38, .tmp 6]) rfl (by simp) (.cell _ 38 _ (0, 0) _ rfl e2 Try.underlying38 rfl (by kernel_rfl) (.cell _ 38 _ (0, 0) _ rfl e3 Try.underlying38 rfl (by kernel_rfl) (.tmp .nil)))) rfl ?_
  exact ⟨_, _, rfl, Kd.V_nil _ _ _ _ _, Kd.V_drew (y2 _ _ _ _ _ V1.out (fun k_ hk => ⟨⟨by have := hk.2; omega, by have := hk.2; omega⟩, .inl hk.1⟩)), y1.drew⟩
theorem nat_Nat_Div.calls (k : Nat) (P0_0_ : Nat → Prop) (A0_0 : Option Addr) (c0_0 : Nat) (l0_0 : List Int) (A1_0 : Option Addr) (c1_0 : Nat) (l1_0 : List Int) (r1 : List Int) (r2 : List Int) (r3 : Int) (w : World) (hs0_0 : Kd.V (Kd.int .u32) 23 w w.heap.size (fun k_ => P0_0_ k_) (.slice A0_0 l0_0.length c0_0) l0_0) (hr1_0 : Kd.C (Kd.int .u32) w A1_0 l1_0.length l1_0) (hc1_0 : l1_0.length ≤ c1_0) (h : nat_Nat_Div.f k l0_0 l1_0 = some (r1, r2, r3)) :
    Calls Try.prog 53 #[.agg #[.slice A0_0 l0_0.length c0_0], .agg #[.slice A1_0 l1_0.length c1_0]] w fun e w' => ∃ v0_ v1_ : Value, e = .returned (.tuple #[.agg #[v0_], .agg #[v1_], .int .i64 r3]) ∧ Kd.V (Kd.int .u32) 23 w' w.heap.size (fun k_ => (P0_0_ k_ ∨ w.heap.size ≤ k_)) v0_ r1 ∧ Kd.V (Kd.int .u32) 23 w' w.heap.size (fun k_ => (P0_0_ k_ ∨ w.heap.size ≤ k_)) v1_ r2 ∧ Below w.heap.size w w' := by
  unfold nat_Nat_Div.f at h
  by_cases hg : (canonB l0_0 && canonB l1_0 && decide (l0_0.length ≤ 1048576) && decide (l1_0.length ≤ 1048576)) = true
  · rw [if_pos hg] at h
    simp only [Bool.and_eq_true, decide_eq_true_eq] at hg
    obtain ⟨⟨⟨g0, g1⟩, g2⟩, g3⟩ := hg
    have e0 := canonB_eq g0
    have e1 := canonB_eq g1
    by_cases hB : valW l1_0 = 0
    · rw [if_pos hB] at h
      cases h
      exact nat_Nat_Div.calls_z P0_0_ A0_0 c0_0 l0_0 A1_0 c1_0 l1_0 w hs0_0 hr1_0 hc1_0 ((canonB_nil g1).1 hB)
    · rw [if_neg hB] at h
      cases h
      have hl : ¬ l1_0.length = 0 := fun e => hB ((canonB_nil g1).2 e)
      by_cases hlt : valW l0_0 < valW l1_0
      · have hc : nat_Nat_Cmp.f 0 l0_0 l1_0 = some (cmpN (valW l0_0) (valW l1_0)) := by
          have := Cmp_toW 0 (valW l0_0) (valW l1_0)
          rwa [e0, e1] at this
        have hcal := nat_Nat_Div.calls_l 0 _ P0_0_ A0_0 c0_0 l0_0 A1_0 c1_0 l1_0 w hs0_0 hr1_0 hc1_0 hl hc (cmpN_lt.2 hlt)
        rw [Nat.div_eq_of_lt hlt, Nat.mod_eq_of_lt hlt, toW_zero, e0]
        exact hcal
      · obtain ⟨K, hK⟩ := (g_ev (valW l0_0) (valW l1_0) (by omega) (by rw [e0]; exact g2) (by rw [e1]; exact g3)).rounds
        rw [e0, e1] at hK
        have hz : nat_Nat_Zero.f l1_0 = some false := by
          have := Zero_toW (valW l1_0)
          rw [e1] at this
          rw [this]
          simp [hB]
        have hn : ∀ t, nat_Nat_Cmp.f K l0_0 l1_0 = some t → ¬ t < 0 := by
          intro t ht hneg
          have := Cmp_toW K (valW l0_0) (valW l1_0)
          rw [e0, e1, ht] at this
          cases this
          exact hlt (cmpN_lt.1 hneg)
        have hr0 := Kd.V_reads' hs0_0
        by_cases h1 : (l1_0.length : Int) = 1
        · refine (nat_Nat_Div.calls_o K A0_0 c0_0 l0_0 A1_0 c1_0 l1_0 _ _ _ w hr0.2.2 hr0.2.1 hr1_0 hc1_0 hz hn h1 hK).mono ?_
          rintro e w' ⟨v0, v1, he, hv0, hv1, hb⟩
          exact ⟨v0, v1, he, Kd.V_mono hv0 (fun _ hk => .inr hk), Kd.V_mono hv1 (fun _ hk => .inr hk), hb⟩
        · refine (nat_Nat_Div.calls_k K A0_0 c0_0 l0_0 A1_0 c1_0 l1_0 _ _ _ w hr0.2.2 hr0.2.1 hr1_0 hc1_0 hz hn h1 hK).mono ?_
          rintro e w' ⟨v0, v1, he, hv0, hv1, hb⟩
          exact ⟨v0, v1, he, Kd.V_mono hv0 (fun _ hk => .inr hk), Kd.V_mono hv1 (fun _ hk => .inr hk), hb⟩
  · rw [if_neg hg] at h
    cases h
end Go.Proofs.Yteejcpbngnojkaa.P
end
section
namespace Go.Proofs.Yteejcpbngnojkaa.P
open Go.RowKit Go.Proofs.YteejcpbngnojkaaW.PrintWords Go.Proofs.YteejcpbngnojkaaW.PrintLast Go.Proofs.YteejcpbngnojkaaW.PrintMore
attribute [local go_sem] max2_int min2_int max_two min_two max_three min_three max_four min_four
set_option linter.unusedVariables false
set_option linter.unusedSimpArgs false
def sacristyref01_Bytes.l0 : Nat → Int → List Int → List Bool → Int → Int → Option (List Int × Bool)
 |0,_,_,_,_,_ => none
 |k + 1,x1,x6,x17,x18,x19 => if x19 < x18 then (if 0 ≤ x19 then (if x19 < (x17.length : Int) then (if rdOf false x17 x19 = true then (if 0 ≤ (wrap64 ((wrap64 (x1 - 1)) - (wrap64 (Int.tdiv x19 8)))) then (if (wrap64 ((wrap64 (x1 - 1)) - (wrap64 (Int.tdiv x19 8)))) < (x6.length : Int) then (if 0 ≤ (Int.tmod x19 8) then (sacristyref01_Bytes.l0 k x1 (x6.set ((wrap64 ((wrap64 (x1 - 1)) - (wrap64 (Int.tdiv x19 8)))) : Int).toNat (((rd x6 (wrap64 ((wrap64 (x1 - 1)) - (wrap64 (Int.tdiv x19 8))))) + (shl .u8 1 (Int.tmod x19 8))) % 256)) x17 x18 (wrap64 (x19 + 1))) else (none)) else (none)) else (none)) else (sacristyref01_Bytes.l0 k x1 x6 x17 x18 (wrap64 (x19 + 1)))) else (none)) else (none)) else (some (x6,true))
def sacristyref01_Bytes.f (k : Nat) (l0 : List Bool) (a1 : Int) : Option (List Int × Bool):=if (wrap64 (Int.tdiv (wrap64 ((l0.length : Int) + 7)) 8)) > a1 then (some (([] : List Int),false)) else (if 0 ≤ a1 then (if (a1 : Int).toNat ≤ 281474976710656 then (sacristyref01_Bytes.l0 k a1 (List.replicate (a1 : Int).toNat 0) l0 (l0.length : Int) 0) else (none)) else (none))
theorem sacristyref01_Bytes.mono_l : ∀ k,(∀ y0 y1 y2 y3 y4,LeO (sacristyref01_Bytes.l0 k y0 y1 y2 y3 y4) (sacristyref01_Bytes.l0 (k + 1) y0 y1 y2 y3 y4))
 |0 => fun _ _ _ _ _ r h => by simp [sacristyref01_Bytes.l0] at h
 |k + 1 => by
  have ih0:=sacristyref01_Bytes.mono_l k
  ·intro y0 y1 y2 y3 y4
   unfold sacristyref01_Bytes.l0
   repeat' first
   |(with_reducible exact ih0 _ _ _ _ _)
   |(with_reducible exact LeO.refl _)
   |(with_reducible exact LeO.none _)
   |(with_reducible refine LeO.ite ?_ ?_)
   |(with_reducible refine LeO.bind ?_ (fun _ => ?_))
   |exact ih0 _ _ _ _ _
   |exact LeO.none _
   |refine LeO.ite ?_ ?_
   |refine LeO.bind ?_ (fun _ => ?_)
theorem sacristyref01_Bytes.mono : ∀ a0 a1 k,LeO (sacristyref01_Bytes.f k a0 a1) (sacristyref01_Bytes.f (k + 1) a0 a1):=by
 intro a0 a1 k
 have ih0:=sacristyref01_Bytes.mono_l k
 unfold sacristyref01_Bytes.f
 repeat' first
   |(with_reducible exact ih0 _ _ _ _ _)
   |(with_reducible exact LeO.refl _)
   |(with_reducible exact LeO.none _)
   |(with_reducible refine LeO.ite ?_ ?_)
   |(with_reducible refine LeO.bind ?_ (fun _ => ?_))
   |exact ih0 _ _ _ _ _
   |exact LeO.none _
   |refine LeO.ite ?_ ?_
   |refine LeO.bind ?_ (fun _ => ?_)
def sacristyref01_Bytes.T8 : Bool × List (List Nat × List Nat):=(true,[([],[]),([],[]),([1],[1]),([],[]),([3],[3]),([2,4],[2,4]),([0,5],[0,5]),([6],[6]),([],[]),([8],[8]),([9],[9]),([7,10],[7,10]),([0,5,0,1,2,3,4,5,6,7,8,9,10,11],[0,5]),([12,11,0,1,2,3,4,5,6,7,8,9,10,11],[11,12])])
def sacristyref01_Bytes.B8 : List Nat:=[0,0,2,0,8,30,63,127,0,256,768,2047,4095,8191]
theorem sacristyref01_Bytes.tab8 : rtab .any (opsOf Try.f39 8) = sacristyref01_Bytes.T8:=by kernel_rfl
theorem sacristyref01_Bytes.bits8 : waitsOk sacristyref01_Bytes.T8.2 sacristyref01_Bytes.B8 = true:=by kernel_rfl
set_option maxHeartbeats 8000000 in
set_option maxRecDepth 100000 in
theorem sacristyref01_Bytes.calls (k : Nat) (A0 : Option Addr) (c0 : Nat) (l0 : List Bool) (a1 : Int) (r1 : List Int) (r2 : Bool) (w : World) (hr0 : Kd.C Kd.bool w A0 l0.length l0) (hc0 : l0.length ≤ c0) (h : sacristyref01_Bytes.f k l0 a1 = some (r1,r2)) :
  Calls Try.prog 39 #[.slice A0 l0.length c0,.int .i64 a1] w fun e w' => ∃ v0_ : Value,e = .returned (.tuple #[v0_,.bool r2]) ∧ Kd.R (Kd.int .u8) 5 w' w.heap.size (fun _ => True) v0_ r1 ∧ Below w.heap.size w w':=by
 have HR0:=Aside0.mk hr0
 have HC0:=Aside0.mk hc0
 clear hr0 hc0
 have HB:=Aside0.mk (Below.refl w.heap.size w)
 have H : (if (wrap64 (Int.tdiv (wrap64 ((l0.length : Int) + 7)) 8)) > a1 then (some (([] : List Int),false)) else (if 0 ≤ a1 then (if (a1 : Int).toNat ≤ 281474976710656 then (sacristyref01_Bytes.l0 k a1 (List.replicate (a1 : Int).toNat 0) l0 (l0.length : Int) 0) else (none)) else (none))) = some (r1,r2):=h
 clear h
 by_cases c3 : (wrap64 (Int.tdiv (wrap64 ((l0.length : Int) + 7)) 8)) > a1
 ·rw [if_pos c3] at H
  have c3b0 : decide (a1 < (wrap64 (Int.tdiv (wrap64 ((l0.length : Int) + 7)) 8))) = true:=decide_eq_true c3
  clear c3
  simp only [Option.some.injEq,Prod.mk.injEq] at H
  obtain ⟨rfl,rfl⟩:=H
  go_enter Try.func39,Try.ntmps39
  go_wp2
  (first|go_ret2|(refine ⟨_,results_tmp2 rfl _ _ _,?_⟩))
  exact ⟨_,by first|rfl|(simp [errW_none,errW_some] <;> rfl)|(simp [*,errW_none,errW_some] <;> rfl),by first|exact Kd.R_nil _ _ _ _ _|exact Kd.N_nil _ _ _ _ _|exact Kd.V_nil _ _ _ _ _|exact Kd.Q_nil _ _ _ _ _|exact Kd.S_nil _ _ _ _ _,qS HB⟩
 ·rw [if_neg c3] at H
  have c3b0 : decide (a1 < (wrap64 (Int.tdiv (wrap64 ((l0.length : Int) + 7)) 8))) = false:=decide_eq_false c3
  clear c3
  by_cases c4 : 0 ≤ a1
  ·rw [if_pos c4] at H
   have c4b0:=eq_true c4
   have c4b1 : decide (0 ≤ a1) = true:=decide_eq_true c4
   clear c4
   by_cases c5 : (a1 : Int).toNat ≤ 281474976710656
   ·rw [if_pos c5] at H
    have c5b0:=eq_true c5
    have c5b1 : decide ((a1 : Int).toNat ≤ 281474976710656) = true:=decide_eq_true c5
    clear c5
    obtain ⟨y290,hy290⟩ : ∃ y_ : List Int,y_ = (List.replicate (a1 : Int).toNat 0):=⟨_,rfl⟩
    replace H : (sacristyref01_Bytes.l0 k a1 y290 l0 (l0.length : Int) 0) = some (r1,r2):=by first|(rw [hy290];with_reducible exact H)|(have H2_:=(Option.bind_some _ _).symm.trans H;rw [hy290];with_reducible exact H2_)|(have H2_:=(Option.bind_some _ _).symm.trans H;with_reducible exact H2_)|with_reducible exact H|(rw [hy290];exact H)|exact H
    have Ny290:=Aside0.mk hy290
    clear hy290
    have H':=Aside0.mk H
    clear H
    go_enter Try.func39,Try.ntmps39
    go_wp2_with (first|((with_reducible refine gate_dst (N:=16) rfl ?_);refine Kd.R_make (Kd.int .u8) _ 5 rfl (N:=16) rfl 22 _ _ rfl a1 rfl rfl Try.underlying22 (.int .u8 0) 1 info5 rfl (by decide) (by omega) 0 (ok:=fun _ => True) (okp:=fun _ => True) rfl (fun _ hk => hk) trivial (od) (Nat.le_trans (Nat.mul_le_mul_right _ (od : a1.toNat ≤ 281474976710656)) (by omega)) (Below.refl _ _) (Nat.le_refl _) ?_;intro v291 w6 ho7 hb hg_ hnew_;clear hg_ hnew_;(first|rw [← Ny290.out] at ho7|(simp only [Int.reduceToNat] at ho7;rw [← Ny290.out] at ho7));have HO292:=Aside0.mk (Kd.R_lower ho7 (below_size (qS HB)));replace HB:=qs HB hb;clear hb ho7))
    go_loopg [19] k (fun kq v19 w' => ∃ (x6_1 : List Int) (x19_1 : Int),v19 = .int .i64 x19_1 ∧ Aside0 (sacristyref01_Bytes.l0 kq a1 x6_1 l0 (l0.length : Int) x19_1 = some (r1,r2)) ∧ Aside0 (kq ≤ k) ∧ Aside0 (Kd.R (Kd.int .u8) 5 w' w.heap.size (fun _ => True) v291 x6_1) ∧ Aside0 (Below w.heap.size w w'))
    case atStart => exact ⟨(y290),(0),(by first|rfl|(simp;done)|(simp [*];done)),H',⟨Nat.le_refl _⟩,⟨qRm HO292⟩,⟨qS HB⟩⟩
    case round =>
     clear H'
     try clear p2
     try clear c3
     try clear c3b0
     try clear c4
     try clear c4b0
     try clear c4b1
     try clear c5
     try clear c5b0
     try clear c5b1
     try clear p6
     obtain ⟨x6_1,x19_1,rfl,HA,HK1,HO_6,HB⟩:=hrel
     cases gk with
     |zero => exact absurd HA.out (by simp [sacristyref01_Bytes.l0])
     |succ k1 =>
      have H:=HA.out
      clear HA
      simp only [sacristyref01_Bytes.l0] at H
      by_cases c8 : x19_1 < (l0.length : Int)
      ·rw [if_pos c8] at H
       have c8b0 : decide (x19_1 < (l0.length : Int)) = true:=decide_eq_true c8
       clear c8
       by_cases c9 : 0 ≤ x19_1
       ·rw [if_pos c9] at H
        have c9b0 : decide (0 ≤ x19_1) = true:=decide_eq_true c9
        clear c9
        by_cases c10 : x19_1 < (l0.length : Int)
        ·rw [if_pos c10] at H
         have c10b0 : decide (x19_1 < (l0.length : Int)) = true:=decide_eq_true c10
         clear c10
         obtain ⟨bq11,hbq11⟩ : ∃ b_ : Bool,b_ = (rdOf false l0 x19_1):=⟨_,rfl⟩
         replace H : (if bq11 = true then (if 0 ≤ (wrap64 ((wrap64 (a1 - 1)) - (wrap64 (Int.tdiv x19_1 8)))) then (if (wrap64 ((wrap64 (a1 - 1)) - (wrap64 (Int.tdiv x19_1 8)))) < (x6_1.length : Int) then (if 0 ≤ (Int.tmod x19_1 8) then (sacristyref01_Bytes.l0 k1 a1 (x6_1.set ((wrap64 ((wrap64 (a1 - 1)) - (wrap64 (Int.tdiv x19_1 8)))) : Int).toNat (((rd x6_1 (wrap64 ((wrap64 (a1 - 1)) - (wrap64 (Int.tdiv x19_1 8))))) + (shl .u8 1 (Int.tmod x19_1 8))) % 256)) l0 (l0.length : Int) (wrap64 (x19_1 + 1))) else (none)) else (none)) else (none)) else (sacristyref01_Bytes.l0 k1 a1 x6_1 l0 (l0.length : Int) (wrap64 (x19_1 + 1)))) = some (r1,r2):=by rw [← hbq11] at H;exact H
         have Nbq11:=Aside0.mk hbq11
         clear hbq11
         by_cases c12 : bq11 = true
         ·subst c12
          rw [if_pos rfl] at H
          obtain ⟨ji13,hji13⟩ : ∃ j_ : Int,(wrap64 ((wrap64 (a1 - 1)) - (wrap64 (Int.tdiv x19_1 8)))) = j_:=⟨_,rfl⟩
          (first|rw [hji13] at H|simp only [hji13] at H)
          have hji13w : (IntKind.i64.wrap ((wrap64 (a1 - 1)) - (wrap64 (Int.tdiv x19_1 8)))) = ji13:=(i64_w _).trans hji13
          by_cases c14 : 0 ≤ (ji13)
          ·rw [if_pos c14] at H
           have c14b0 : decide (0 ≤ (ji13)) = true:=decide_eq_true c14
           clear c14
           by_cases c15 : (ji13) < (x6_1.length : Int)
           ·rw [if_pos c15] at H
            have c15b0 : decide ((ji13) < (x6_1.length : Int)) = true:=decide_eq_true c15
            clear c15
            obtain ⟨ji16,hji16⟩ : ∃ j_ : Int,(Int.tmod x19_1 8) = j_:=⟨_,rfl⟩
            (first|rw [hji16] at H|simp only [hji16] at H)
            by_cases c17 : 0 ≤ (ji16)
            ·rw [if_pos c17] at H
             have c17b0:=eq_true c17
             have c17b1 : decide (0 ≤ (ji16)) = true:=decide_eq_true c17
             clear c17
             obtain ⟨ji18,hji18⟩ : ∃ j_ : Int,(shl .u8 1 (ji16)) = j_:=⟨_,rfl⟩
             (first|rw [hji18] at H|simp only [hji18] at H)
             have hji18_ : (IntKind.u8.wrap (1 * 2 ^ min (ji16).toNat 8)) = ji18:=hji18
             have hji18z : (ji16) ≤ 8 → (IntKind.u8.wrap (1 * 2 ^ (ji16).toNat)) = ji18:=shl_small hji18
             have hji18u : (IntKind.u8.wrap (2 ^ min (ji16).toNat 8)) = ji18:=by have h_:=hji18_;rw [Int.one_mul] at h_;exact h_
             have hji18v : (ji16) ≤ 8 → (IntKind.u8.wrap (2 ^ (ji16).toNat)) = ji18:=fun hle_ => by have h_:=hji18z hle_;rw [Int.one_mul] at h_;exact h_
             obtain ⟨y295,hy295⟩ : ∃ y_ : List Int,y_ = (x6_1.set ((ji13) : Int).toNat (((rd x6_1 (ji13)) + (ji18)) % 256)):=⟨_,rfl⟩
             replace H : (sacristyref01_Bytes.l0 k1 a1 y295 l0 (l0.length : Int) (wrap64 (x19_1 + 1))) = some (r1,r2):=by first|(rw [hy295];with_reducible exact H)|(have H2_:=(Option.bind_some _ _).symm.trans H;rw [hy295];with_reducible exact H2_)|(have H2_:=(Option.bind_some _ _).symm.trans H;with_reducible exact H2_)|with_reducible exact H|(rw [hy295];exact H)|exact H
             have Ny295:=Aside0.mk hy295
             clear hy295
             have H':=Aside0.mk H
             clear H
             have p293 : 0 ≤ (x19_1 : Int):=od
             have q293 : x19_1 < (l0.length : Int):=od
             obtain ⟨ad293,e293,hx293_0⟩:=Kd.at_bool HR0.out x19_1 p293 q293
             (try rw [← Nbq11.out] at hx293_0)
             cases e293
             replace hx293_0:=(HB.out.cell (World.block_lt_of_cell? w _ hx293_0)).trans hx293_0
             replace p293:=eq_true p293
             replace q293:=eq_true q293
             try go_wp2
             replace HO_6:=qRw HO_6
             replace HB:=qsd HB
             obtain ⟨Ao21,co21,eo21⟩:=Kd.R_slice HO_6.out
             (first|subst eo21|(injection eo21 with f1_ f2_ f3_;have f4_:=f1_.symm;have f5_:=f3_.symm;clear f1_ f2_ f3_;subst f4_;subst f5_))
             have p294 : 0 ≤ ((ji13) : Int):=od
             have q294 : (ji13) < (x6_1.length : Int):=od
             obtain ⟨ad294,e294,hx294_0⟩:=Kd.at_int (Kd.R_reads' HO_6.out).2.2 (ji13) p294 q294
             cases e294
             replace p294:=eq_true p294
             replace q294:=eq_true q294
             have p19 : 0 ≤ ((ji13) : Int):=od
             have q19 : ((ji13) : Int) < ((x6_1.length : Int) : Int):=od
             obtain ⟨go19,co19,eo19,gb19,gl19,cl19,HG19⟩:=Kd.R_form HO_6.out (by omega)
             (first|cases eo19|(injection eo19 with ea_ en_ ec_;(first|subst ea_|(injection ea_ with ea_;subst ea_));subst ec_;clear en_))
             have GB19:=Aside0.mk gb19
             have GG19:=Aside0.mk HG19
             clear gb19 gl19 HG19
             (first|simp only [add_plain] at hx294_0|skip)
             obtain ⟨hx19_0,hf19_0⟩:=Kd.R_celln 0 HO_6.out ((ji13) : Int) p19 q19
             replace p19:=eq_true p19
             replace q19:=eq_true q19
             have HP22:=Kd.R_putn HO_6.out ((ji13) : Int) (((rd x6_1 (ji13)) + (ji18)) % 256)
             rw [← Ny295.out] at HP22
             have HQ22:=Aside0.mk HP22
             clear HP22
             refine start_ (n:=14) (S:=fun w' => w'.cell? ⟨go19,((ji13)).toNat,none⟩ = some (.int .u8 (rd x6_1 (ji13)))) (ds:=[13]) #[false,false,false,false,false,false,false,false,false,false,false,false,false,false] (by kernel_rfl) rfl rfl (hx294_0) (fun hHeld => ?_);refine with_tabW sacristyref01_Bytes.tab8 sacristyref01_Bytes.bits8 (fun HT_ HW_ => ?_)
             generalize wr.drew = w20 at HO_6 HB GG19 HQ22 hf19_0 hx19_0 hx294_0 hHeld ⊢
             refine qP 0 25 HT_ ?_
             refine qP 1 26 HT_ ?_
             refine qP 2 27 HT_ ?_
             refine qP 3 28 HT_ ?_
             refine qP 4 29 HT_ ?_
             refine qP 5 30 HT_ ?_
             refine qP 6 31 HT_ ?_
             refine qP 8 33 HT_ ?_
             refine qP 9 34 HT_ ?_
             refine qP 10 35 HT_ ?_
             refine qT 7 32 HT_ HW_ hHeld ?_
             refine qP 11 36 HT_ ?_
             refine qP 12 37 HT_ ?_
             refine last_ (i:=13) (N:=none) #[true,true,true,true,true,true,true,true,true,true,true,true,true,true] rfl rfl (one_of HT_.out (by kernel_rfl)) (by decide) (fun K hK => ?_)
             refine skip_ (w1:=?_) (by rfl) rfl ?_ ?_
             rotate_left
             ·go_simp
              rfl
             refine hK.out _ _ ?_
             clear hK K
             refine qD HT_ ?_
             try go_wp2
             go_roundg k1
             case measure => have:=HK1.out;omega
             case rel => exact ⟨(y295),(wrap64 (x19_1 + 1)),(by first|rfl|(simp;done)|(simp [*];done)),H',⟨by have:=HK1.out;omega⟩,⟨qRm HQ22⟩,⟨qS HB⟩⟩
            ·rw [if_neg c17] at H
             exact absurd H (by simp)
           ·rw [if_neg c15] at H
            exact absurd H (by simp)
          ·rw [if_neg c14] at H
           exact absurd H (by simp)
         ·replace c12:=Bool.eq_false_iff.mpr c12
          subst c12
          rw [qFT] at H
          have H':=Aside0.mk H
          clear H
          have p293 : 0 ≤ (x19_1 : Int):=od
          have q293 : x19_1 < (l0.length : Int):=od
          obtain ⟨ad293,e293,hx293_0⟩:=Kd.at_bool HR0.out x19_1 p293 q293
          (try rw [← Nbq11.out] at hx293_0)
          cases e293
          replace hx293_0:=(HB.out.cell (World.block_lt_of_cell? w _ hx293_0)).trans hx293_0
          replace p293:=eq_true p293
          replace q293:=eq_true q293
          go_wp2
          go_roundg k1
          case measure => have:=HK1.out;omega
          case rel => exact ⟨(x6_1),(wrap64 (x19_1 + 1)),(by first|rfl|(simp;done)|(simp [*];done)),H',⟨by have:=HK1.out;omega⟩,⟨qRm HO_6⟩,⟨qS HB⟩⟩
        ·rw [if_neg c10] at H
         exact absurd H (by simp)
       ·rw [if_neg c9] at H
        exact absurd H (by simp)
      ·rw [if_neg c8] at H
       have c8b0 : decide (x19_1 < (l0.length : Int)) = false:=decide_eq_false c8
       clear c8
       simp only [Option.some.injEq,Prod.mk.injEq] at H
       obtain ⟨rfl,rfl⟩:=H
       go_wp2
       (first|go_ret2|(refine ⟨_,results_tmp2 rfl _ _ _,?_⟩))
       exact ⟨_,by first|rfl|(simp [errW_none,errW_some] <;> rfl)|(simp [*,errW_none,errW_some] <;> rfl),qRm HO_6,qS HB⟩
   ·rw [if_neg c5] at H
    exact absurd H (by simp)
  ·rw [if_neg c4] at H
   exact absurd H (by simp)
end Go.Proofs.Yteejcpbngnojkaa.P
end
section
namespace Go.Proofs.Yteejcpbngnojkaa.P
open Go.RowKit Go.Proofs.YteejcpbngnojkaaW.PrintWords Go.Proofs.YteejcpbngnojkaaW.PrintLast Go.Proofs.YteejcpbngnojkaaW.PrintMore
attribute [local go_sem] max2_int min2_int max_two min_two max_three min_three max_four min_four
set_option linter.unusedVariables false
set_option linter.unusedSimpArgs false
def nat_Nat_Bits.f (l0_0 : List Int) : Option (Int):=if (l0_0.length : Int) = 0 then (some 0) else (if 0 ≤ (wrap64 ((l0_0.length : Int) - 1)) then (if (wrap64 ((l0_0.length : Int) - 1)) < (l0_0.length : Int) then ((bits_Len32.f (rd l0_0 (wrap64 ((l0_0.length : Int) - 1)))).bind fun t298 => (some (wrap64 ((wrap64 (32 * (wrap64 ((l0_0.length : Int) - 1)))) + t298)))) else (none)) else (none))
set_option maxHeartbeats 8000000 in
set_option maxRecDepth 100000 in
theorem nat_Nat_Bits.calls (A0_0 : Option Addr) (c0_0 : Nat) (l0_0 : List Int) (r : Int) (w : World) (hr0_0 : Kd.C (Kd.int .u32) w A0_0 l0_0.length l0_0) (hc0_0 : l0_0.length ≤ c0_0) (h : nat_Nat_Bits.f l0_0 = some r) :
  Calls Try.prog 42 #[.agg #[.slice A0_0 l0_0.length c0_0]] w fun e w' => e = .returned (.int .i64 r) ∧ Below w.heap.size w w':=by
 have hu38:=Try.underlying38
 have HR0_0:=Aside0.mk hr0_0
 have HC0_0:=Aside0.mk hc0_0
 clear hr0_0 hc0_0
 have HB:=Aside0.mk (Below.refl w.heap.size w)
 have H : (if (l0_0.length : Int) = 0 then (some 0) else (if 0 ≤ (wrap64 ((l0_0.length : Int) - 1)) then (if (wrap64 ((l0_0.length : Int) - 1)) < (l0_0.length : Int) then ((bits_Len32.f (rd l0_0 (wrap64 ((l0_0.length : Int) - 1)))).bind fun t298 => (some (wrap64 ((wrap64 (32 * (wrap64 ((l0_0.length : Int) - 1)))) + t298)))) else (none)) else (none))) = some r:=h
 clear h
 by_cases c2 : (l0_0.length : Int) = 0
 ·rw [if_pos c2] at H
  have c2b0 : ((l0_0.length : Int) == 0) = true:=beq_iff_eq.mpr c2
  have c2b1 : ((l0_0.length : Int) != 0) = false:=bne_eq_false_iff_eq.mpr c2
  clear c2
  obtain rfl:=Option.some.inj H
  go_enter Try.func42,Try.ntmps42
  go_wp2_with (first|((with_reducible refine gate_dst (N:=1) rfl ?_);refine qX #[.slice A0_0 l0_0.length c0_0] 38 ?_;intro gb296 hg w3 hbox hb;have BK296:=Aside0.mk hbox;have GE296:=qh hg HB;replace HB:=qs HB hb;clear hb hbox hg;have hcz4_0:=bc BK296;have hfz4_0:=bz BK296))
  repeat (go_quiet (first|((with_reducible refine gate_dst (N:=1) rfl ?_);refine qX #[.slice A0_0 l0_0.length c0_0] 38 ?_;intro gb296 hg w3 hbox hb;have BK296:=Aside0.mk hbox;have GE296:=qh hg HB;replace HB:=qs HB hb;clear hb hbox hg;have hcz4_0:=bc BK296;have hfz4_0:=bz BK296));try go_wp2_with (first|((with_reducible refine gate_dst (N:=1) rfl ?_);refine qX #[.slice A0_0 l0_0.length c0_0] 38 ?_;intro gb296 hg w3 hbox hb;have BK296:=Aside0.mk hbox;have GE296:=qh hg HB;replace HB:=qs HB hb;clear hb hbox hg;have hcz4_0:=bc BK296;have hfz4_0:=bz BK296)))
  (first|go_ret|(refine ⟨_,results_tmp rfl _ _ _,?_⟩))
  exact ⟨by first|rfl|(simp [errW_none,errW_some] <;> rfl)|(simp [*,errW_none,errW_some] <;> rfl),qS HB⟩
 ·rw [if_neg c2] at H
  have c2b0 : ((l0_0.length : Int) == 0) = false:=beq_eq_false_iff_ne.mpr c2
  have c2b1 : ((l0_0.length : Int) != 0) = true:=bne_iff_ne.mpr c2
  have c2b2 : ¬ (l0_0 = []):=fun h_ => c2 (by rw [h_];rfl)
  obtain ⟨ji5,hji5⟩ : ∃ j_ : Int,(wrap64 ((l0_0.length : Int) - 1)) = j_:=⟨_,rfl⟩
  (first|rw [hji5] at H|simp only [hji5] at H)
  have hji5w : (IntKind.i64.wrap ((l0_0.length : Int) - 1)) = ji5:=(i64_w _).trans hji5
  by_cases c6 : 0 ≤ (ji5)
  ·rw [if_pos c6] at H
   have c6b0 : decide (0 ≤ (ji5)) = true:=decide_eq_true c6
   clear c6
   by_cases c7 : (ji5) < (l0_0.length : Int)
   ·rw [if_pos c7] at H
    have c7b0 : decide ((ji5) < (l0_0.length : Int)) = true:=decide_eq_true c7
    clear c7
    obtain ⟨t298,A8,H⟩:=qH H
    obtain rfl:=Option.some.inj H
    go_enter Try.func42,Try.ntmps42
    go_wp2_with (first|((with_reducible refine gate_dst (N:=1) rfl ?_);refine qX #[.slice A0_0 l0_0.length c0_0] 38 ?_;intro gb296 hg w9 hbox hb;have BK296:=Aside0.mk hbox;have GE296:=qh hg HB;replace HB:=qs HB hb;clear hb hbox hg;have hcz10_0:=bc BK296;have hfz10_0:=bz BK296;have p297 : 0 ≤ ((ji5) : Int):=od;have q297 : (ji5) < (l0_0.length : Int):=od;obtain ⟨ad297,e297,hx297_0⟩:=Kd.at_int HR0_0.out (ji5) p297 q297;cases e297;replace hx297_0:=(HB.out.cell (World.block_lt_of_cell? w _ hx297_0)).trans hx297_0;replace p297:=eq_true p297;replace q297:=eq_true q297)|(go_at_call 102;(with_reducible refine (bits_Len32.calls (rd l0_0 (ji5)) t298 _ A8.out).mono ?_);rintro e w' ⟨rfl,⟨nd,rfl⟩⟩;(try first|exact ⟨rfl,_,World.drewN_drewN _ _ _⟩|exact ⟨rfl,_,Eq.trans (World.drewN_drewN _ _ _) (congrArg (World.drewN _) (Nat.add_assoc _ _ _))⟩)))
    repeat (go_quiet (first|((with_reducible refine gate_dst (N:=1) rfl ?_);refine qX #[.slice A0_0 l0_0.length c0_0] 38 ?_;intro gb296 hg w9 hbox hb;have BK296:=Aside0.mk hbox;have GE296:=qh hg HB;replace HB:=qs HB hb;clear hb hbox hg;have hcz10_0:=bc BK296;have hfz10_0:=bz BK296;have p297 : 0 ≤ ((ji5) : Int):=od;have q297 : (ji5) < (l0_0.length : Int):=od;obtain ⟨ad297,e297,hx297_0⟩:=Kd.at_int HR0_0.out (ji5) p297 q297;cases e297;replace hx297_0:=(HB.out.cell (World.block_lt_of_cell? w _ hx297_0)).trans hx297_0;replace p297:=eq_true p297;replace q297:=eq_true q297)|(go_at_call 102;(with_reducible refine (bits_Len32.calls (rd l0_0 (ji5)) t298 _ A8.out).mono ?_);rintro e w' ⟨rfl,⟨nd,rfl⟩⟩;(try first|exact ⟨rfl,_,World.drewN_drewN _ _ _⟩|exact ⟨rfl,_,Eq.trans (World.drewN_drewN _ _ _) (congrArg (World.drewN _) (Nat.add_assoc _ _ _))⟩)));try go_wp2_with (first|((with_reducible refine gate_dst (N:=1) rfl ?_);refine qX #[.slice A0_0 l0_0.length c0_0] 38 ?_;intro gb296 hg w9 hbox hb;have BK296:=Aside0.mk hbox;have GE296:=qh hg HB;replace HB:=qs HB hb;clear hb hbox hg;have hcz10_0:=bc BK296;have hfz10_0:=bz BK296;have p297 : 0 ≤ ((ji5) : Int):=od;have q297 : (ji5) < (l0_0.length : Int):=od;obtain ⟨ad297,e297,hx297_0⟩:=Kd.at_int HR0_0.out (ji5) p297 q297;cases e297;replace hx297_0:=(HB.out.cell (World.block_lt_of_cell? w _ hx297_0)).trans hx297_0;replace p297:=eq_true p297;replace q297:=eq_true q297)|(go_at_call 102;(with_reducible refine (bits_Len32.calls (rd l0_0 (ji5)) t298 _ A8.out).mono ?_);rintro e w' ⟨rfl,⟨nd,rfl⟩⟩;(try first|exact ⟨rfl,_,World.drewN_drewN _ _ _⟩|exact ⟨rfl,_,Eq.trans (World.drewN_drewN _ _ _) (congrArg (World.drewN _) (Nat.add_assoc _ _ _))⟩))))
    (first|go_ret|(refine ⟨_,results_tmp rfl _ _ _,?_⟩))
    exact ⟨by first|rfl|(simp [errW_none,errW_some] <;> rfl)|(simp only [← hji5];first|rfl|(simp [errW_none,errW_some] <;> rfl))|(simp [*,errW_none,errW_some] <;> rfl),qS HB⟩
   ·rw [if_neg c7] at H
    exact absurd H (by simp)
  ·rw [if_neg c6] at H
   exact absurd H (by simp)
end Go.Proofs.Yteejcpbngnojkaa.P
end
section
namespace Go.Proofs.Yteejcpbngnojkaa.P
open Go.RowKit Go.Proofs.YteejcpbngnojkaaW.PrintWords Go.Proofs.YteejcpbngnojkaaW.PrintLast Go.Proofs.YteejcpbngnojkaaW.PrintMore
attribute [local go_sem] max2_int min2_int max_two min_two max_three min_three max_four min_four
set_option linter.unusedVariables false
set_option linter.unusedSimpArgs false
def nat_Nat_Bytes.l0 : Nat → Int → List Int → Int → Int → List Int → Option (List Int × Int)
 |0,_,_,_,_,_ => none
 |k + 1,x1,x7,x20,x21,x300000 => if x21 < x20 then (if 0 ≤ (wrap64 (Int.tdiv x21 4)) then (if (wrap64 (Int.tdiv x21 4)) < (x300000.length : Int) then (if 0 ≤ (wrap64 (8 * (Int.tmod x21 4))) then (if 0 ≤ (wrap64 ((wrap64 (x1 - 1)) - x21)) then (if (wrap64 ((wrap64 (x1 - 1)) - x21)) < (x7.length : Int) then (nat_Nat_Bytes.l0 k x1 (x7.set ((wrap64 ((wrap64 (x1 - 1)) - x21)) : Int).toNat ((shr .u32 (rd x300000 (wrap64 (Int.tdiv x21 4))) (wrap64 (8 * (Int.tmod x21 4)))) % 256)) x20 (wrap64 (x21 + 1)) x300000) else (none)) else (none)) else (none)) else (none)) else (none)) else (some (x7,0))
def nat_Nat_Bytes.f (k : Nat) (l0_0 : List Int) (a1 : Int) : Option (List Int × Int):=if a1 < 0 then (some (([] : List Int),1)) else ((nat_Nat_Bits.f l0_0).bind fun t300 => (if (wrap64 (Int.tdiv (wrap64 (t300 + 7)) 8)) > a1 then (some (([] : List Int),2)) else (if 0 ≤ a1 then (if (a1 : Int).toNat ≤ 281474976710656 then (nat_Nat_Bytes.l0 k a1 (List.replicate (a1 : Int).toNat 0) (wrap64 (Int.tdiv (wrap64 (t300 + 7)) 8)) 0 l0_0) else (none)) else (none))))
theorem nat_Nat_Bytes.mono_l : ∀ k,(∀ y0 y1 y2 y3 y4,LeO (nat_Nat_Bytes.l0 k y0 y1 y2 y3 y4) (nat_Nat_Bytes.l0 (k + 1) y0 y1 y2 y3 y4))
 |0 => fun _ _ _ _ _ r h => by simp [nat_Nat_Bytes.l0] at h
 |k + 1 => by
  have ih0:=nat_Nat_Bytes.mono_l k
  ·intro y0 y1 y2 y3 y4
   unfold nat_Nat_Bytes.l0
   repeat' first
   |(with_reducible exact ih0 _ _ _ _ _)
   |(with_reducible exact LeO.refl _)
   |(with_reducible exact LeO.none _)
   |(with_reducible refine LeO.ite ?_ ?_)
   |(with_reducible refine LeO.bind ?_ (fun _ => ?_))
   |exact ih0 _ _ _ _ _
   |exact LeO.none _
   |refine LeO.ite ?_ ?_
   |refine LeO.bind ?_ (fun _ => ?_)
theorem nat_Nat_Bytes.mono : ∀ a0 a1 k,LeO (nat_Nat_Bytes.f k a0 a1) (nat_Nat_Bytes.f (k + 1) a0 a1):=by
 intro a0 a1 k
 have ih0:=nat_Nat_Bytes.mono_l k
 unfold nat_Nat_Bytes.f
 repeat' first
   |(with_reducible exact ih0 _ _ _ _ _)
   |(with_reducible exact LeO.refl _)
   |(with_reducible exact LeO.none _)
   |(with_reducible refine LeO.ite ?_ ?_)
   |(with_reducible refine LeO.bind ?_ (fun _ => ?_))
   |exact ih0 _ _ _ _ _
   |exact LeO.none _
   |refine LeO.ite ?_ ?_
   |refine LeO.bind ?_ (fun _ => ?_)
set_option maxHeartbeats 8000000 in
set_option maxRecDepth 100000 in
theorem nat_Nat_Bytes.calls (k : Nat) (A0_0 : Option Addr) (c0_0 : Nat) (l0_0 : List Int) (a1 : Int) (r1 : List Int) (r2 : Int) (w : World) (hr0_0 : Kd.C (Kd.int .u32) w A0_0 l0_0.length l0_0) (hc0_0 : l0_0.length ≤ c0_0) (h : nat_Nat_Bytes.f k l0_0 a1 = some (r1,r2)) :
  Calls Try.prog 38 #[.agg #[.slice A0_0 l0_0.length c0_0],.int .i64 a1] w fun e w' => ∃ v0_ : Value,e = .returned (.tuple #[v0_,.int .i64 r2]) ∧ Kd.R (Kd.int .u8) 5 w' w.heap.size (fun _ => True) v0_ r1 ∧ Below w.heap.size w w':=by
 have hu38:=Try.underlying38
 have HR0_0:=Aside0.mk hr0_0
 have HC0_0:=Aside0.mk hc0_0
 clear hr0_0 hc0_0
 have HB:=Aside0.mk (Below.refl w.heap.size w)
 have H : (if a1 < 0 then (some (([] : List Int),1)) else ((nat_Nat_Bits.f l0_0).bind fun t300 => (if (wrap64 (Int.tdiv (wrap64 (t300 + 7)) 8)) > a1 then (some (([] : List Int),2)) else (if 0 ≤ a1 then (if (a1 : Int).toNat ≤ 281474976710656 then (nat_Nat_Bytes.l0 k a1 (List.replicate (a1 : Int).toNat 0) (wrap64 (Int.tdiv (wrap64 (t300 + 7)) 8)) 0 l0_0) else (none)) else (none))))) = some (r1,r2):=h
 clear h
 by_cases c3 : a1 < 0
 ·rw [if_pos c3] at H
  have c3b0 : decide (a1 < 0) = true:=decide_eq_true c3
  clear c3
  simp only [Option.some.injEq,Prod.mk.injEq] at H
  obtain ⟨rfl,rfl⟩:=H
  go_enter Try.func38,Try.ntmps38
  go_wp2_with (first|((with_reducible refine gate_dst (N:=2) rfl ?_);refine qX #[.slice A0_0 l0_0.length c0_0] 38 ?_;intro gb299 hg w4 hbox hb;have BK299:=Aside0.mk hbox;have GE299:=qh hg HB;replace HB:=qs HB hb;clear hb hbox hg))
  (first|go_ret2|(refine ⟨_,results_tmp2 rfl _ _ _,?_⟩))
  exact ⟨_,by first|rfl|(simp [errW_none,errW_some] <;> rfl)|(simp [*,errW_none,errW_some] <;> rfl),by first|exact Kd.R_nil _ _ _ _ _|exact Kd.N_nil _ _ _ _ _|exact Kd.V_nil _ _ _ _ _|exact Kd.Q_nil _ _ _ _ _|exact Kd.S_nil _ _ _ _ _,qS HB⟩
 ·rw [if_neg c3] at H
  have c3b0 : decide (a1 < 0) = false:=decide_eq_false c3
  clear c3
  obtain ⟨t300,A5,H⟩:=qH H
  by_cases c6 : (wrap64 (Int.tdiv (wrap64 (t300 + 7)) 8)) > a1
  ·rw [if_pos c6] at H
   have c6b0 : decide (a1 < (wrap64 (Int.tdiv (wrap64 (t300 + 7)) 8))) = true:=decide_eq_true c6
   clear c6
   simp only [Option.some.injEq,Prod.mk.injEq] at H
   obtain ⟨rfl,rfl⟩:=H
   go_enter Try.func38,Try.ntmps38
   go_wp2_with (first|((with_reducible refine gate_dst (N:=2) rfl ?_);refine qX #[.slice A0_0 l0_0.length c0_0] 38 ?_;intro gb299 hg w7 hbox hb;have BK299:=Aside0.mk hbox;have GE299:=qh hg HB;replace HB:=qs HB hb;clear hb hbox hg;have hcz8_0:=bc BK299;have hfz8_0:=bz BK299)|((with_reducible refine gate_callee (f:=42) rfl ?_);refine gL (some 12) Try.func42 #[.agg #[.slice A0_0 l0_0.length c0_0]] ?_;(with_reducible refine (nat_Nat_Bits.calls _ _ l0_0 t300 _ ?side1 ?side2 A5.out).mono ?_);(case side1 => exact qCB HR0_0 HB);(case side2 => exact HC0_0.out);rintro e w9 ⟨rfl,hb⟩;refine ⟨_,rfl,?_⟩;replace BK299:=qb BK299 hb;replace HB:=qs HB hb;clear hb))
   (first|go_ret2|(refine ⟨_,results_tmp2 rfl _ _ _,?_⟩))
   exact ⟨_,by first|rfl|(simp [errW_none,errW_some] <;> rfl)|(simp [*,errW_none,errW_some] <;> rfl),by first|exact Kd.R_nil _ _ _ _ _|exact Kd.N_nil _ _ _ _ _|exact Kd.V_nil _ _ _ _ _|exact Kd.Q_nil _ _ _ _ _|exact Kd.S_nil _ _ _ _ _,qS HB⟩
  ·rw [if_neg c6] at H
   have c6b0 : decide (a1 < (wrap64 (Int.tdiv (wrap64 (t300 + 7)) 8))) = false:=decide_eq_false c6
   clear c6
   by_cases c10 : 0 ≤ a1
   ·rw [if_pos c10] at H
    have c10b0:=eq_true c10
    have c10b1 : decide (0 ≤ a1) = true:=decide_eq_true c10
    clear c10
    by_cases c11 : (a1 : Int).toNat ≤ 281474976710656
    ·rw [if_pos c11] at H
     have c11b0:=eq_true c11
     have c11b1 : decide ((a1 : Int).toNat ≤ 281474976710656) = true:=decide_eq_true c11
     clear c11
     obtain ⟨y301,hy301⟩ : ∃ y_ : List Int,y_ = (List.replicate (a1 : Int).toNat 0):=⟨_,rfl⟩
     replace H : (nat_Nat_Bytes.l0 k a1 y301 (wrap64 (Int.tdiv (wrap64 (t300 + 7)) 8)) 0 l0_0) = some (r1,r2):=by first|(rw [hy301];with_reducible exact H)|(have H2_:=(Option.bind_some _ _).symm.trans H;rw [hy301];with_reducible exact H2_)|(have H2_:=(Option.bind_some _ _).symm.trans H;with_reducible exact H2_)|with_reducible exact H|(rw [hy301];exact H)|exact H
     have Ny301:=Aside0.mk hy301
     clear hy301
     have H':=Aside0.mk H
     clear H
     go_enter Try.func38,Try.ntmps38
     go_wp2_with (first|((with_reducible refine gate_dst (N:=2) rfl ?_);refine qX #[.slice A0_0 l0_0.length c0_0] 38 ?_;intro gb299 hg w12 hbox hb;have BK299:=Aside0.mk hbox;have GE299:=qh hg HB;replace HB:=qs HB hb;clear hb hbox hg;have hcz13_0:=bc BK299;have hfz13_0:=bz BK299)|((with_reducible refine gate_callee (f:=42) rfl ?_);refine gL (some 12) Try.func42 #[.agg #[.slice A0_0 l0_0.length c0_0]] ?_;(with_reducible refine (nat_Nat_Bits.calls _ _ l0_0 t300 _ ?side1 ?side2 A5.out).mono ?_);(case side1 => exact qCB HR0_0 HB);(case side2 => exact HC0_0.out);rintro e w14 ⟨rfl,hb⟩;refine ⟨_,rfl,?_⟩;replace BK299:=qb BK299 hb;replace HB:=qs HB hb;clear hb)|((with_reducible refine gate_dst (N:=19) rfl ?_);refine Kd.R_make (Kd.int .u8) _ 5 rfl (N:=19) rfl 22 _ _ rfl a1 rfl rfl Try.underlying22 (.int .u8 0) 1 info5 rfl (by decide) (by omega) 0 (ok:=fun _ => True) (okp:=fun _ => True) rfl (fun _ hk => hk) trivial (od) (Nat.le_trans (Nat.mul_le_mul_right _ (od : a1.toNat ≤ 281474976710656)) (by omega)) (Below.refl _ _) (Nat.le_refl _) ?_;intro v302 w15 ho16 hb hg_ hnew_;clear hg_ hnew_;(first|rw [← Ny301.out] at ho16|(simp only [Int.reduceToNat] at ho16;rw [← Ny301.out] at ho16));have HO303:=Aside0.mk (Kd.R_lower ho16 (below_size (qS HB)));replace BK299:=qb BK299 hb;replace HB:=qs HB hb;clear hb ho16))
     go_loopg [21] k (fun kq v21 w' => ∃ (x7_1 : List Int) (x21_1 : Int),v21 = .int .i64 x21_1 ∧ Aside0 (nat_Nat_Bytes.l0 kq a1 x7_1 (wrap64 (Int.tdiv (wrap64 (t300 + 7)) 8)) x21_1 l0_0 = some (r1,r2)) ∧ Aside0 (kq ≤ k) ∧ Aside0 (Kd.R (Kd.int .u8) 5 w' w.heap.size (fun _ => True) v302 x7_1) ∧ Aside0 (w'.heap[gb299]? = some (.cells #[(.slice A0_0 l0_0.length c0_0)] 38 (0,0))) ∧ Aside0 (Below w.heap.size w w'))
     case atStart => exact ⟨(y301),(0),(by first|rfl|(simp;done)|(simp [*];done)),H',⟨Nat.le_refl _⟩,⟨qRm HO303⟩,⟨qB BK299.out⟩,⟨qS HB⟩⟩
     case round =>
      clear H'
      try clear c1
      try clear p2
      try clear c3
      try clear c3b0
      try clear c4
      try clear c6
      try clear c6b0
      try clear p6
      try clear c10
      try clear c10b0
      try clear c10b1
      try clear c11
      try clear c11b0
      try clear c11b1
      try clear hcz13_0
      try clear hcz8_0
      try clear hfz13_0
      try clear hfz8_0
      obtain ⟨x7_1,x21_1,rfl,HA,HK1,HO_7,BK299,HB⟩:=hrel
      cases gk with
      |zero => exact absurd HA.out (by simp [nat_Nat_Bytes.l0])
      |succ k1 =>
       have H:=HA.out
       clear HA
       simp only [nat_Nat_Bytes.l0] at H
       by_cases c17 : x21_1 < (wrap64 (Int.tdiv (wrap64 (t300 + 7)) 8))
       ·rw [if_pos c17] at H
        have c17b0 : decide (x21_1 < (wrap64 (Int.tdiv (wrap64 (t300 + 7)) 8))) = true:=decide_eq_true c17
        clear c17
        obtain ⟨ji18,hji18⟩ : ∃ j_ : Int,(wrap64 (Int.tdiv x21_1 4)) = j_:=⟨_,rfl⟩
        (first|rw [hji18] at H|simp only [hji18] at H)
        have hji18w : (IntKind.i64.wrap (Int.tdiv x21_1 4)) = ji18:=(i64_w _).trans hji18
        by_cases c19 : 0 ≤ (ji18)
        ·rw [if_pos c19] at H
         have c19b0 : decide (0 ≤ (ji18)) = true:=decide_eq_true c19
         clear c19
         by_cases c20 : (ji18) < (l0_0.length : Int)
         ·rw [if_pos c20] at H
          have c20b0 : decide ((ji18) < (l0_0.length : Int)) = true:=decide_eq_true c20
          clear c20
          obtain ⟨ji21,hji21⟩ : ∃ j_ : Int,(wrap64 (8 * (Int.tmod x21_1 4))) = j_:=⟨_,rfl⟩
          (first|rw [hji21] at H|simp only [hji21] at H)
          have hji21w : (IntKind.i64.wrap (8 * (Int.tmod x21_1 4))) = ji21:=(i64_w _).trans hji21
          by_cases c22 : 0 ≤ (ji21)
          ·rw [if_pos c22] at H
           have c22b0:=eq_true c22
           have c22b1 : decide (0 ≤ (ji21)) = true:=decide_eq_true c22
           clear c22
           obtain ⟨ji23,hji23⟩ : ∃ j_ : Int,(shr .u32 (rd l0_0 (ji18)) (ji21)) = j_:=⟨_,rfl⟩
           (first|rw [hji23] at H|simp only [hji23] at H)
           have hji23_ : ((rd l0_0 (ji18)) / 2 ^ min (ji21).toNat 32) = ji23:=hji23
           have hji23z : (ji21) ≤ 32 → ((rd l0_0 (ji18)) / 2 ^ (ji21).toNat) = ji23:=shr_small hji23
           obtain ⟨ji24,hji24⟩ : ∃ j_ : Int,(wrap64 ((wrap64 (a1 - 1)) - x21_1)) = j_:=⟨_,rfl⟩
           (first|rw [hji24] at H|simp only [hji24] at H)
           have hji24w : (IntKind.i64.wrap ((wrap64 (a1 - 1)) - x21_1)) = ji24:=(i64_w _).trans hji24
           by_cases c25 : 0 ≤ (ji24)
           ·rw [if_pos c25] at H
            have c25b0 : decide (0 ≤ (ji24)) = true:=decide_eq_true c25
            clear c25
            by_cases c26 : (ji24) < (x7_1.length : Int)
            ·rw [if_pos c26] at H
             have c26b0 : decide ((ji24) < (x7_1.length : Int)) = true:=decide_eq_true c26
             clear c26
             obtain ⟨y305,hy305⟩ : ∃ y_ : List Int,y_ = (x7_1.set ((ji24) : Int).toNat ((ji23) % 256)):=⟨_,rfl⟩
             replace H : (nat_Nat_Bytes.l0 k1 a1 y305 (wrap64 (Int.tdiv (wrap64 (t300 + 7)) 8)) (wrap64 (x21_1 + 1)) l0_0) = some (r1,r2):=by first|(rw [hy305];with_reducible exact H)|(have H2_:=(Option.bind_some _ _).symm.trans H;rw [hy305];with_reducible exact H2_)|(have H2_:=(Option.bind_some _ _).symm.trans H;with_reducible exact H2_)|with_reducible exact H|(rw [hy305];exact H)|exact H
             have Ny305:=Aside0.mk hy305
             clear hy305
             have H':=Aside0.mk H
             clear H
             have hcz28_0 : wr.cell? ⟨gb299,0,none⟩ = some (.slice A0_0 l0_0.length c0_0):=bc BK299
             have hfz28_0:=bz BK299
             have p304 : 0 ≤ ((ji18) : Int):=od
             have q304 : (ji18) < (l0_0.length : Int):=od
             obtain ⟨ad304,e304,hx304_0⟩:=Kd.at_int HR0_0.out (ji18) p304 q304
             cases e304
             replace hx304_0:=(HB.out.cell (World.block_lt_of_cell? w _ hx304_0)).trans hx304_0
             replace p304:=eq_true p304
             replace q304:=eq_true q304
             have p27 : 0 ≤ ((ji24) : Int):=od
             have q27 : ((ji24) : Int) < ((x7_1.length : Int) : Int):=od
             obtain ⟨go27,co27,eo27,gb27,gl27,cl27,HG27⟩:=Kd.R_form HO_7.out (by omega)
             (first|cases eo27|(injection eo27 with ea_ en_ ec_;(first|subst ea_|(injection ea_ with ea_;subst ea_));subst ec_;clear en_))
             have GB27:=Aside0.mk gb27
             have GG27:=Aside0.mk HG27
             clear gb27 gl27 HG27
             obtain ⟨hx27_0,hf27_0⟩:=Kd.R_celln 0 HO_7.out ((ji24) : Int) p27 q27
             replace p27:=eq_true p27
             replace q27:=eq_true q27
             have HP29:=Kd.R_putg HO_7.out ((ji24) : Int) ((ji23) % 256)
             go_wp2_with (first|((with_reducible refine gate_store (t:=5) (p:=40) rfl ?_);refine qSt (wr.setCell ⟨go27,((ji24) : Int).toNat,none⟩ (.int .u8 ((ji23) % 256))) ?_;intro w30 hw;have hg : wr.grownBy w30 (some go27):=(by rw [hw];exact HP29.2);have hp_ : Kd.R (Kd.int .u8) 5 w30 w.heap.size (fun _ => True) (.slice (some ⟨go27,0,none⟩) x7_1.length co27) y305:=(by rw [hw,Ny305.out];exact HP29.1);clear HP29;replace BK299:=Aside0.mk (blk_grown (g:=gb299) (o:=.cells #[.slice (some ad304) l0_0.length c0_0] 38 (0,0)) (qB BK299.out) hg (Kd.R_ne HO_7.out BK299.out (by decide)));replace HO_7:=Aside0.mk (hp_);replace HB:=Aside0.mk ((by rw [hw];exact below_set (HB.out) GB27.out : Below w.heap.size w w30));clear hg hw hp_))
             go_roundg k1
             case measure => have:=HK1.out;omega
             case rel => exact ⟨(y305),(wrap64 (x21_1 + 1)),(by first|rfl|(simp;done)|(simp [*];done)),H',⟨by have:=HK1.out;omega⟩,⟨qRm HO_7⟩,⟨qB BK299.out⟩,⟨qS HB⟩⟩
            ·rw [if_neg c26] at H
             exact absurd H (by simp)
           ·rw [if_neg c25] at H
            exact absurd H (by simp)
          ·rw [if_neg c22] at H
           exact absurd H (by simp)
         ·rw [if_neg c20] at H
          exact absurd H (by simp)
        ·rw [if_neg c19] at H
         exact absurd H (by simp)
       ·rw [if_neg c17] at H
        have c17b0 : decide (x21_1 < (wrap64 (Int.tdiv (wrap64 (t300 + 7)) 8))) = false:=decide_eq_false c17
        clear c17
        simp only [Option.some.injEq,Prod.mk.injEq] at H
        obtain ⟨rfl,rfl⟩:=H
        go_wp2
        (first|go_ret2|(refine ⟨_,results_tmp2 rfl _ _ _,?_⟩))
        exact ⟨_,by first|rfl|(simp [errW_none,errW_some] <;> rfl)|(simp [*,errW_none,errW_some] <;> rfl),qRm HO_7,qS HB⟩
    ·rw [if_neg c11] at H
     exact absurd H (by simp)
   ·rw [if_neg c10] at H
    exact absurd H (by simp)
end Go.Proofs.Yteejcpbngnojkaa.P
end
section
namespace Go.Proofs.Yteejcpbngnojkaa.P
open Go.RowKit Go.Proofs.YteejcpbngnojkaaW.PrintWords Go.Proofs.YteejcpbngnojkaaW.PrintLast Go.Proofs.YteejcpbngnojkaaW.PrintMore
attribute [local go_sem] max2_int min2_int max_two min_two max_three min_three max_four min_four
set_option linter.unusedVariables false
set_option linter.unusedSimpArgs false
def nat_Nat_Least.f (k : Nat) (l0_0 : List Int) : Option (List Int):=(nat_Nat_Bits.f l0_0).bind fun t307 => ((nat_Nat_Bytes.f k l0_0 (wrap64 (Int.tdiv (wrap64 (t307 + 7)) 8))).bind fun bt308 => (some bt308.1))
theorem nat_Nat_Least.mono : ∀ a0 k,LeO (nat_Nat_Least.f k a0) (nat_Nat_Least.f (k + 1) a0):=by
 intro a0 k
 unfold nat_Nat_Least.f
 repeat' first
   |(with_reducible exact nat_Nat_Bytes.mono _ _ _)
   |(with_reducible exact LeO.refl _)
   |(with_reducible exact LeO.none _)
   |(with_reducible refine LeO.ite ?_ ?_)
   |(with_reducible refine LeO.bind ?_ (fun _ => ?_))
   |exact nat_Nat_Bytes.mono _ _ _
   |exact LeO.none _
   |refine LeO.ite ?_ ?_
   |refine LeO.bind ?_ (fun _ => ?_)
def nat_Nat_Least.T1 : Bool × List (List Nat × List Nat):=(true,[([],[]),([],[]),([1],[1]),([2],[2]),([3],[3]),([0,4,2],[0,4]),([5],[5]),([6],[6]),([6],[6]),([7,5,0,1,2,3,4,5,6,7],[7]),([8,9,0,1,2,3,4,5,6,7,8,9],[8])])
def nat_Nat_Least.B1 : List Nat:=[0,0,2,6,14,31,63,127,127,255,1023]
theorem nat_Nat_Least.tab1 : rtab .any (opsOf Try.f61 1) = nat_Nat_Least.T1:=by kernel_rfl
theorem nat_Nat_Least.bits1 : waitsOk nat_Nat_Least.T1.2 nat_Nat_Least.B1 = true:=by kernel_rfl
set_option maxHeartbeats 8000000 in
set_option maxRecDepth 100000 in
theorem nat_Nat_Least.calls (k : Nat) (A0_0 : Option Addr) (c0_0 : Nat) (l0_0 : List Int) (r : List Int) (w : World) (hr0_0 : Kd.C (Kd.int .u32) w A0_0 l0_0.length l0_0) (hc0_0 : l0_0.length ≤ c0_0) (h : nat_Nat_Least.f k l0_0 = some r) :
  Calls Try.prog 61 #[.agg #[.slice A0_0 l0_0.length c0_0]] w fun e w' => ∃ v0_ : Value,e = .returned (v0_) ∧ Kd.R (Kd.int .u8) 5 w' w.heap.size (fun _ => True) v0_ r ∧ Below w.heap.size w w':=by
 have hu38:=Try.underlying38
 have HR0_0:=Aside0.mk hr0_0
 have HC0_0:=Aside0.mk hc0_0
 clear hr0_0 hc0_0
 have HB:=Aside0.mk (Below.refl w.heap.size w)
 have H : ((nat_Nat_Bits.f l0_0).bind fun t307 => ((nat_Nat_Bytes.f k l0_0 (wrap64 (Int.tdiv (wrap64 (t307 + 7)) 8))).bind fun bt308 => (some bt308.1))) = some r:=h
 clear h
 obtain ⟨t307,A2,H⟩:=qH H
 obtain ⟨⟨t308,t311⟩,A3,H⟩:=qH H
 dsimp only at H
 obtain rfl:=Option.some.inj H
 go_enter Try.func61,Try.ntmps61
 try go_wp2_with (first|((with_reducible refine gate_dst (N:=1) rfl ?_);refine qX #[.slice A0_0 l0_0.length c0_0] 38 ?_;intro gb306 hg w4 hbox hb;have BK306:=Aside0.mk hbox;have GE306:=qh hg HB;replace HB:=qs HB hb;clear hb hbox hg))
 replace BK306:=qbd BK306
 replace HB:=qsd HB
 refine start_ (n:=11) (S:=fun w' => w'.cell? ⟨gb306,0,none⟩ = some (.slice A0_0 l0_0.length c0_0)) (ds:=[]) #[false,false,false,false,false,false,false,false,false,false,false] (by kernel_rfl) rfl rfl (bc BK306) (fun hHeld => ?_);refine with_tabW nat_Nat_Least.tab1 nat_Nat_Least.bits1 (fun HT_ HW_ => ?_)
 generalize w4.drew = w5 at BK306 HB hHeld ⊢
 refine qT 0 6 HT_ HW_ hHeld ?_
 refine qT 1 7 HT_ HW_ hHeld ?_
 refine q1 2 (some 8) HT_ rfl (fun K hK => ?_)
 refine g_ Try.func42 #[.agg #[.slice A0_0 l0_0.length c0_0]] ?_
 with_reducible refine (nat_Nat_Bits.calls _ _ l0_0 t307 _ ?side1 ?side2 A2.out).mono ?_
 (case side1 => exact qCB HR0_0 HB)
 (case side2 => exact HC0_0.out)
 rintro e w6 ⟨rfl,hb⟩
 refine ⟨_,rfl,?_⟩
 replace BK306:=qb BK306 hb
 replace HB:=qs HB hb
 clear hb
 refine hK.out _ _ (bc BK306) (fun hHeld => ?_)
 clear hK K
 refine qO 8 ?_
 refine qP 3 9 HT_ ?_
 refine qP 4 10 HT_ ?_
 refine q1 5 (some 11) HT_ rfl (fun K hK => ?_)
 refine g_ Try.func38 #[.agg #[.slice A0_0 l0_0.length c0_0],.int .i64 (wrap64 (Int.tdiv (wrap64 (t307 + 7)) 8))] ?_
 with_reducible refine (nat_Nat_Bytes.calls k _ _ l0_0 (wrap64 (Int.tdiv (wrap64 (t307 + 7)) 8)) t308 t311 _ ?side1 ?side2 A3.out).mono ?_
 (case side1 => exact qCB HR0_0 HB)
 (case side2 => exact HC0_0.out)
 rintro e w7 ⟨v309,rfl,ho0,hb⟩
 refine ⟨_,rfl,?_⟩
 have HO310:=Aside0.mk (Kd.R_lower ho0 (below_size (qS HB)))
 replace BK306:=qb BK306 hb
 replace HB:=qs HB hb
 clear hb ho0
 refine hK.out _ _ (bc BK306) (fun hHeld => ?_)
 clear hK K
 refine qO 11 ?_
 refine qP 6 5 HT_ ?_
 refine qP 7 12 HT_ ?_
 refine qP 8 13 HT_ ?_
 refine qP 9 3 HT_ ?_
 refine qP 10 4 HT_ ?_
 refine qD HT_ ?_
 try go_wp2
 (first|go_ret|(refine ⟨_,results_tmp rfl _ _ _,?_⟩))
 exact ⟨_,by first|rfl|(simp [errW_none,errW_some] <;> rfl)|(simp [*,errW_none,errW_some] <;> rfl),qRm HO310,qS HB⟩
end Go.Proofs.Yteejcpbngnojkaa.P
end
section
namespace Go.Proofs.Yteejcpbngnojkaa.P
open Go.RowKit Go.Proofs.YteejcpbngnojkaaW.PrintWords Go.Proofs.YteejcpbngnojkaaW.PrintLast Go.Proofs.YteejcpbngnojkaaW.PrintMore
attribute [local go_sem] max2_int min2_int max_two min_two max_three min_three max_four min_four
set_option linter.unusedVariables false
set_option linter.unusedSimpArgs false
def sacristylaw01_Same.f (k : Nat) (l0_0 : List Int) (l1 : List Bool) : Option (Bool):=(sacristyref01_Bytes.f k l1 (wrap64 (Int.tdiv (wrap64 ((l1.length : Int) + 7)) 8))).bind fun bt313 => ((nat_Nat_Least.f k l0_0).bind fun t317 => (some ((strOfNums t317).toList == (strOfNums bt313.1).toList)))
theorem sacristylaw01_Same.mono : ∀ a0 a1 k,LeO (sacristylaw01_Same.f k a0 a1) (sacristylaw01_Same.f (k + 1) a0 a1):=by
 intro a0 a1 k
 unfold sacristylaw01_Same.f
 repeat' first
   |(with_reducible exact nat_Nat_Least.mono _ _)
   |(with_reducible exact sacristyref01_Bytes.mono _ _ _)
   |(with_reducible exact LeO.refl _)
   |(with_reducible exact LeO.none _)
   |(with_reducible refine LeO.ite ?_ ?_)
   |(with_reducible refine LeO.bind ?_ (fun _ => ?_))
   |exact nat_Nat_Least.mono _ _
   |exact sacristyref01_Bytes.mono _ _ _
   |exact LeO.none _
   |refine LeO.ite ?_ ?_
   |refine LeO.bind ?_ (fun _ => ?_)
set_option maxHeartbeats 8000000 in
set_option maxRecDepth 100000 in
theorem sacristylaw01_Same.calls (k : Nat) (A0_0 : Option Addr) (c0_0 : Nat) (l0_0 : List Int) (A1 : Option Addr) (c1 : Nat) (l1 : List Bool) (r : Bool) (w : World) (hr0_0 : Kd.C (Kd.int .u32) w A0_0 l0_0.length l0_0) (hc0_0 : l0_0.length ≤ c0_0) (hr1 : Kd.C Kd.bool w A1 l1.length l1) (hc1 : l1.length ≤ c1) (h : sacristylaw01_Same.f k l0_0 l1 = some r) :
  Calls Try.prog 37 #[.agg #[.slice A0_0 l0_0.length c0_0],.slice A1 l1.length c1] w fun e w' => e = .returned (.bool r) ∧ Below w.heap.size w w':=by
 have hu38:=Try.underlying38
 have HR0_0:=Aside0.mk hr0_0
 have HC0_0:=Aside0.mk hc0_0
 clear hr0_0 hc0_0
 have HR1:=Aside0.mk hr1
 have HC1:=Aside0.mk hc1
 clear hr1 hc1
 have HB:=Aside0.mk (Below.refl w.heap.size w)
 have H : ((sacristyref01_Bytes.f k l1 (wrap64 (Int.tdiv (wrap64 ((l1.length : Int) + 7)) 8))).bind fun bt313 => ((nat_Nat_Least.f k l0_0).bind fun t317 => (some ((strOfNums t317).toList == (strOfNums bt313.1).toList)))) = some r:=h
 clear h
 obtain ⟨⟨t313,t314⟩,A3,H⟩:=qH H
 dsimp only at H
 obtain ⟨t317,A4,H⟩:=qH H
 obtain rfl:=Option.some.inj H
 go_enter Try.func37,Try.ntmps37
 try go_wp2_with (first|((with_reducible refine gate_dst (N:=2) rfl ?_);refine qX #[.slice A0_0 l0_0.length c0_0] 38 ?_;intro gb312 hg w5 hbox hb;have BK312:=Aside0.mk hbox;have GE312:=qh hg HB;replace HB:=qs HB hb;clear hb hbox hg)|((with_reducible refine gate_callee (f:=39) rfl ?_);refine gL (some 13) Try.func39 #[.slice A1 l1.length c1,.int .i64 (wrap64 (Int.tdiv (wrap64 ((l1.length : Int) + 7)) 8))] ?_;(with_reducible refine (sacristyref01_Bytes.calls k _ _ l1 (wrap64 (Int.tdiv (wrap64 ((l1.length : Int) + 7)) 8)) t313 t314 _ ?side1 ?side2 A3.out).mono ?_);(case side1 => exact qCB HR1 HB);(case side2 => exact HC1.out);rintro e w6 ⟨v315,rfl,ho0,hb⟩;refine ⟨_,rfl,?_⟩;have HO316:=Aside0.mk (Kd.R_lower ho0 (below_size (qS HB)));replace BK312:=qb BK312 hb;replace HB:=qs HB hb;clear hb ho0))
 replace HO316:=qRw HO316
 replace BK312:=qbd BK312
 replace HB:=qsd HB
 refine start_ (n:=7) (S:=fun w' => w'.cell? ⟨gb312,0,none⟩ = some (.slice A0_0 l0_0.length c0_0) ∧ w'.ownsRow w.heap.size 5 1 v315 t313.length (encs (Value.int .u8) t313)) (ds:=[]) #[false,false,false,false,false,false,false] (by kernel_rfl) rfl rfl ⟨(bc BK312),(Kd.own_of_R HO316.out)⟩ (fun hHeld => ?_)
 generalize w6.drew = w7 at HO316 BK312 HB hHeld ⊢
 refine pure_ (i:=3) (N:=some 19) (v:=?_) (a':=?_) #[false,false,false,true,false,false,false] rfl rfl (by kernel_rfl) (fun _ _ _ h => h) (Or.inl ⟨by rfl,?_⟩) ?_ ?_
 rotate_left
 ·intro w'
  go_simp
  with_reducible rfl
 rotate_left
 ·simp only [Act.put,List.setIfInBounds_toArray,List.set_cons_zero,List.set_cons_succ,i64_w,i32_w]
  rfl
 refine take_ (i:=4) (N:=some 20) (v:=?_) (a':=?_) #[false,false,false,true,true,false,false] rfl rfl (by kernel_rfl) (fun _ _ _ h => h) (Or.inl ⟨by rfl,?_⟩) hHeld ?_ ?_
 rotate_left
 ·intro w' hS_
  have hcv_:=own_string (P:=Try.prog) Try.underlying22 Try.underlying5 Try.underlying9 hS_.2
  go_simp
  with_reducible rfl
 rotate_left
 ·simp only [Act.put,List.setIfInBounds_toArray,List.set_cons_zero,List.set_cons_succ,i64_w,i32_w]
  rfl
 refine take_ (i:=0) (N:=some 16) (v:=?_) (a':=?_) #[true,false,false,true,true,false,false] rfl rfl (by kernel_rfl) (fun _ _ _ h => h) (Or.inl ⟨by rfl,?_⟩) hHeld ?_ ?_
 rotate_left
 ·intro w' ⟨s0,_⟩
  go_simp
  with_reducible rfl
 rotate_left
 ·simp only [Act.put,List.setIfInBounds_toArray,List.set_cons_zero,List.set_cons_succ,i64_w,i32_w]
  rfl
 refine one_ (i:=1) (N:=some 17) #[true,true,false,true,true,false,false] rfl rfl (by kernel_rfl) (by decide) (fun K hK => ?_)
 refine g_ Try.func61 #[.agg #[.slice A0_0 l0_0.length c0_0]] ?_
 with_reducible refine (nat_Nat_Least.calls k _ _ l0_0 t317 _ ?side1 ?side2 A4.out).mono ?_
 (case side1 => exact qCB HR0_0 HB)
 (case side2 => exact HC0_0.out)
 rintro e w8 ⟨v318,rfl,ho0,hb⟩
 refine ⟨_,rfl,?_⟩
 have HO319:=Aside0.mk (Kd.R_lower (Kd.R_new' ho0 (Kd.R_lt (qRm HO316))) (below_size (qS HB)))
 replace HO316:=qRd HO316 ho0 hb
 replace BK312:=qb BK312 hb
 replace HB:=qs HB hb
 clear hb ho0
 have hcv10:=own_string (P:=Try.prog) Try.underlying22 Try.underlying5 Try.underlying9 (Kd.own_of_R HO316.out)
 refine hK.out _ _ ⟨(bc BK312),(Kd.own_of_R HO316.out)⟩ (fun hHeld => ?_)
 clear hK K
 refine qO 17 ?_
 refine one_ (i:=2) (N:=some 18) #[true,true,true,true,true,false,false] rfl rfl (by kernel_rfl) (by decide) (fun K hK => ?_)
 have hcv9:=own_string (P:=Try.prog) Try.underlying22 Try.underlying5 Try.underlying9 (Kd.own_of_R HO319.out)
 refine value_ (w1:=?_) (v:=?_) (by rfl) rfl ?_ ?_
 rotate_left 2
 ·go_simp
  constructor
  ·rfl
  ·rfl
 clear hcv9
 refine hK.out _ _ ⟨(bc BK312),(Kd.own_of_R HO316.out)⟩ (fun hHeld => ?_)
 clear hK K
 refine qO 18 ?_
 refine pure_ (i:=5) (N:=some 21) (v:=?_) (a':=?_) #[true,true,true,true,true,true,false] rfl rfl (by kernel_rfl) (fun _ _ _ h => h) (Or.inl ⟨by rfl,?_⟩) ?_ ?_
 rotate_left
 ·intro w'
  go_simp
  with_reducible rfl
 rotate_left
 ·simp only [Act.put,List.setIfInBounds_toArray,List.set_cons_zero,List.set_cons_succ,i64_w,i32_w]
  rfl
 refine pure_ (i:=6) (N:=some 4) (v:=?_) (a':=?_) #[true,true,true,true,true,true,true] rfl rfl (by kernel_rfl) (fun _ _ _ h => h) (Or.inl ⟨by rfl,?_⟩) ?_ ?_
 rotate_left
 ·intro w'
  go_simp
  with_reducible rfl
 rotate_left
 ·simp only [Act.put,List.setIfInBounds_toArray,List.set_cons_zero,List.set_cons_succ,i64_w,i32_w]
  rfl
 refine done_ (by kernel_rfl) ?_
 try go_wp2
 (first|go_ret|(refine ⟨_,results_tmp rfl _ _ _,?_⟩))
 exact ⟨by first|rfl|(simp [errW_none,errW_some] <;> rfl)|(simp [*,errW_none,errW_some] <;> rfl),qS HB⟩
end Go.Proofs.Yteejcpbngnojkaa.P
end
section
namespace Go.Proofs.Yteejcpbngnojkaa.P
open Go.RowKit Go.Proofs.YteejcpbngnojkaaW.PrintWords Go.Proofs.YteejcpbngnojkaaW.PrintLast Go.Proofs.YteejcpbngnojkaaW.PrintMore
attribute [local go_sem] max2_int min2_int max_two min_two max_three min_three max_four min_four
set_option linter.unusedVariables false
set_option linter.unusedSimpArgs false
def sacristyref01_Small.l0 : Nat → Int → List Bool → Option (List Bool)
 |0,_,_ => none
 |k + 1,x0,x3 => if x0 > 0 then (if x3.length < 140737488355328 then (sacristyref01_Small.l0 k (IntKind.u64.wrap (Int.tdiv x0 2)) (x3 ++ [((Int.tmod x0 2) == 1)])) else (none)) else (some x3)
def sacristyref01_Small.f (k : Nat) (a0 : Int) : Option (List Bool):=sacristyref01_Small.l0 k a0 (([] : List Bool))
theorem sacristyref01_Small.mono_l : ∀ k,(∀ y0 y1,LeO (sacristyref01_Small.l0 k y0 y1) (sacristyref01_Small.l0 (k + 1) y0 y1))
 |0 => fun _ _ r h => by simp [sacristyref01_Small.l0] at h
 |k + 1 => by
  have ih0:=sacristyref01_Small.mono_l k
  ·intro y0 y1
   unfold sacristyref01_Small.l0
   repeat' first
   |(with_reducible exact ih0 _ _)
   |(with_reducible exact LeO.refl _)
   |(with_reducible exact LeO.none _)
   |(with_reducible refine LeO.ite ?_ ?_)
   |(with_reducible refine LeO.bind ?_ (fun _ => ?_))
   |exact ih0 _ _
   |exact LeO.none _
   |refine LeO.ite ?_ ?_
   |refine LeO.bind ?_ (fun _ => ?_)
theorem sacristyref01_Small.mono : ∀ a0 k,LeO (sacristyref01_Small.f k a0) (sacristyref01_Small.f (k + 1) a0):=by
 intro a0 k
 have ih0:=sacristyref01_Small.mono_l k
 unfold sacristyref01_Small.f
 repeat' first
   |(with_reducible exact ih0 _ _)
   |(with_reducible exact LeO.refl _)
   |(with_reducible exact LeO.none _)
   |(with_reducible refine LeO.ite ?_ ?_)
   |(with_reducible refine LeO.bind ?_ (fun _ => ?_))
   |exact ih0 _ _
   |exact LeO.none _
   |refine LeO.ite ?_ ?_
   |refine LeO.bind ?_ (fun _ => ?_)
set_option maxHeartbeats 8000000 in
set_option maxRecDepth 100000 in
theorem sacristyref01_Small.calls (k : Nat) (a0 : Int) (r : List Bool) (w : World) (h : sacristyref01_Small.f k a0 = some r) :
  Calls Try.prog 56 #[.int .u64 a0] w fun e w' => ∃ v0_ : Value,e = .returned (v0_) ∧ Kd.R Kd.bool 4 w' w.heap.size (fun _ => True) v0_ r ∧ Below w.heap.size w w':=by
 have HB:=Aside0.mk (Below.refl w.heap.size w)
 have H : (sacristyref01_Small.l0 k a0 (([] : List Bool))) = some r:=h
 clear h
 obtain ⟨y414,hy414⟩ : ∃ y_ : List Bool,y_ = (([] : List Bool)):=⟨_,rfl⟩
 replace H : (sacristyref01_Small.l0 k a0 y414) = some r:=by first|(rw [hy414];with_reducible exact H)|(have H2_:=(Option.bind_some _ _).symm.trans H;rw [hy414];with_reducible exact H2_)|(have H2_:=(Option.bind_some _ _).symm.trans H;with_reducible exact H2_)|with_reducible exact H|(rw [hy414];exact H)|exact H
 have Ny414:=Aside0.mk hy414
 clear hy414
 have H':=Aside0.mk H
 clear H
 go_enter Try.func56,Try.ntmps56
 go_wp2_with (first|((with_reducible refine gate_dst (N:=4) rfl ?_);refine Kd.R_lit Kd.bool _ 4 ?hg (N:=4) ?hd (xs:=([] : List Bool)) (inner:=[]) (ok:=fun _ => True) (okp:=fun _ => True) ?hr ?hp (fun _ hk => hk) trivial (Below.refl _ _) (Nat.le_refl _) (by simp) ?_;(case hd => rfl);(case hg => rfl);(case hr => first|(go_simp;done)|(go_simp;rfl));(case hp => exact (Reps.none _ _));intro v415 w2 ho3 hb hg_ hnew_;clear hg_ hnew_;(first|rw [← Ny414.out] at ho3|(simp only [Int.reduceToNat] at ho3;rw [← Ny414.out] at ho3));have HO416:=Aside0.mk (Kd.R_lower ho3 (below_size (qS HB)));replace HB:=qs HB hb;clear hb ho3))
 go_loopg [0,3] k (fun kq v0 v3 w' => ∃ (x0_1 : Int) (x3_1 : List Bool),v0 = .int .u64 x0_1 ∧ Aside0 (sacristyref01_Small.l0 kq x0_1 x3_1 = some r) ∧ Aside0 (kq ≤ k) ∧ Aside0 (Kd.R Kd.bool 4 w' w.heap.size (fun _ => True) v3 x3_1) ∧ Aside0 (Below w.heap.size w w'))
 case atStart => exact ⟨(a0),(y414),(by first|rfl|(simp;done)|(simp [*];done)),H',⟨Nat.le_refl _⟩,⟨qRm HO416⟩,⟨qS HB⟩⟩
 case round =>
  clear H'
  try clear p2
  obtain ⟨x0_1,x3_1,rfl,HA,HK1,HO_3,HB⟩:=hrel
  cases gk with
  |zero => exact absurd HA.out (by simp [sacristyref01_Small.l0])
  |succ k1 =>
   have H:=HA.out
   clear HA
   simp only [sacristyref01_Small.l0] at H
   by_cases c4 : x0_1 > 0
   ·rw [if_pos c4] at H
    have c4b0 : decide (0 < x0_1) = true:=decide_eq_true c4
    clear c4
    by_cases c5 : x3_1.length < 140737488355328
    ·rw [if_pos c5] at H
     have LMc5:=Aside0.mk c5
     clear c5
     obtain ⟨y417,hy417⟩ : ∃ y_ : List Bool,y_ = (x3_1 ++ [((Int.tmod x0_1 2) == 1)]):=⟨_,rfl⟩
     replace H : (sacristyref01_Small.l0 k1 (IntKind.u64.wrap (Int.tdiv x0_1 2)) y417) = some r:=by first|(rw [hy417];with_reducible exact H)|(have H2_:=(Option.bind_some _ _).symm.trans H;rw [hy417];with_reducible exact H2_)|(have H2_:=(Option.bind_some _ _).symm.trans H;with_reducible exact H2_)|with_reducible exact H|(rw [hy417];exact H)|exact H
     have Ny417:=Aside0.mk hy417
     clear hy417
     have H':=Aside0.mk H
     clear H
     go_wp2_with (first|((with_reducible refine gate_builtin (b:=.append) (xs:=#[.tmp 7,.tmp 11]) rfl ?_);at_builtin;refine Kd.R_append Kd.bool (w0:=w) w.heap.size rfl (.tmp 7) (.tmp 11) 42 4 (.bool false) 1 rfl Try.underlying42 info4 rfl (by decide) (by omega) u3 x3_1 ((Int.tmod x0_1 2) == 1) [.bool ((Int.tmod x0_1 2) == 1)] (fun _ => True) (fun _ => False) rfl rfl ?aP (fun _ hk => hk.elim) ?aF ?aO ?aB ?aS ?aL ?_;(case aP => exact rfl);(case aB => exact (qS HB));(case aF => exact (fun _ _ => trivial));(case aO => exact (qRm HO_3));(case aS => exact (below_size (qS HB)));(case aL => have:=LMc5.out;omega);intro v418 w6 ho hb hg hat;rw [← Ny417.out] at ho;replace HB:=Aside0.mk (hb);have HO419:=Aside0.mk (ho);(try clear HO_3);clear ho hb hg hat))
     go_roundg k1
     case measure => have:=HK1.out;omega
     case rel => exact ⟨(IntKind.u64.wrap (Int.tdiv x0_1 2)),(y417),(by first|rfl|(simp;done)|(simp [*];done)),H',⟨by have:=HK1.out;omega⟩,⟨qRm HO419⟩,⟨qS HB⟩⟩
    ·rw [if_neg c5] at H
     exact absurd H (by simp)
   ·rw [if_neg c4] at H
    have c4b0 : decide (0 < x0_1) = false:=decide_eq_false c4
    clear c4
    obtain rfl:=Option.some.inj H
    go_wp2
    (first|go_ret|(refine ⟨_,results_tmp rfl _ _ _,?_⟩))
    exact ⟨_,by first|rfl|(simp [errW_none,errW_some] <;> rfl)|(simp [*,errW_none,errW_some] <;> rfl),qRm HO_3,qS HB⟩
end Go.Proofs.Yteejcpbngnojkaa.P
end
section
namespace Go.Proofs.Yteejcpbngnojkaa.P
open Go.RowKit Go.Proofs.YteejcpbngnojkaaW.PrintWords Go.Proofs.YteejcpbngnojkaaW.PrintLast Go.Proofs.YteejcpbngnojkaaW.PrintMore
attribute [local go_sem] max2_int min2_int max_two min_two max_three min_three max_four min_four
set_option linter.unusedVariables false
set_option linter.unusedSimpArgs false
def sacristylaw01_lives.f (k : Nat)  : Option (Bool):=(nat_New.f k 7).bind fun t420 => ((nat_New.f k 2).bind fun t423 => ((nat_Nat_Div.f k t420 t423).bind fun bt426 => (if bt426.2.2 = 0 then ((sacristyref01_Small.f k 3).bind fun t435 => ((sacristylaw01_Same.f k bt426.1 t435).bind fun t438 => (if t438 = true then ((sacristyref01_Small.f k 1).bind fun t439 => ((sacristylaw01_Same.f k bt426.2.1 t439).bind fun t442 => (some t442))) else (some false)))) else (some false))))
theorem sacristylaw01_lives.mono : ∀ k,LeO (sacristylaw01_lives.f k ) (sacristylaw01_lives.f (k + 1) ):=by
 intro  k
 unfold sacristylaw01_lives.f
 repeat' first
   |(with_reducible exact nat_Nat_Div.mono _ _ _)
   |(with_reducible exact nat_New.mono _ _)
   |(with_reducible exact sacristylaw01_Same.mono _ _ _)
   |(with_reducible exact sacristyref01_Small.mono _ _)
   |(with_reducible exact LeO.refl _)
   |(with_reducible exact LeO.none _)
   |(with_reducible refine LeO.ite ?_ ?_)
   |(with_reducible refine LeO.bind ?_ (fun _ => ?_))
   |exact nat_Nat_Div.mono _ _ _
   |exact nat_New.mono _ _
   |exact sacristylaw01_Same.mono _ _ _
   |exact sacristyref01_Small.mono _ _
   |exact LeO.none _
   |refine LeO.ite ?_ ?_
   |refine LeO.bind ?_ (fun _ => ?_)
def sacristylaw01_lives.T2 : Bool × List (List Nat × List Nat):=(true,[([],[]),([0],[0]),([1],[1]),([2],[2]),([2,2],[2]),([3,4,4,2],[2,3,4]),([2,5],[2,5]),([6,5],[6]),([7],[7]),([7,7],[7]),([8,9,9,7],[7,8,9]),([7,10],[7,10]),([11,10,0,1,2,3,4,5,6,7,8,9,10,11],[11])])
def sacristylaw01_lives.B2 : List Nat:=[0,1,3,7,7,31,63,127,255,255,1023,2047,4095]
theorem sacristylaw01_lives.tab2 : rtab .any (opsOf Try.f34 2) = sacristylaw01_lives.T2:=by kernel_rfl
theorem sacristylaw01_lives.bits2 : waitsOk sacristylaw01_lives.T2.2 sacristylaw01_lives.B2 = true:=by kernel_rfl
set_option maxHeartbeats 8000000 in
set_option maxRecDepth 100000 in
theorem sacristylaw01_lives.calls (k : Nat)  (r : Bool) (w : World) (h : sacristylaw01_lives.f k  = some r) :
  Calls Try.prog 34 #[] w fun e w' => e = .returned (.bool r) ∧ Below w.heap.size w w':=by
 have hu38:=Try.underlying38
 have HB:=Aside0.mk (Below.refl w.heap.size w)
 have H : ((nat_New.f k 7).bind fun t420 => ((nat_New.f k 2).bind fun t423 => ((nat_Nat_Div.f k t420 t423).bind fun bt426 => (if bt426.2.2 = 0 then ((sacristyref01_Small.f k 3).bind fun t435 => ((sacristylaw01_Same.f k bt426.1 t435).bind fun t438 => (if t438 = true then ((sacristyref01_Small.f k 1).bind fun t439 => ((sacristylaw01_Same.f k bt426.2.1 t439).bind fun t442 => (some t442))) else (some false)))) else (some false))))) = some r:=h
 clear h
 obtain ⟨t420,A1,H⟩:=qH H
 obtain ⟨t423,A2,H⟩:=qH H
 obtain ⟨⟨t426,t429,t432⟩,A3,H⟩:=qH H
 dsimp only at H
 by_cases c4 : t432 = 0
 ·rw [if_pos c4] at H
  have c4b0 : (t432 == 0) = true:=beq_iff_eq.mpr c4
  have c4b1 : (t432 != 0) = false:=bne_eq_false_iff_eq.mpr c4
  clear c4
  obtain ⟨t435,A5,H⟩:=qH H
  obtain ⟨t438,A6,H⟩:=qH H
  by_cases c7 : t438 = true
  ·subst c7
   rw [if_pos rfl] at H
   obtain ⟨t439,A8,H⟩:=qH H
   obtain ⟨t442,A9,H⟩:=qH H
   obtain rfl:=Option.some.inj H
   go_enter Try.func34,Try.ntmps34
   try go_wp2_with (first|((with_reducible refine gate_callee (f:=54) rfl ?_);refine gL (some 5) Try.func54 #[.int .u64 7] ?_;(with_reducible refine (nat_New.calls k 7 t420 _ A1.out).mono ?_);rintro e w10 ⟨v421,rfl,ho0,hb⟩;refine ⟨_,rfl,?_⟩;have HO422:=Aside0.mk (Kd.V_lower (Kd.V_mono (ok':=fun k_ => True) ho0 (fun k_ hk_ => trivial)) (below_size (qS HB)));replace HB:=qs HB hb;clear hb ho0)|((with_reducible refine gate_callee (f:=54) rfl ?_);refine gL (some 6) Try.func54 #[.int .u64 2] ?_;(with_reducible refine (nat_New.calls k 2 t423 _ A2.out).mono ?_);rintro e w11 ⟨v424,rfl,ho0,hb⟩;refine ⟨_,rfl,?_⟩;replace HO422:=qVb HO422 hb;have HO425:=Aside0.mk (Kd.V_lower (Kd.V_mono (ok':=fun k_ => True) ho0 (fun k_ hk_ => trivial)) (below_size (qS HB)));replace HB:=qs HB hb;clear hb ho0;obtain ⟨Ao12,co12,eo12⟩:=Kd.V_slice HO422.out;subst eo12;obtain ⟨Ao13,co13,eo13⟩:=Kd.V_slice HO425.out;subst eo13)|((with_reducible refine gate_callee (f:=53) rfl ?_);refine gL (some 7) Try.func53 #[.agg #[.slice Ao12 t420.length co12],.agg #[.slice Ao13 t423.length co13]] ?_;(with_reducible refine (nat_Nat_Div.calls k (fun k_ => True) _ _ t420 _ _ t423 t426 t429 t432 _ ?side1 ?side2 ?side3 A3.out).mono ?_);(case side1 => first|exact HO422.out|exact qVm HO422);(case side2 => exact qCV HO425);(case side3 => exact qL HO425);rintro e w14 ⟨v427,v430,rfl,ho0,ho1,hb⟩;refine ⟨_,rfl,?_⟩;replace HO422:=qVb HO422 hb;replace HO425:=qVb HO425 hb;have HO428:=Aside0.mk (Kd.V_lower (Kd.V_mono (ok':=fun k_ => True) ho0 (fun k_ hk_ => trivial)) (below_size (qS HB)));have HO431:=Aside0.mk (Kd.V_lower (Kd.V_mono (ok':=fun k_ => True) ho1 (fun k_ hk_ => trivial)) (below_size (qS HB)));replace HB:=qs HB hb;clear hb ho0 ho1)|((with_reducible refine gate_dst (N:=1) rfl ?_);refine qX #[.slice none 0 0] 38 ?_;intro gb433 hg w15 hbox hb;replace HO422:=qVe HO422 hb hg;replace HO425:=qVe HO425 hb hg;replace HO428:=qVe HO428 hb hg;replace HO431:=qVe HO431 hb hg;have BK433:=Aside0.mk hbox;have GE433:=qh hg HB;replace HB:=qs HB hb;clear hb hbox hg)|((with_reducible refine gate_dst (N:=2) rfl ?_);refine qX #[.slice none 0 0] 38 ?_;intro gb434 hg w16 hbox hb;replace HO422:=qVe HO422 hb hg;replace HO425:=qVe HO425 hb hg;replace HO428:=qVe HO428 hb hg;replace HO431:=qVe HO431 hb hg;have BK434:=Aside0.mk hbox;have GE434:=qh hg HB;replace HB:=qs HB hb;have NB433_434:=ql hg BK433;have NB434_433:=qg hg BK433;replace BK433:=qb BK433 hb;clear hb hbox hg;obtain ⟨Ao17,co17,eo17⟩:=Kd.V_slice HO428.out;subst eo17;have hnb18:=NB433_434.out;have hnc18:=NB434_433.out;have hcz19_0:=bc BK433;have hfz19_0:=bz BK433;obtain ⟨Ao20,co20,eo20⟩:=Kd.V_slice HO431.out;subst eo20;have hcz21_0:=bc BK434;have hfz21_0:=bz BK434))
   generalize hw : ((w16.setCell ⟨gb433,0,none⟩ (.slice Ao17 t426.length co17)).setCell ⟨gb434,0,none⟩ (.slice Ao20 t429.length co20)) = w22
   replace hw:=hw.symm
   replace HO422:=qVh hw HO422
   replace HO425:=qVh hw HO425
   replace HO428:=qVh hw HO428
   replace HO431:=qVh hw HO431
   replace BK433:=qBp hw BK433
   replace BK434:=qBp hw BK434
   replace HB:=qSh hw HB
   clear hw
   replace HO422:=qVw HO422
   replace HO425:=qVw HO425
   replace HO428:=qVw HO428
   replace HO431:=qVw HO431
   replace BK433:=qbd BK433
   replace BK434:=qbd BK434
   replace HB:=qsd HB
   refine start_ (n:=13) (S:=fun w' => w'.cell? ⟨gb433,0,none⟩ = some (.slice Ao17 t426.length co17) ∧ w'.cell? ⟨gb434,0,none⟩ = some (.slice Ao20 t429.length co20)) (ds:=[]) #[false,false,false,false,false,false,false,false,false,false,false,false,false] (by kernel_rfl) rfl rfl ⟨bc BK433,bc BK434⟩ (fun hHeld => ?_);refine with_tabW sacristylaw01_lives.tab2 sacristylaw01_lives.bits2 (fun HT_ HW_ => ?_)
   generalize w22.drew = w23 at HO422 HO425 HO428 HO431 BK433 BK434 HB hHeld ⊢
   refine qP 0 11 HT_ ?_
   refine qP 1 12 HT_ ?_
   refine qP 2 13 HT_ ?_
   refine qT 3 14 HT_ HW_ hHeld ?_
   refine q1 4 (some 15) HT_ rfl (fun K hK => ?_)
   refine g_ Try.func56 #[.int .u64 3] ?_
   with_reducible refine (sacristyref01_Small.calls k 3 t435 _ A5.out).mono ?_
   rintro e w24 ⟨v436,rfl,ho0,hb⟩
   refine ⟨_,rfl,?_⟩
   replace HO422:=qVd HO422 ho0 hb
   replace HO425:=qVd HO425 ho0 hb
   replace HO428:=qVd HO428 ho0 hb
   replace HO431:=qVd HO431 ho0 hb
   have HO437:=Aside0.mk (Kd.R_lower ho0 (below_size (qS HB)))
   replace BK433:=qb BK433 hb
   replace BK434:=qb BK434 hb
   replace HB:=qs HB hb
   clear hb ho0
   obtain ⟨Ao25,co25,eo25⟩:=Kd.R_slice HO437.out
   (first|subst eo25|(injection eo25 with f1_ f2_ f3_;have f4_:=f1_.symm;have f5_:=f3_.symm;clear f1_ f2_ f3_;subst f4_;subst f5_))
   refine hK.out _ _ ⟨bc BK433,bc BK434⟩ (fun hHeld => ?_)
   clear hK K
   refine qO 15 ?_
   refine q1 5 (some 16) HT_ rfl (fun K hK => ?_)
   refine g_ Try.func37 #[.agg #[.slice Ao17 t426.length co17],.slice Ao25 t435.length co25] ?_
   with_reducible refine (sacristylaw01_Same.calls k _ _ t426 _ _ t435 true _ ?side1 ?side2 ?side3 ?side4 A6.out).mono ?_
   (case side1 => exact qCV HO428)
   (case side2 => exact qL HO428)
   (case side3 => exact qCR HO437)
   (case side4 => exact qLR HO437)
   rintro e w26 ⟨rfl,hb⟩
   refine ⟨_,rfl,?_⟩
   replace HO422:=qVb HO422 hb
   replace HO425:=qVb HO425 hb
   replace HO428:=qVb HO428 hb
   replace HO431:=qVb HO431 hb
   replace HO437:=qRb HO437 hb
   replace BK433:=qb BK433 hb
   replace BK434:=qb BK434 hb
   replace HB:=qs HB hb
   clear hb
   refine hK.out _ _ ⟨bc BK433,bc BK434⟩ (fun hHeld => ?_)
   clear hK K
   refine qO 16 ?_
   refine qP 6 17 HT_ ?_
   refine qP 7 18 HT_ ?_
   refine qT 8 19 HT_ HW_ hHeld ?_
   refine q1 9 (some 20) HT_ rfl (fun K hK => ?_)
   refine g_ Try.func56 #[.int .u64 1] ?_
   with_reducible refine (sacristyref01_Small.calls k 1 t439 _ A8.out).mono ?_
   rintro e w27 ⟨v440,rfl,ho0,hb⟩
   refine ⟨_,rfl,?_⟩
   replace HO422:=qVd HO422 ho0 hb
   replace HO425:=qVd HO425 ho0 hb
   replace HO428:=qVd HO428 ho0 hb
   replace HO431:=qVd HO431 ho0 hb
   have HO441:=Aside0.mk (Kd.R_lower (Kd.R_new' ho0 (Kd.R_lt (qRm HO437))) (below_size (qS HB)))
   replace HO437:=qRd HO437 ho0 hb
   replace BK433:=qb BK433 hb
   replace BK434:=qb BK434 hb
   replace HB:=qs HB hb
   clear hb ho0
   obtain ⟨Ao28,co28,eo28⟩:=Kd.R_slice HO441.out
   (first|subst eo28|(injection eo28 with f1_ f2_ f3_;have f4_:=f1_.symm;have f5_:=f3_.symm;clear f1_ f2_ f3_;subst f4_;subst f5_))
   refine hK.out _ _ ⟨bc BK433,bc BK434⟩ (fun hHeld => ?_)
   clear hK K
   refine qO 20 ?_
   refine q1 10 (some 21) HT_ rfl (fun K hK => ?_)
   refine g_ Try.func37 #[.agg #[.slice Ao20 t429.length co20],.slice Ao28 t439.length co28] ?_
   with_reducible refine (sacristylaw01_Same.calls k _ _ t429 _ _ t439 t442 _ ?side1 ?side2 ?side3 ?side4 A9.out).mono ?_
   (case side1 => exact qCV HO431)
   (case side2 => exact qL HO431)
   (case side3 => exact qCR HO441)
   (case side4 => exact qLR HO441)
   rintro e w29 ⟨rfl,hb⟩
   refine ⟨_,rfl,?_⟩
   replace HO422:=qVb HO422 hb
   replace HO425:=qVb HO425 hb
   replace HO428:=qVb HO428 hb
   replace HO431:=qVb HO431 hb
   replace HO437:=qRb HO437 hb
   replace HO441:=qRb HO441 hb
   replace BK433:=qb BK433 hb
   replace BK434:=qb BK434 hb
   replace HB:=qs HB hb
   clear hb
   refine hK.out _ _ ⟨bc BK433,bc BK434⟩ (fun hHeld => ?_)
   clear hK K
   refine qO 21 ?_
   refine qP 11 22 HT_ ?_
   refine qP 12 0 HT_ ?_
   refine qD HT_ ?_
   try go_wp2
   (first|go_ret|(refine ⟨_,results_tmp rfl _ _ _,?_⟩))
   exact ⟨by first|rfl|(simp [errW_none,errW_some] <;> rfl)|(simp [*,errW_none,errW_some] <;> rfl),qS HB⟩
  ·replace c7:=Bool.eq_false_iff.mpr c7
   subst c7
   rw [qFT] at H
   obtain rfl:=Option.some.inj H
   go_enter Try.func34,Try.ntmps34
   try go_wp2_with (first|((with_reducible refine gate_callee (f:=54) rfl ?_);refine gL (some 5) Try.func54 #[.int .u64 7] ?_;(with_reducible refine (nat_New.calls k 7 t420 _ A1.out).mono ?_);rintro e w30 ⟨v421,rfl,ho0,hb⟩;refine ⟨_,rfl,?_⟩;have HO422:=Aside0.mk (Kd.V_lower (Kd.V_mono (ok':=fun k_ => True) ho0 (fun k_ hk_ => trivial)) (below_size (qS HB)));replace HB:=qs HB hb;clear hb ho0)|((with_reducible refine gate_callee (f:=54) rfl ?_);refine gL (some 6) Try.func54 #[.int .u64 2] ?_;(with_reducible refine (nat_New.calls k 2 t423 _ A2.out).mono ?_);rintro e w31 ⟨v424,rfl,ho0,hb⟩;refine ⟨_,rfl,?_⟩;replace HO422:=qVb HO422 hb;have HO425:=Aside0.mk (Kd.V_lower (Kd.V_mono (ok':=fun k_ => True) ho0 (fun k_ hk_ => trivial)) (below_size (qS HB)));replace HB:=qs HB hb;clear hb ho0;obtain ⟨Ao32,co32,eo32⟩:=Kd.V_slice HO422.out;subst eo32;obtain ⟨Ao33,co33,eo33⟩:=Kd.V_slice HO425.out;subst eo33)|((with_reducible refine gate_callee (f:=53) rfl ?_);refine gL (some 7) Try.func53 #[.agg #[.slice Ao32 t420.length co32],.agg #[.slice Ao33 t423.length co33]] ?_;(with_reducible refine (nat_Nat_Div.calls k (fun k_ => True) _ _ t420 _ _ t423 t426 t429 t432 _ ?side1 ?side2 ?side3 A3.out).mono ?_);(case side1 => first|exact HO422.out|exact qVm HO422);(case side2 => exact qCV HO425);(case side3 => exact qL HO425);rintro e w34 ⟨v427,v430,rfl,ho0,ho1,hb⟩;refine ⟨_,rfl,?_⟩;replace HO422:=qVb HO422 hb;replace HO425:=qVb HO425 hb;have HO428:=Aside0.mk (Kd.V_lower (Kd.V_mono (ok':=fun k_ => True) ho0 (fun k_ hk_ => trivial)) (below_size (qS HB)));have HO431:=Aside0.mk (Kd.V_lower (Kd.V_mono (ok':=fun k_ => True) ho1 (fun k_ hk_ => trivial)) (below_size (qS HB)));replace HB:=qs HB hb;clear hb ho0 ho1)|((with_reducible refine gate_dst (N:=1) rfl ?_);refine qX #[.slice none 0 0] 38 ?_;intro gb433 hg w35 hbox hb;replace HO422:=qVe HO422 hb hg;replace HO425:=qVe HO425 hb hg;replace HO428:=qVe HO428 hb hg;replace HO431:=qVe HO431 hb hg;have BK433:=Aside0.mk hbox;have GE433:=qh hg HB;replace HB:=qs HB hb;clear hb hbox hg)|((with_reducible refine gate_dst (N:=2) rfl ?_);refine qX #[.slice none 0 0] 38 ?_;intro gb434 hg w36 hbox hb;replace HO422:=qVe HO422 hb hg;replace HO425:=qVe HO425 hb hg;replace HO428:=qVe HO428 hb hg;replace HO431:=qVe HO431 hb hg;have BK434:=Aside0.mk hbox;have GE434:=qh hg HB;replace HB:=qs HB hb;have NB433_434:=ql hg BK433;have NB434_433:=qg hg BK433;replace BK433:=qb BK433 hb;clear hb hbox hg;obtain ⟨Ao37,co37,eo37⟩:=Kd.V_slice HO428.out;subst eo37;have hnb38:=NB433_434.out;have hnc38:=NB434_433.out;have hcz39_0:=bc BK433;have hfz39_0:=bz BK433;obtain ⟨Ao40,co40,eo40⟩:=Kd.V_slice HO431.out;subst eo40;have hcz41_0:=bc BK434;have hfz41_0:=bz BK434))
   generalize hw : ((w36.setCell ⟨gb433,0,none⟩ (.slice Ao37 t426.length co37)).setCell ⟨gb434,0,none⟩ (.slice Ao40 t429.length co40)) = w42
   replace hw:=hw.symm
   replace HO422:=qVh hw HO422
   replace HO425:=qVh hw HO425
   replace HO428:=qVh hw HO428
   replace HO431:=qVh hw HO431
   replace BK433:=qBp hw BK433
   replace BK434:=qBp hw BK434
   replace HB:=qSh hw HB
   clear hw
   replace HO422:=qVw HO422
   replace HO425:=qVw HO425
   replace HO428:=qVw HO428
   replace HO431:=qVw HO431
   replace BK433:=qbd BK433
   replace BK434:=qbd BK434
   replace HB:=qsd HB
   refine start_ (n:=13) (S:=fun w' => w'.cell? ⟨gb433,0,none⟩ = some (.slice Ao37 t426.length co37)) (ds:=[]) #[false,false,false,false,false,false,false,false,false,false,false,false,false] (by kernel_rfl) rfl rfl (bc BK433) (fun hHeld => ?_);refine with_tabW sacristylaw01_lives.tab2 sacristylaw01_lives.bits2 (fun HT_ HW_ => ?_)
   generalize w42.drew = w43 at HO422 HO425 HO428 HO431 BK433 BK434 HB hHeld ⊢
   refine qP 0 11 HT_ ?_
   refine qP 1 12 HT_ ?_
   refine qP 2 13 HT_ ?_
   refine qT 3 14 HT_ HW_ hHeld ?_
   refine q1 4 (some 15) HT_ rfl (fun K hK => ?_)
   refine g_ Try.func56 #[.int .u64 3] ?_
   with_reducible refine (sacristyref01_Small.calls k 3 t435 _ A5.out).mono ?_
   rintro e w44 ⟨v436,rfl,ho0,hb⟩
   refine ⟨_,rfl,?_⟩
   replace HO422:=qVd HO422 ho0 hb
   replace HO425:=qVd HO425 ho0 hb
   replace HO428:=qVd HO428 ho0 hb
   replace HO431:=qVd HO431 ho0 hb
   have HO437:=Aside0.mk (Kd.R_lower ho0 (below_size (qS HB)))
   replace BK433:=qb BK433 hb
   replace BK434:=qb BK434 hb
   replace HB:=qs HB hb
   clear hb ho0
   obtain ⟨Ao45,co45,eo45⟩:=Kd.R_slice HO437.out
   (first|subst eo45|(injection eo45 with f1_ f2_ f3_;have f4_:=f1_.symm;have f5_:=f3_.symm;clear f1_ f2_ f3_;subst f4_;subst f5_))
   refine hK.out _ _ (bc BK433) (fun hHeld => ?_)
   clear hK K
   refine qO 15 ?_
   refine q1 5 (some 16) HT_ rfl (fun K hK => ?_)
   refine g_ Try.func37 #[.agg #[.slice Ao37 t426.length co37],.slice Ao45 t435.length co45] ?_
   with_reducible refine (sacristylaw01_Same.calls k _ _ t426 _ _ t435 false _ ?side1 ?side2 ?side3 ?side4 A6.out).mono ?_
   (case side1 => exact qCV HO428)
   (case side2 => exact qL HO428)
   (case side3 => exact qCR HO437)
   (case side4 => exact qLR HO437)
   rintro e w46 ⟨rfl,hb⟩
   refine ⟨_,rfl,?_⟩
   replace HO422:=qVb HO422 hb
   replace HO425:=qVb HO425 hb
   replace HO428:=qVb HO428 hb
   replace HO431:=qVb HO431 hb
   replace HO437:=qRb HO437 hb
   replace BK433:=qb BK433 hb
   replace BK434:=qb BK434 hb
   replace HB:=qs HB hb
   clear hb
   refine hK.out _ _ (bc BK433) (fun hHeld => ?_)
   clear hK K
   refine qO 16 ?_
   refine qP 6 17 HT_ ?_
   refine qP 7 18 HT_ ?_
   refine qU 8 19 HT_ ?_
   refine qU 9 20 HT_ ?_
   refine qU 10 21 HT_ ?_
   refine qP 11 22 HT_ ?_
   refine qP 12 0 HT_ ?_
   refine qD HT_ ?_
   try go_wp2
   (first|go_ret|(refine ⟨_,results_tmp rfl _ _ _,?_⟩))
   exact ⟨by first|rfl|(simp [errW_none,errW_some] <;> rfl)|(simp [*,errW_none,errW_some] <;> rfl),qS HB⟩
 ·rw [if_neg c4] at H
  have c4b0 : (t432 == 0) = false:=beq_eq_false_iff_ne.mpr c4
  have c4b1 : (t432 != 0) = true:=bne_iff_ne.mpr c4
  obtain rfl:=Option.some.inj H
  go_enter Try.func34,Try.ntmps34
  try go_wp2_with (first|((with_reducible refine gate_callee (f:=54) rfl ?_);refine gL (some 5) Try.func54 #[.int .u64 7] ?_;(with_reducible refine (nat_New.calls k 7 t420 _ A1.out).mono ?_);rintro e w47 ⟨v421,rfl,ho0,hb⟩;refine ⟨_,rfl,?_⟩;have HO422:=Aside0.mk (Kd.V_lower (Kd.V_mono (ok':=fun k_ => True) ho0 (fun k_ hk_ => trivial)) (below_size (qS HB)));replace HB:=qs HB hb;clear hb ho0)|((with_reducible refine gate_callee (f:=54) rfl ?_);refine gL (some 6) Try.func54 #[.int .u64 2] ?_;(with_reducible refine (nat_New.calls k 2 t423 _ A2.out).mono ?_);rintro e w48 ⟨v424,rfl,ho0,hb⟩;refine ⟨_,rfl,?_⟩;replace HO422:=qVb HO422 hb;have HO425:=Aside0.mk (Kd.V_lower (Kd.V_mono (ok':=fun k_ => True) ho0 (fun k_ hk_ => trivial)) (below_size (qS HB)));replace HB:=qs HB hb;clear hb ho0;obtain ⟨Ao49,co49,eo49⟩:=Kd.V_slice HO422.out;subst eo49;obtain ⟨Ao50,co50,eo50⟩:=Kd.V_slice HO425.out;subst eo50)|((with_reducible refine gate_callee (f:=53) rfl ?_);refine gL (some 7) Try.func53 #[.agg #[.slice Ao49 t420.length co49],.agg #[.slice Ao50 t423.length co50]] ?_;(with_reducible refine (nat_Nat_Div.calls k (fun k_ => True) _ _ t420 _ _ t423 t426 t429 t432 _ ?side1 ?side2 ?side3 A3.out).mono ?_);(case side1 => first|exact HO422.out|exact qVm HO422);(case side2 => exact qCV HO425);(case side3 => exact qL HO425);rintro e w51 ⟨v427,v430,rfl,ho0,ho1,hb⟩;refine ⟨_,rfl,?_⟩;replace HO422:=qVb HO422 hb;replace HO425:=qVb HO425 hb;have HO428:=Aside0.mk (Kd.V_lower (Kd.V_mono (ok':=fun k_ => True) ho0 (fun k_ hk_ => trivial)) (below_size (qS HB)));have HO431:=Aside0.mk (Kd.V_lower (Kd.V_mono (ok':=fun k_ => True) ho1 (fun k_ hk_ => trivial)) (below_size (qS HB)));replace HB:=qs HB hb;clear hb ho0 ho1)|((with_reducible refine gate_dst (N:=1) rfl ?_);refine qX #[.slice none 0 0] 38 ?_;intro gb433 hg w52 hbox hb;replace HO422:=qVe HO422 hb hg;replace HO425:=qVe HO425 hb hg;replace HO428:=qVe HO428 hb hg;replace HO431:=qVe HO431 hb hg;have BK433:=Aside0.mk hbox;have GE433:=qh hg HB;replace HB:=qs HB hb;clear hb hbox hg)|((with_reducible refine gate_dst (N:=2) rfl ?_);refine qX #[.slice none 0 0] 38 ?_;intro gb434 hg w53 hbox hb;replace HO422:=qVe HO422 hb hg;replace HO425:=qVe HO425 hb hg;replace HO428:=qVe HO428 hb hg;replace HO431:=qVe HO431 hb hg;have BK434:=Aside0.mk hbox;have GE434:=qh hg HB;replace HB:=qs HB hb;have NB433_434:=ql hg BK433;have NB434_433:=qg hg BK433;replace BK433:=qb BK433 hb;clear hb hbox hg;obtain ⟨Ao54,co54,eo54⟩:=Kd.V_slice HO428.out;subst eo54;have hnb55:=NB433_434.out;have hnc55:=NB434_433.out;have hcz56_0:=bc BK433;have hfz56_0:=bz BK433;obtain ⟨Ao57,co57,eo57⟩:=Kd.V_slice HO431.out;subst eo57;have hcz58_0:=bc BK434;have hfz58_0:=bz BK434))
  generalize hw : ((w53.setCell ⟨gb433,0,none⟩ (.slice Ao54 t426.length co54)).setCell ⟨gb434,0,none⟩ (.slice Ao57 t429.length co57)) = w59
  replace hw:=hw.symm
  replace HO422:=qVh hw HO422
  replace HO425:=qVh hw HO425
  replace HO428:=qVh hw HO428
  replace HO431:=qVh hw HO431
  replace BK433:=qBp hw BK433
  replace BK434:=qBp hw BK434
  replace HB:=qSh hw HB
  clear hw
  replace HO422:=qVw HO422
  replace HO425:=qVw HO425
  replace HO428:=qVw HO428
  replace HO431:=qVw HO431
  replace BK433:=qbd BK433
  replace BK434:=qbd BK434
  replace HB:=qsd HB
  refine start_ (n:=13) (S:=fun w' => True) (ds:=[]) #[false,false,false,false,false,false,false,false,false,false,false,false,false] (by kernel_rfl) rfl rfl trivial (fun hHeld => ?_);refine with_tabW sacristylaw01_lives.tab2 sacristylaw01_lives.bits2 (fun HT_ HW_ => ?_)
  generalize w59.drew = w60 at HO422 HO425 HO428 HO431 BK433 BK434 HB hHeld ⊢
  refine qP 0 11 HT_ ?_
  refine qP 1 12 HT_ ?_
  refine qP 2 13 HT_ ?_
  refine qU 3 14 HT_ ?_
  refine qU 4 15 HT_ ?_
  refine qU 5 16 HT_ ?_
  refine qP 6 17 HT_ ?_
  refine qP 7 18 HT_ ?_
  refine qU 8 19 HT_ ?_
  refine qU 9 20 HT_ ?_
  refine qU 10 21 HT_ ?_
  refine qP 11 22 HT_ ?_
  refine qP 12 0 HT_ ?_
  refine qD HT_ ?_
  try go_wp2
  (first|go_ret|(refine ⟨_,results_tmp rfl _ _ _,?_⟩))
  exact ⟨by first|rfl|(simp [errW_none,errW_some] <;> rfl)|(simp [*,errW_none,errW_some] <;> rfl),qS HB⟩
end Go.Proofs.Yteejcpbngnojkaa.P
end
section
namespace Go.Proofs.Yteejcpbngnojkaa.P
open Go.RowKit Go.Proofs.YteejcpbngnojkaaW.PrintWords Go.Proofs.YteejcpbngnojkaaW.PrintLast Go.Proofs.YteejcpbngnojkaaW.PrintMore
attribute [local go_sem] max2_int min2_int max_two min_two max_three min_three max_four min_four
set_option linter.unusedVariables false
set_option linter.unusedSimpArgs false
def nat_FromBytes.l0 : Nat → List Int → List Int → Int → Int → Option (List Int × Int)
 |0,_,_,_,_ => none
 |k + 1,x0,x4,x17,x18 => if x18 < x17 then (if 0 ≤ (wrap64 ((wrap64 ((x0.length : Int) - 1)) - x18)) then (if (wrap64 ((wrap64 ((x0.length : Int) - 1)) - x18)) < (x0.length : Int) then (if 0 ≤ (wrap64 (Int.tdiv x18 4)) then (if (wrap64 (Int.tdiv x18 4)) < (x4.length : Int) then (if 0 ≤ (wrap64 (8 * (Int.tmod x18 4))) then (nat_FromBytes.l0 k x0 (x4.set ((wrap64 (Int.tdiv x18 4)) : Int).toNat (Go.bits .or .u32 (rd x4 (wrap64 (Int.tdiv x18 4))) (shl .u32 ((rd x0 (wrap64 ((wrap64 ((x0.length : Int) - 1)) - x18))) % 4294967296) (wrap64 (8 * (Int.tmod x18 4)))))) x17 (wrap64 (x18 + 1))) else (none)) else (none)) else (none)) else (none)) else (none)) else ((nat_trim.f k x4).bind fun t450 => (some (t450,0)))
def nat_FromBytes.f (k : Nat) (l0 : List Int) : Option (List Int × Int):=if (l0.length : Int) > 128 then (some (([] : List Int),4)) else (if 0 ≤ (wrap64 (Int.tdiv (wrap64 ((l0.length : Int) + 3)) 4)) then (if (wrap64 (Int.tdiv (wrap64 ((l0.length : Int) + 3)) 4) : Int).toNat ≤ 70368744177664 then (nat_FromBytes.l0 k l0 (List.replicate (wrap64 (Int.tdiv (wrap64 ((l0.length : Int) + 3)) 4) : Int).toNat 0) (l0.length : Int) 0) else (none)) else (none))
theorem nat_FromBytes.mono_l : ∀ k,(∀ y0 y1 y2 y3,LeO (nat_FromBytes.l0 k y0 y1 y2 y3) (nat_FromBytes.l0 (k + 1) y0 y1 y2 y3))
 |0 => fun _ _ _ _ r h => by simp [nat_FromBytes.l0] at h
 |k + 1 => by
  have ih0:=nat_FromBytes.mono_l k
  ·intro y0 y1 y2 y3
   unfold nat_FromBytes.l0
   repeat' first
   |(with_reducible exact ih0 _ _ _ _)
   |(with_reducible exact nat_trim.mono _ _)
   |(with_reducible exact LeO.refl _)
   |(with_reducible exact LeO.none _)
   |(with_reducible refine LeO.ite ?_ ?_)
   |(with_reducible refine LeO.bind ?_ (fun _ => ?_))
   |exact ih0 _ _ _ _
   |exact nat_trim.mono _ _
   |exact LeO.none _
   |refine LeO.ite ?_ ?_
   |refine LeO.bind ?_ (fun _ => ?_)
theorem nat_FromBytes.mono : ∀ a0 k,LeO (nat_FromBytes.f k a0) (nat_FromBytes.f (k + 1) a0):=by
 intro a0 k
 have ih0:=nat_FromBytes.mono_l k
 unfold nat_FromBytes.f
 repeat' first
   |(with_reducible exact ih0 _ _ _ _)
   |(with_reducible exact nat_trim.mono _ _)
   |(with_reducible exact LeO.refl _)
   |(with_reducible exact LeO.none _)
   |(with_reducible refine LeO.ite ?_ ?_)
   |(with_reducible refine LeO.bind ?_ (fun _ => ?_))
   |exact ih0 _ _ _ _
   |exact nat_trim.mono _ _
   |exact LeO.none _
   |refine LeO.ite ?_ ?_
   |refine LeO.bind ?_ (fun _ => ?_)
def nat_FromBytes.T8 : Bool × List (List Nat × List Nat):=(true,[([],[]),([],[]),([1],[1]),([0,2],[0,2]),([3],[3]),([],[]),([5],[5]),([],[]),([7],[7]),([8],[8]),([6,9],[6,9]),([4,10],[4,10]),([0,2,0,1,2,3,4,5,6,7,8,9,10,11],[0,2]),([12,11,0,1,2,3,4,5,6,7,8,9,10,11],[11,12])])
def nat_FromBytes.B8 : List Nat:=[0,0,2,7,15,0,32,0,128,384,992,2047,4095,8191]
theorem nat_FromBytes.tab8 : rtab .any (opsOf Try.f35 8) = nat_FromBytes.T8:=by kernel_rfl
theorem nat_FromBytes.bits8 : waitsOk nat_FromBytes.T8.2 nat_FromBytes.B8 = true:=by kernel_rfl
set_option maxHeartbeats 8000000 in
set_option maxRecDepth 100000 in
theorem nat_FromBytes.calls (k : Nat) (A0 : Option Addr) (c0 : Nat) (l0 : List Int) (r1 : List Int) (r2 : Int) (w : World) (hr0 : Kd.C (Kd.int .u8) w A0 l0.length l0) (hc0 : l0.length ≤ c0) (h : nat_FromBytes.f k l0 = some (r1,r2)) :
  Calls Try.prog 35 #[.slice A0 l0.length c0] w fun e w' => ∃ v0_ : Value,e = .returned (.tuple #[.agg #[v0_],.int .i64 r2]) ∧ Kd.V (Kd.int .u32) 23 w' w.heap.size (fun k_ => (w.heap.size ≤ k_)) v0_ r1 ∧ Below w.heap.size w w':=by
 have hu38:=Try.underlying38
 have HR0:=Aside0.mk hr0
 have HC0:=Aside0.mk hc0
 clear hr0 hc0
 have HB:=Aside0.mk (Below.refl w.heap.size w)
 have H : (if (l0.length : Int) > 128 then (some (([] : List Int),4)) else (if 0 ≤ (wrap64 (Int.tdiv (wrap64 ((l0.length : Int) + 3)) 4)) then (if (wrap64 (Int.tdiv (wrap64 ((l0.length : Int) + 3)) 4) : Int).toNat ≤ 70368744177664 then (nat_FromBytes.l0 k l0 (List.replicate (wrap64 (Int.tdiv (wrap64 ((l0.length : Int) + 3)) 4) : Int).toNat 0) (l0.length : Int) 0) else (none)) else (none))) = some (r1,r2):=h
 clear h
 by_cases c2 : (l0.length : Int) > 128
 ·rw [if_pos c2] at H
  have c2b0 : decide (128 < (l0.length : Int)) = true:=decide_eq_true c2
  have c2b1 : decide (128 < l0.length) = true:=decide_eq_true (by omega)
  clear c2
  simp only [Option.some.injEq,Prod.mk.injEq] at H
  obtain ⟨rfl,rfl⟩:=H
  go_enter Try.func35,Try.ntmps35
  go_wp2_with (first|((with_reducible refine gate_dst (N:=2) rfl ?_);refine qX #[.slice none 0 0] 38 ?_;intro gb443 hg w3 hbox hb;have BK443:=Aside0.mk hbox;have GE443:=qh hg HB;replace HB:=qs HB hb;clear hb hbox hg;have hcz4_0:=bc BK443;have hfz4_0:=bz BK443))
  refine bodyPost_ret (results_ct rfl _ _ gb443 38 #[.slice none 0 0] (0,0) _ rfl (by (with_reducible repeat (first|refine blk_drewN ?_ _|refine blk_drew ?_|refine blk_alloc ?_ _));refine blk_put (cs:=#[.slice none 0 0]) ?_ 0 _ rfl;(with_reducible repeat (first|refine blk_drewN ?_ _|refine blk_drew ?_|refine blk_alloc ?_ _));exact BK443.out) Try.underlying38 rfl (by kernel_rfl)) rfl ?_
  exact ⟨_,by first|rfl|(simp [errW_none,errW_some] <;> rfl)|(simp [*,errW_none,errW_some] <;> rfl),Kd.V_nil _ _ _ _ _,qS HB⟩
 ·rw [if_neg c2] at H
  have c2b0 : decide (128 < (l0.length : Int)) = false:=decide_eq_false c2
  have c2b1 : decide (128 < l0.length) = false:=decide_eq_false (by omega)
  clear c2
  obtain ⟨ji5,hji5⟩ : ∃ j_ : Int,(wrap64 (Int.tdiv (wrap64 ((l0.length : Int) + 3)) 4)) = j_:=⟨_,rfl⟩
  (first|rw [hji5] at H|simp only [hji5] at H)
  have hji5w : (IntKind.i64.wrap (Int.tdiv (wrap64 ((l0.length : Int) + 3)) 4)) = ji5:=(i64_w _).trans hji5
  by_cases c6 : 0 ≤ (ji5)
  ·rw [if_pos c6] at H
   have c6b0:=eq_true c6
   have c6b1 : decide (0 ≤ (ji5)) = true:=decide_eq_true c6
   clear c6
   by_cases c7 : (ji5 : Int).toNat ≤ 70368744177664
   ·rw [if_pos c7] at H
    have c7b0:=eq_true c7
    have c7b1 : decide ((ji5 : Int).toNat ≤ 70368744177664) = true:=decide_eq_true c7
    clear c7
    obtain ⟨y444,hy444⟩ : ∃ y_ : List Int,y_ = (List.replicate (ji5 : Int).toNat 0):=⟨_,rfl⟩
    replace H : (nat_FromBytes.l0 k l0 y444 (l0.length : Int) 0) = some (r1,r2):=by first|(rw [hy444];with_reducible exact H)|(have H2_:=(Option.bind_some _ _).symm.trans H;rw [hy444];with_reducible exact H2_)|(have H2_:=(Option.bind_some _ _).symm.trans H;with_reducible exact H2_)|with_reducible exact H|(rw [hy444];exact H)|exact H
    have Ny444:=Aside0.mk hy444
    clear hy444
    have H':=Aside0.mk H
    clear H
    go_enter Try.func35,Try.ntmps35
    go_wp2_with (first|((with_reducible refine gate_dst (N:=2) rfl ?_);refine qX #[.slice none 0 0] 38 ?_;intro gb443 hg w8 hbox hb;have BK443:=Aside0.mk hbox;have GE443:=qh hg HB;replace HB:=qs HB hb;clear hb hbox hg)|((with_reducible refine gate_dst (N:=15) rfl ?_);refine Kd.R_make (Kd.int .u32) _ 23 rfl (N:=15) rfl 36 _ _ rfl ji5 rfl rfl Try.underlying36 (.int .u32 0) 4 info23 rfl (by decide) (by omega) 0 (ok:=fun _ => True) (okp:=fun _ => True) rfl (fun _ hk => hk) trivial (od) (Nat.le_trans (Nat.mul_le_mul_right _ (od : ji5.toNat ≤ 70368744177664)) (by omega)) (Below.refl _ _) (Nat.le_refl _) ?_;intro v445 w9 ho10 hb hg_ hnew_;clear hg_ hnew_;(first|rw [← Ny444.out] at ho10|(simp only [Int.reduceToNat] at ho10;rw [← Ny444.out] at ho10));have HO446:=Aside0.mk (Kd.R_lower (Kd.R_newM (M:=fun k_ => (w.heap.size ≤ k_)) ho10 (below_size (qS HB)) (fun k_ h_ => h_)) (below_size (qS HB)));replace BK443:=qb BK443 hb;replace HB:=qs HB hb;clear hb ho10))
    go_loopg [18] k (fun kq v18 w' => ∃ (x4_1 : List Int) (x18_1 : Int),v18 = .int .i64 x18_1 ∧ Aside0 (nat_FromBytes.l0 kq l0 x4_1 (l0.length : Int) x18_1 = some (r1,r2)) ∧ Aside0 (kq ≤ k) ∧ Aside0 (Kd.R (Kd.int .u32) 23 w' w.heap.size (fun k_ => (w.heap.size ≤ k_)) v445 x4_1) ∧ Aside0 (w'.heap[gb443]? = some (.cells #[(.slice none 0 0)] 38 (0,0))) ∧ Aside0 (Below w.heap.size w w'))
    case atStart => exact ⟨(y444),(0),(by first|rfl|(simp;done)|(simp [*];done)),H',⟨Nat.le_refl _⟩,⟨qRm HO446⟩,⟨qB BK443.out⟩,⟨qS HB⟩⟩
    case round =>
     clear H'
     try clear c2
     try clear c2b0
     try clear c2b1
     try clear p2
     try clear c3
     try clear c6
     try clear c6b0
     try clear c6b1
     try clear p6
     try clear c7
     try clear c7b0
     try clear c7b1
     try clear hcz4_0
     try clear hfz4_0
     obtain ⟨x4_1,x18_1,rfl,HA,HK1,HO_4,BK443,HB⟩:=hrel
     cases gk with
     |zero => exact absurd HA.out (by simp [nat_FromBytes.l0])
     |succ k1 =>
      have H:=HA.out
      clear HA
      simp only [nat_FromBytes.l0] at H
      by_cases c11 : x18_1 < (l0.length : Int)
      ·rw [if_pos c11] at H
       have c11b0 : decide (x18_1 < (l0.length : Int)) = true:=decide_eq_true c11
       clear c11
       obtain ⟨ji12,hji12⟩ : ∃ j_ : Int,(wrap64 ((wrap64 ((l0.length : Int) - 1)) - x18_1)) = j_:=⟨_,rfl⟩
       (first|rw [hji12] at H|simp only [hji12] at H)
       have hji12w : (IntKind.i64.wrap ((wrap64 ((l0.length : Int) - 1)) - x18_1)) = ji12:=(i64_w _).trans hji12
       by_cases c13 : 0 ≤ (ji12)
       ·rw [if_pos c13] at H
        have c13b0 : decide (0 ≤ (ji12)) = true:=decide_eq_true c13
        clear c13
        by_cases c14 : (ji12) < (l0.length : Int)
        ·rw [if_pos c14] at H
         have c14b0 : decide ((ji12) < (l0.length : Int)) = true:=decide_eq_true c14
         clear c14
         obtain ⟨ji15,hji15⟩ : ∃ j_ : Int,(wrap64 (Int.tdiv x18_1 4)) = j_:=⟨_,rfl⟩
         (first|rw [hji15] at H|simp only [hji15] at H)
         have hji15w : (IntKind.i64.wrap (Int.tdiv x18_1 4)) = ji15:=(i64_w _).trans hji15
         by_cases c16 : 0 ≤ (ji15)
         ·rw [if_pos c16] at H
          have c16b0 : decide (0 ≤ (ji15)) = true:=decide_eq_true c16
          clear c16
          by_cases c17 : (ji15) < (x4_1.length : Int)
          ·rw [if_pos c17] at H
           have c17b0 : decide ((ji15) < (x4_1.length : Int)) = true:=decide_eq_true c17
           clear c17
           obtain ⟨ji18,hji18⟩ : ∃ j_ : Int,(wrap64 (8 * (Int.tmod x18_1 4))) = j_:=⟨_,rfl⟩
           (first|rw [hji18] at H|simp only [hji18] at H)
           have hji18w : (IntKind.i64.wrap (8 * (Int.tmod x18_1 4))) = ji18:=(i64_w _).trans hji18
           by_cases c19 : 0 ≤ (ji18)
           ·rw [if_pos c19] at H
            have c19b0:=eq_true c19
            have c19b1 : decide (0 ≤ (ji18)) = true:=decide_eq_true c19
            clear c19
            obtain ⟨ji20,hji20⟩ : ∃ j_ : Int,(shl .u32 ((rd l0 (ji12)) % 4294967296) (ji18)) = j_:=⟨_,rfl⟩
            (first|rw [hji20] at H|simp only [hji20] at H)
            have hji20_ : (IntKind.u32.wrap (((rd l0 (ji12)) % 4294967296) * 2 ^ min (ji18).toNat 32)) = ji20:=hji20
            have hji20m : ((rd l0 (ji12)) % 4294967296) * 2 ^ min (ji18).toNat 32 % 4294967296 = ji20:=hji20_
            have hji20z : (ji18) ≤ 32 → (IntKind.u32.wrap (((rd l0 (ji12)) % 4294967296) * 2 ^ (ji18).toNat)) = ji20:=shl_small hji20
            obtain ⟨y449,hy449⟩ : ∃ y_ : List Int,y_ = (x4_1.set ((ji15) : Int).toNat (Go.bits .or .u32 (rd x4_1 (ji15)) (ji20))):=⟨_,rfl⟩
            replace H : (nat_FromBytes.l0 k1 l0 y449 (l0.length : Int) (wrap64 (x18_1 + 1))) = some (r1,r2):=by first|(rw [hy449];with_reducible exact H)|(have H2_:=(Option.bind_some _ _).symm.trans H;rw [hy449];with_reducible exact H2_)|(have H2_:=(Option.bind_some _ _).symm.trans H;with_reducible exact H2_)|with_reducible exact H|(rw [hy449];exact H)|exact H
            have Ny449:=Aside0.mk hy449
            clear hy449
            have H':=Aside0.mk H
            clear H
            have p447 : 0 ≤ ((ji12) : Int):=od
            have q447 : (ji12) < (l0.length : Int):=od
            obtain ⟨ad447,e447,hx447_0⟩:=Kd.at_int HR0.out (ji12) p447 q447
            cases e447
            replace hx447_0:=(HB.out.cell (World.block_lt_of_cell? w _ hx447_0)).trans hx447_0
            replace p447:=eq_true p447
            replace q447:=eq_true q447
            try go_wp2
            replace HO_4:=qRw HO_4
            replace BK443:=qbd BK443
            replace HB:=qsd HB
            obtain ⟨Ao23,co23,eo23⟩:=Kd.R_slice HO_4.out
            (first|subst eo23|(injection eo23 with f1_ f2_ f3_;have f4_:=f1_.symm;have f5_:=f3_.symm;clear f1_ f2_ f3_;subst f4_;subst f5_))
            have p448 : 0 ≤ ((ji15) : Int):=od
            have q448 : (ji15) < (x4_1.length : Int):=od
            obtain ⟨ad448,e448,hx448_0⟩:=Kd.at_int (Kd.R_reads' HO_4.out).2.2 (ji15) p448 q448
            cases e448
            replace p448:=eq_true p448
            replace q448:=eq_true q448
            have p21 : 0 ≤ ((ji15) : Int):=od
            have q21 : ((ji15) : Int) < ((x4_1.length : Int) : Int):=od
            obtain ⟨go21,co21,eo21,gb21,gl21,cl21,HG21⟩:=Kd.R_form HO_4.out (by omega)
            (first|cases eo21|(injection eo21 with ea_ en_ ec_;(first|subst ea_|(injection ea_ with ea_;subst ea_));subst ec_;clear en_))
            have GB21:=Aside0.mk gb21
            have GG21:=Aside0.mk HG21
            clear gb21 gl21 HG21
            (first|simp only [add_plain] at hx448_0|skip)
            obtain ⟨hx21_0,hf21_0⟩:=Kd.R_celln 0 HO_4.out ((ji15) : Int) p21 q21
            replace p21:=eq_true p21
            replace q21:=eq_true q21
            have HP24:=Kd.R_putn HO_4.out ((ji15) : Int) (Go.bits .or .u32 (rd x4_1 (ji15)) (ji20))
            rw [← Ny449.out] at HP24
            have HQ24:=Aside0.mk HP24
            clear HP24
            refine start_ (n:=14) (S:=fun w' => w'.cell? ⟨go21,((ji15)).toNat,none⟩ = some (.int .u32 (rd x4_1 (ji15)))) (ds:=[13]) #[false,false,false,false,false,false,false,false,false,false,false,false,false,false] (by kernel_rfl) rfl rfl (hx448_0) (fun hHeld => ?_);refine with_tabW nat_FromBytes.tab8 nat_FromBytes.bits8 (fun HT_ HW_ => ?_)
            generalize wr.drew = w22 at HO_4 BK443 HB GG21 HQ24 hf21_0 hx21_0 hx448_0 hHeld ⊢
            refine qP 0 29 HT_ ?_
            refine qP 1 30 HT_ ?_
            refine qP 2 31 HT_ ?_
            refine qP 3 32 HT_ ?_
            refine qP 5 34 HT_ ?_
            refine qP 6 35 HT_ ?_
            refine qP 7 36 HT_ ?_
            refine qP 8 37 HT_ ?_
            refine qP 9 38 HT_ ?_
            refine qP 10 39 HT_ ?_
            refine qT 4 33 HT_ HW_ hHeld ?_
            refine qP 11 40 HT_ ?_
            refine qP 12 41 HT_ ?_
            refine last_ (i:=13) (N:=none) #[true,true,true,true,true,true,true,true,true,true,true,true,true,true] rfl rfl (one_of HT_.out (by kernel_rfl)) (by decide) (fun K hK => ?_)
            refine skip_ (w1:=?_) (by rfl) rfl ?_ ?_
            rotate_left
            ·go_simp
             rfl
            refine hK.out _ _ ?_
            clear hK K
            refine qD HT_ ?_
            try go_wp2
            go_roundg k1
            case measure => have:=HK1.out;omega
            case rel => exact ⟨(y449),(wrap64 (x18_1 + 1)),(by first|rfl|(simp;done)|(simp [*];done)),H',⟨by have:=HK1.out;omega⟩,⟨by (with_reducible repeat (first|apply Kd.R_alloc|apply Kd.R_drewN|apply Kd.R_drew));(first|exact HQ24.out|(rw [hji20m];exact HQ24.out))⟩,⟨by (with_reducible repeat (first|refine blk_drewN ?_ _|refine blk_drew ?_|refine blk_alloc ?_ _));refine blk_far ?_ (by have h_:=Kd.R_ne HO_4.out BK443.out (by decide);intro e_;exact h_ (by rw [e_];rfl)) _;(with_reducible repeat (first|refine blk_drewN ?_ _|refine blk_drew ?_|refine blk_alloc ?_ _));exact BK443.out⟩,⟨qS HB⟩⟩
           ·rw [if_neg c19] at H
            exact absurd H (by simp)
          ·rw [if_neg c17] at H
           exact absurd H (by simp)
         ·rw [if_neg c16] at H
          exact absurd H (by simp)
        ·rw [if_neg c14] at H
         exact absurd H (by simp)
       ·rw [if_neg c13] at H
        exact absurd H (by simp)
      ·rw [if_neg c11] at H
       have c11b0 : decide (x18_1 < (l0.length : Int)) = false:=decide_eq_false c11
       clear c11
       obtain ⟨t450,A25,H⟩:=qH H
       simp only [Option.some.injEq,Prod.mk.injEq] at H
       obtain ⟨rfl,rfl⟩:=H
       obtain ⟨Ao26,co26,eo26⟩:=Kd.R_slice HO_4.out
       subst eo26
       go_wp2_with (first|((with_reducible refine gate_callee (f:=100) rfl ?_);refine gL (some 44) Try.func100 #[.slice Ao26 x4_1.length co26] ?_;(with_reducible refine (nat_trim.calls k1 (fun k_ => some k_ = (.slice Ao26 x4_1.length co26 : Value).ownBlock) _ _ x4_1 t450 _ ?side1 A25.out).mono ?_);(case side1 => exact Kd.R_V (Kd.R_tight rfl (Kd.R_types (HO_4.out) BK443.out (by decide))));rintro e w27 ⟨v451,rfl,ho0,hb⟩;refine ⟨_,rfl,?_⟩;have HO452:=Aside0.mk (Kd.V_lower (Kd.V_mono (ok':=fun k_ => (w.heap.size ≤ k_) ∧ k_ ≠ gb443) ho0 (fun k_ hk_ => ⟨Or.elim hk_ (fun hs_ => ((Kd.R_types (HO_4.out) BK443.out (by decide)).1 k_ hs_.symm).1) (fun hn_ => (Nat.le_trans (below_size (qS HB)) hn_)),Or.elim hk_ (fun hs_ => ((Kd.R_types (HO_4.out) BK443.out (by decide)).1 k_ hs_.symm).2) (fun hn_ => (Kd.freshB (qB BK443.out) k_ hn_))⟩)) (below_size (qS HB)));replace HO_4:=qRb HO_4 hb;replace BK443:=qb BK443 hb;replace HB:=qs HB hb;clear hb ho0;obtain ⟨Ao28,co28,eo28⟩:=Kd.V_slice HO452.out;subst eo28;have hcz29_0:=bc BK443;have hfz29_0:=bz BK443))
       refine bodyPost_ret (results_ct rfl _ _ gb443 38 #[.slice Ao28 t450.length co28] (0,0) _ rfl (by (with_reducible repeat (first|refine blk_drewN ?_ _|refine blk_drew ?_|refine blk_alloc ?_ _));refine blk_put (cs:=#[.slice none 0 0]) ?_ 0 _ rfl;(with_reducible repeat (first|refine blk_drewN ?_ _|refine blk_drew ?_|refine blk_alloc ?_ _));exact BK443.out) Try.underlying38 rfl (by kernel_rfl)) rfl ?_
       exact ⟨_,by first|rfl|(simp [errW_none,errW_some] <;> rfl)|(simp only [← hji5];first|rfl|(simp [errW_none,errW_some] <;> rfl))|(simp [*,errW_none,errW_some] <;> rfl),qVm HO452,qS HB⟩
   ·rw [if_neg c7] at H
    exact absurd H (by simp)
  ·rw [if_neg c6] at H
   exact absurd H (by simp)
end Go.Proofs.Yteejcpbngnojkaa.P
end
section
namespace Go.Proofs.Yteejcpbngnojkaa.P
open Go.RowKit Go.Proofs.YteejcpbngnojkaaW.PrintWords Go.Proofs.YteejcpbngnojkaaW.PrintLast Go.Proofs.YteejcpbngnojkaaW.PrintMore
attribute [local go_sem] max2_int min2_int max_two min_two max_three min_three max_four min_four
set_option linter.unusedVariables false
set_option linter.unusedSimpArgs false
def sacristylaw01_Num.f (k : Nat) (l0 : List Int) : Option (List Int):=if 0 ≤ (mn (l0.length : Int) 48) then (if (mn (l0.length : Int) 48) ≤ (l0.length : Int) then ((nat_FromBytes.f k (l0.take ((mn (l0.length : Int) 48) : Int).toNat)).bind fun bt506 => (some bt506.1)) else (none)) else (none)
theorem sacristylaw01_Num.mono : ∀ a0 k,LeO (sacristylaw01_Num.f k a0) (sacristylaw01_Num.f (k + 1) a0):=by
 intro a0 k
 unfold sacristylaw01_Num.f
 repeat' first
   |(with_reducible exact nat_FromBytes.mono _ _)
   |(with_reducible exact LeO.refl _)
   |(with_reducible exact LeO.none _)
   |(with_reducible refine LeO.ite ?_ ?_)
   |(with_reducible refine LeO.bind ?_ (fun _ => ?_))
   |exact nat_FromBytes.mono _ _
   |exact LeO.none _
   |refine LeO.ite ?_ ?_
   |refine LeO.bind ?_ (fun _ => ?_)
set_option maxHeartbeats 8000000 in
set_option maxRecDepth 100000 in
theorem sacristylaw01_Num.calls (k : Nat) (A0 : Option Addr) (c0 : Nat) (l0 : List Int) (r : List Int) (w : World) (hr0 : Kd.C (Kd.int .u8) w A0 l0.length l0) (hc0 : l0.length ≤ c0) (h : sacristylaw01_Num.f k l0 = some r) :
  Calls Try.prog 40 #[.slice A0 l0.length c0] w fun e w' => ∃ v0_ : Value,e = .returned (.agg #[v0_]) ∧ Kd.V (Kd.int .u32) 23 w' w.heap.size (fun k_ => (w.heap.size ≤ k_)) v0_ r ∧ Below w.heap.size w w':=by
 have hu38:=Try.underlying38
 have HR0:=Aside0.mk hr0
 have HC0:=Aside0.mk hc0
 clear hr0 hc0
 have HB:=Aside0.mk (Below.refl w.heap.size w)
 have H : (if 0 ≤ (mn (l0.length : Int) 48) then (if (mn (l0.length : Int) 48) ≤ (l0.length : Int) then ((nat_FromBytes.f k (l0.take ((mn (l0.length : Int) 48) : Int).toNat)).bind fun bt506 => (some bt506.1)) else (none)) else (none)) = some r:=h
 clear h
 obtain ⟨ji2,hji2⟩ : ∃ j_ : Int,(mn (l0.length : Int) 48) = j_:=⟨_,rfl⟩
 (first|rw [hji2] at H|simp only [hji2] at H)
 (try (have hji2h : ji2 ≤ 48:=by (rw [← hji2];unfold mn;(repeat' split) <;> omega)))
 (try (have hji2g : ji2 ≤ 64:=by omega))
 (try (have hji2l : 0 ≤ ji2:=by (rw [← hji2];unfold mn;(repeat' split) <;> omega)))
 (try (have hji2m : 0 ≤ ji2:=by omega))
 have hji2_ : (if 48 < (l0.length : Int) then 48 else (l0.length : Int)) = ji2:=hji2
 by_cases c3 : 0 ≤ (ji2)
 ·rw [if_pos c3] at H
  have c3b0:=eq_true c3
  have c3b1 : decide (0 ≤ (ji2)) = true:=decide_eq_true c3
  clear c3
  by_cases c4 : (ji2) ≤ (l0.length : Int)
  ·rw [if_pos c4] at H
   have c4b0:=eq_true c4
   have c4b1 : decide ((ji2) ≤ (l0.length : Int)) = true:=decide_eq_true c4
   clear c4
   obtain ⟨⟨t506,t509⟩,A5,H⟩:=qH H
   dsimp only at H
   obtain rfl:=Option.some.inj H
   go_enter Try.func40,Try.ntmps40
   go_wp2_with (first|((with_reducible refine gate_dst (N:=2) rfl ?_);refine qX #[.slice none 0 0] 38 ?_;intro gb504 hg w6 hbox hb;have BK504:=Aside0.mk hbox;have GE504:=qh hg HB;replace HB:=qs HB hb;clear hb hbox hg;obtain ⟨i07,hi07,_,hsz7,_⟩:=info_parts info5;obtain ⟨hcut7,hA7,hC7⟩:=print_take_of (P:=Try.prog) (Value.int .u8) 0 22 5 .i64 Try.underlying22 hi07 hsz7 A0 c0 l0 (ji2) (od) (od) HC0.out;have HR505:=Aside0.mk (Kd.C_of_reads (h1:=fun _ => rfl) (hA7 _ (Kd.reads_of_C HR0.out)));have HC505:=Aside0.mk hC7;clear hA7 hC7 hi07 hsz7)|((with_reducible refine gate_callee (f:=35) rfl ?_);refine goesL_ (some 11) rfl rfl Try.func35 (by kernel_rfl) rfl #[.slice A0 (l0.take ((ji2) : Int).toNat).length c0] rfl (by (try simp only [List.map_toArray,List.map_cons,List.map_nil]);first|done|(rw [show (l0.take ((ji2) : Int).toNat).length = (ji2).toNat from (by rw [List.length_take];have h_ : ((ji2) : Int) ≤ (l0.length : Int):=od;omega)] <;> rfl)|(simp only [hji2];rfl)|rfl|(simp only [List.length_drop,List.length_take];rfl)) ?_;(with_reducible refine (nat_FromBytes.calls k _ _ (l0.take ((ji2) : Int).toNat) t506 t509 _ ?side1 ?side2 A5.out).mono ?_);(case side1 => exact qCB HR505 HB);(case side2 => exact HC505.out);rintro e w8 ⟨v507,rfl,ho0,hb⟩;refine ⟨_,rfl,?_⟩;have HO508:=Aside0.mk (Kd.V_lower (Kd.V_mono (ok':=fun k_ => (w.heap.size ≤ k_) ∧ k_ ≠ gb504) ho0 (fun k_ hk_ => ⟨(Nat.le_trans (below_size (qS HB)) hk_),(Kd.freshB (qB BK504.out) k_ hk_)⟩)) (below_size (qS HB)));replace BK504:=qb BK504 hb;replace HB:=qs HB hb;clear hb ho0)|((with_reducible refine gate_dst (N:=3) rfl ?_);refine qX #[.slice none 0 0] 38 ?_;intro gb510 hg w9 hbox hb;replace HO508:=qVe HO508 hb hg;have BK510:=Aside0.mk hbox;have GE510:=qh hg HB;replace HB:=qs HB hb;have NB504_510:=ql hg BK504;have NB510_504:=qg hg BK504;replace BK504:=qb BK504 hb;clear hb hbox hg;obtain ⟨Ao10,co10,eo10⟩:=Kd.V_slice HO508.out;subst eo10;have hnb11:=NB510_504.out;have hnc11:=NB504_510.out;have hcz12_0:=bc BK510;have hfz12_0:=bz BK510;have hcz13_0:=bc BK504;have hfz13_0:=bz BK504))
   refine bodyPost_ret (results_cell_row rfl _ _ gb504 38 #[.slice Ao10 t506.length co10] (0,0) _ rfl (by (with_reducible repeat (first|refine blk_drewN ?_ _|refine blk_drew ?_|refine blk_alloc ?_ _));refine blk_put (cs:=#[.slice none 0 0]) ?_ 0 _ rfl;(with_reducible repeat (first|refine blk_drewN ?_ _|refine blk_drew ?_|refine blk_alloc ?_ _));refine blk_far ?_ NB504_510.out _;(with_reducible repeat (first|refine blk_drewN ?_ _|refine blk_drew ?_|refine blk_alloc ?_ _));exact BK504.out) Try.underlying38 rfl (by kernel_rfl)) rfl ?_
   exact ⟨_,by first|rfl|(simp [errW_none,errW_some] <;> rfl)|(simp only [← hji2];first|rfl|(simp [errW_none,errW_some] <;> rfl))|(simp [*,errW_none,errW_some] <;> rfl),qVm HO508,qS HB⟩
  ·rw [if_neg c4] at H
   exact absurd H (by simp)
 ·rw [if_neg c3] at H
  exact absurd H (by simp)
end Go.Proofs.Yteejcpbngnojkaa.P
end
section
namespace Go.Proofs.Yteejcpbngnojkaa.P
open Go.RowKit Go.Proofs.YteejcpbngnojkaaW.PrintWords Go.Proofs.YteejcpbngnojkaaW.PrintLast Go.Proofs.YteejcpbngnojkaaW.PrintMore
attribute [local go_sem] max2_int min2_int max_two min_two max_three min_three max_four min_four
set_option linter.unusedVariables false
set_option linter.unusedSimpArgs false
section
variable {ops : Array Oper} {rest : List Oper} {o : Oper} {a : Act} {Q : Exit → Act → World → Prop}
theorem make_op {P : Program} {W w1 : World} {v : Value} {x y : Operand} {t : TypeId} {m c : Value} (ho : o.op = .makeSlice t x y) (hx : a.eval x = m) (hy : a.eval y = c) (hr : (Instr.makeSlice t m c).run P W = .ok v w1) : (execOp a.eval o).run P W = .ok (.value v) w1 := by
  simp [execOp, ho, hx, hy, hr]
theorem make0 {W : World} (base : Nat) (hgd : o.guard = none) (x y : Operand) (ho : o.op = .makeSlice 36 x y) (c : Nat) (hx : a.eval x = .int .i64 0) (hy : a.eval y = .int .i64 (c : Int)) (hc : c ≤ 70368744177664) (hbase : base ≤ W.heap.size) {ok : Nat → Prop} (hok : ok W.heap.size)
    (h : ∀ g w1, Kd.R (Kd.int .u32) 23 w1 base ok (.slice (some ⟨g, 0, none⟩) 0 c) [] → Below W.heap.size W w1 → wpList Try.prog ops Q rest (a.put o.dst (.slice (some ⟨g, 0, none⟩) 0 c)) w1) : wpList Try.prog ops Q (o :: rest) a W := by
  have hr := make32 W 0 c (Nat.zero_le _) hc
  refine Kd.event_run hgd ?_ (h W.heap.size (W.alloc (.cells (nums .u32 (List.replicate c 0)).toArray 23)) ?_ (below_alloc (Below.refl _ _) _))
  · exact make_op ho hx hy hr
  · exact Kd.R_of_own ⟨by simp [encs], .inr ⟨W.heap.size, c, (nums .u32 (List.replicate c 0)).toArray, rfl, hbase, blk_new W _, Nat.zero_le _, by simp only [maxLen]; omega, by simp [nums], by simp [encs]⟩⟩ (fun k hk => by cases hk; exact hok)
end
def nat_Nat_Add.l0 : Nat → List Int → Int → List Int → Int → Int → List Int → Option (List Int)
  | 0, _, _, _, _, _, _ => none
  | k + 1, x5, x6, x24, x25, x26, x296000 => if x26 < x25 then (if 0 ≤ x26 then (if x26 < (x24.length : Int) then (if x26 < (x296000.length : Int) then (if x5.length < 35184372088832 then (nat_Nat_Add.l0 k (x5 ++ [(IntKind.u64.wrap ((IntKind.u64.wrap (x6 + (IntKind.u64.wrap (rd x24 x26)))) + (IntKind.u64.wrap (rd x296000 x26)))) % 4294967296]) ((IntKind.u64.wrap ((IntKind.u64.wrap (x6 + (IntKind.u64.wrap (rd x24 x26)))) + (IntKind.u64.wrap (rd x296000 x26)))) / 4294967296) x24 x25 (wrap64 (x26 + 1)) x296000) else (none)) else (if x5.length < 35184372088832 then (nat_Nat_Add.l0 k (x5 ++ [(IntKind.u64.wrap (x6 + (IntKind.u64.wrap (rd x24 x26)))) % 4294967296]) ((IntKind.u64.wrap (x6 + (IntKind.u64.wrap (rd x24 x26)))) / 4294967296) x24 x25 (wrap64 (x26 + 1)) x296000) else (none))) else (none)) else (none)) else (if x5.length < 35184372088832 then ((nat_trim.f k (x5 ++ [(x6) % 4294967296])).bind fun t311 => (some t311)) else (none))
set_option maxHeartbeats 8000000 in
set_option maxRecDepth 100000 in
theorem nat_Nat_Add.calls_s (sw : Bool) (k : Nat) (A0_0 : Option Addr) (c0_0 : Nat) (l0_0 : List Int) (A1_0 : Option Addr) (c1_0 : Nat) (l1_0 : List Int) (r : List Int) (w : World) (hr0_0 : Kd.C (Kd.int .u32) w A0_0 l0_0.length l0_0) (hc0_0 : l0_0.length ≤ c0_0) (hr1_0 : Kd.C (Kd.int .u32) w A1_0 l1_0.length l1_0) (hc1_0 : l1_0.length ≤ c1_0)
    (hb_ : l0_0.length < 1000) (hle_ : l1_0.length ≤ l0_0.length) (hs_ : sw = true → l1_0.length < l0_0.length) (h : nat_Nat_Add.l0 k [] 0 l0_0 (l0_0.length : Int) 0 l1_0 = some r) :
    Calls Try.prog 60 (bif sw then #[.agg #[.slice A1_0 l1_0.length c1_0], .agg #[.slice A0_0 l0_0.length c0_0]] else #[.agg #[.slice A0_0 l0_0.length c0_0], .agg #[.slice A1_0 l1_0.length c1_0]]) w fun e w' => ∃ v0_ : Value, e = .returned (.agg #[v0_]) ∧ Kd.V (Kd.int .u32) 23 w' w.heap.size (fun k_ => (w.heap.size ≤ k_)) v0_ r ∧ Below w.heap.size w w' := by
  have hu38 := Try.underlying38
  have HR0_0 := Aside0.mk hr0_0
  have HC0_0 := Aside0.mk hc0_0
  clear hr0_0 hc0_0
  have HR1_0 := Aside0.mk hr1_0
  have HC1_0 := Aside0.mk hc1_0
  clear hr1_0 hc1_0
  have HB := Aside0.mk (Below.refl w.heap.size w)
  have H' := Aside0.mk h
  clear h
  cases sw
  case' false =>
    clear hs_
    have t1_ : decide (l0_0.length < l1_0.length) = false := decide_eq_false (by omega)
    have t2_ : decide ((l0_0.length : Int) < (l1_0.length : Int)) = false := decide_eq_false (by omega)
    show Calls Try.prog 60 #[.agg #[.slice A0_0 l0_0.length c0_0], .agg #[.slice A1_0 l1_0.length c1_0]] w _
    go_enter Try.func60, Try.ntmps60
    go_wp2_with (first | ((with_reducible refine gate_dst (N := 2) rfl ?_); refine qX #[.slice A0_0 l0_0.length c0_0] 38 ?_; intro gb294 hg w4 hbox hb; have BK294 := Aside0.mk hbox; have GE294 := qh hg HB; replace HB := qs HB hb; clear hb hbox hg) | ((with_reducible refine gate_dst (N := 3) rfl ?_); refine qX #[.slice A1_0 l1_0.length c1_0] 38 ?_; intro gb295 hg w5 hbox hb; have BK295 := Aside0.mk hbox; have GE295 := qh hg HB; replace HB := qs HB hb; have NB294_295 := ql hg BK294; have NB295_294 := qg hg BK294; replace BK294 := qb BK294 hb; clear hb hbox hg) | ((with_reducible refine gate_dst (N := 4) rfl ?_); refine qX #[.slice none 0 0] 38 ?_; intro gb296 hg w6 hbox hb; have BK296 := Aside0.mk hbox; have GE296 := qh hg HB; replace HB := qs HB hb; have NB294_296 := ql hg BK294; have NB296_294 := qg hg BK294; replace BK294 := qb BK294 hb; have NB295_296 := ql hg BK295; have NB296_295 := qg hg BK295; replace BK295 := qb BK295 hb; clear hb hbox hg; have hnb7 := NB294_295.out; have hnc7 := NB295_294.out; have hnb8 := NB294_296.out; have hnc8 := NB296_294.out; have hcz9_0 := bc BK294; have hfz9_0 := bz BK294; have hnb10 := NB295_296.out; have hnc10 := NB296_295.out; have hcz11_0 := bc BK295; have hfz11_0 := bz BK295) | ((with_reducible refine gate_dst (N := 22) rfl ?_); refine make0 w.heap.size rfl _ _ rfl (l0_0.length + 1) rfl (by first | rfl | (simp; done)) (by omega) (below_size (qS HB)) (ok := fun k_ => w.heap.size ≤ k_) (below_size (qS HB)) ?_; intro g298 w12 ho13 hb; have HO299 := Aside0.mk ho13; replace BK294 := qb BK294 hb; replace BK295 := qb BK295 hb; replace BK296 := qb BK296 hb; replace HB := qs HB hb; clear hb ho13; have hcz14_0 := bc BK294; have hfz14_0 := bz BK294))
  case' true =>
    have t0_ : l1_0.length < l0_0.length := hs_ rfl
    clear hs_
    have t1_ : decide (l1_0.length < l0_0.length) = true := decide_eq_true t0_
    have t2_ : decide ((l1_0.length : Int) < (l0_0.length : Int)) = true := decide_eq_true (by omega)
    clear t0_
    show Calls Try.prog 60 #[.agg #[.slice A1_0 l1_0.length c1_0], .agg #[.slice A0_0 l0_0.length c0_0]] w _
    go_enter Try.func60, Try.ntmps60
    go_wp2_with (first | ((with_reducible refine gate_dst (N := 2) rfl ?_); refine qX #[.slice A1_0 l1_0.length c1_0] 38 ?_; intro gb294 hg w4 hbox hb; have BK294 := Aside0.mk hbox; have GE294 := qh hg HB; replace HB := qs HB hb; clear hb hbox hg) | ((with_reducible refine gate_dst (N := 3) rfl ?_); refine qX #[.slice A0_0 l0_0.length c0_0] 38 ?_; intro gb295 hg w5 hbox hb; have BK295 := Aside0.mk hbox; have GE295 := qh hg HB; replace HB := qs HB hb; have NB294_295 := ql hg BK294; have NB295_294 := qg hg BK294; replace BK294 := qb BK294 hb; clear hb hbox hg) | ((with_reducible refine gate_dst (N := 4) rfl ?_); refine qX #[.slice none 0 0] 38 ?_; intro gb296 hg w6 hbox hb; have BK296 := Aside0.mk hbox; have GE296 := qh hg HB; replace HB := qs HB hb; have NB294_296 := ql hg BK294; have NB296_294 := qg hg BK294; replace BK294 := qb BK294 hb; have NB295_296 := ql hg BK295; have NB296_295 := qg hg BK295; replace BK295 := qb BK295 hb; clear hb hbox hg; have hnb7 := NB294_295.out; have hnc7 := NB295_294.out; have hnb8 := NB294_296.out; have hnc8 := NB296_294.out; have hcz9_0 := bc BK294; have hfz9_0 := bz BK294; have hnb10 := NB295_296.out; have hnc10 := NB296_295.out; have hcz11_0 := bc BK295; have hfz11_0 := bz BK295) | ((with_reducible refine gate_store (t := 38) (p := 2) rfl ?_); refine qSt (w6.setCell ⟨gb294, 0, none⟩ (.slice A0_0 l0_0.length c0_0)) ?_; intro w7 hw; replace BK294 := qBp hw BK294; replace BK295 := qBh hw BK295; replace BK296 := qBh hw BK296; replace HB := qSh hw HB; clear hw; have hcz12_0 := bc BK295; have hfz12_0 := bz BK295; have hcz13_0 := bc BK294; have hfz13_0 := bz BK294) | ((with_reducible refine gate_store (t := 38) (p := 3) rfl ?_); refine qSt (w7.setCell ⟨gb295, 0, none⟩ (.slice A1_0 l1_0.length c1_0)) ?_; intro w8 hw; replace BK294 := qBh hw BK294; replace BK295 := qBp hw BK295; replace BK296 := qBh hw BK296; replace HB := qSh hw HB; clear hw; have hcz16_0 := bc BK294; have hfz16_0 := bz BK294) | ((with_reducible refine gate_dst (N := 22) rfl ?_); refine make0 w.heap.size rfl _ _ rfl (l0_0.length + 1) rfl (by first | rfl | (simp; done)) (by omega) (below_size (qS HB)) (ok := fun k_ => w.heap.size ≤ k_) (below_size (qS HB)) ?_; intro g298 w12 ho13 hb; have HO299 := Aside0.mk ho13; replace BK294 := qb BK294 hb; replace BK295 := qb BK295 hb; replace BK296 := qb BK296 hb; replace HB := qs HB hb; clear hb ho13; have hcz14_0 := bc BK294; have hfz14_0 := bz BK294))
  all_goals
    go_loopg [5, 6, 26] k (fun kq v5 v6 v26 w' => ∃ (x5_1 : List Int) (x6_1 : Int) (x26_1 : Int), v6 = .int .u64 x6_1 ∧ v26 = .int .i64 x26_1 ∧ Aside0 (nat_Nat_Add.l0 kq x5_1 x6_1 l0_0 (l0_0.length : Int) x26_1 l1_0 = some r) ∧ Aside0 (kq ≤ k) ∧ Aside0 (Kd.R (Kd.int .u32) 23 w' w.heap.size (fun k_ => (w.heap.size ≤ k_)) v5 x5_1) ∧ Aside0 (w'.heap[gb294]? = some (.cells #[(.slice A0_0 l0_0.length c0_0)] 38 (0, 0))) ∧ Aside0 (w'.heap[gb295]? = some (.cells #[(.slice A1_0 l1_0.length c1_0)] 38 (0, 0))) ∧ Aside0 (w'.heap[gb296]? = some (.cells #[(.slice none 0 0)] 38 (0, 0))) ∧ Aside0 (Below w.heap.size w w'))
    case atStart => exact ⟨([] : List Int), (0), (0), (by first | rfl | (simp; done) | (simp [*]; done)), (by first | rfl | (simp; done) | (simp [*]; done)), H', ⟨Nat.le_refl _⟩, ⟨qRm HO299⟩, ⟨qB BK294.out⟩, ⟨qB BK295.out⟩, ⟨qB BK296.out⟩, ⟨qS HB⟩⟩
    case round =>
      clear H'
      try clear c1
      try clear p2
      try clear c3
      try clear c3b0
      try clear c3b1
      try clear c6
      try clear c7
      try clear c8
      try clear c10
      try clear hcz11_0
      try clear hcz14_0
      try clear hcz9_0
      try clear hfz11_0
      try clear hfz14_0
      try clear hfz9_0
      obtain ⟨x5_1, x6_1, x26_1, rfl, rfl, HA, HK1, HO_5, BK294, BK295, BK296, HB⟩ := hrel
      cases gk with
      | zero => exact absurd HA.out (by simp [nat_Nat_Add.l0])
      | succ k1 =>
        have H := HA.out
        clear HA
        simp only [nat_Nat_Add.l0] at H
        by_cases c15 : x26_1 < (l0_0.length : Int)
        · rw [if_pos c15] at H
          have c15b0 : decide (x26_1 < (l0_0.length : Int)) = true := decide_eq_true c15
          clear c15
          by_cases c16 : 0 ≤ x26_1
          · rw [if_pos c16] at H
            have c16b0 : decide (0 ≤ x26_1) = true := decide_eq_true c16
            clear c16
            by_cases c17 : x26_1 < (l0_0.length : Int)
            · rw [if_pos c17] at H
              have c17b0 : decide (x26_1 < (l0_0.length : Int)) = true := decide_eq_true c17
              clear c17
              by_cases c18 : x26_1 < (l1_0.length : Int)
              · rw [if_pos c18] at H
                have c18b0 : decide (x26_1 < (l1_0.length : Int)) = true := decide_eq_true c18
                clear c18
                by_cases c19 : x5_1.length < 35184372088832
                · rw [if_pos c19] at H
                  have LMc19 := Aside0.mk c19
                  clear c19
                  obtain ⟨y302, hy302⟩ : ∃ y_ : List Int, y_ = (x5_1 ++ [(IntKind.u64.wrap ((IntKind.u64.wrap (x6_1 + (IntKind.u64.wrap (rd l0_0 x26_1)))) + (IntKind.u64.wrap (rd l1_0 x26_1)))) % 4294967296]) := ⟨_, rfl⟩
                  replace H : (nat_Nat_Add.l0 k1 y302 ((IntKind.u64.wrap ((IntKind.u64.wrap (x6_1 + (IntKind.u64.wrap (rd l0_0 x26_1)))) + (IntKind.u64.wrap (rd l1_0 x26_1)))) / 4294967296) l0_0 (l0_0.length : Int) (wrap64 (x26_1 + 1)) l1_0) = some r := by first | (rw [hy302]; with_reducible exact H) | (have H2_ := (Option.bind_some _ _).symm.trans H; rw [hy302]; with_reducible exact H2_) | (have H2_ := (Option.bind_some _ _).symm.trans H; with_reducible exact H2_) | with_reducible exact H | (rw [hy302]; exact H) | exact H
                  have Ny302 := Aside0.mk hy302
                  clear hy302
                  have H' := Aside0.mk H
                  clear H
                  have p300 : 0 ≤ (x26_1 : Int) := od
                  have q300 : x26_1 < (l0_0.length : Int) := od
                  obtain ⟨ad300, e300, hx300_0⟩ := Kd.at_int HR0_0.out x26_1 p300 q300
                  cases e300
                  replace hx300_0 := (HB.out.cell (World.block_lt_of_cell? w _ hx300_0)).trans hx300_0
                  replace p300 := eq_true p300
                  replace q300 := eq_true q300
                  have hnb20 := NB295_294.out
                  have hnc20 := NB294_295.out
                  have hnb21 := NB295_296.out
                  have hnc21 := NB296_295.out
                  have hcz22_0 : wr.cell? ⟨gb295, 0, none⟩ = some (.slice A1_0 l1_0.length c1_0) := bc BK295
                  have hfz22_0 := bz BK295
                  have p301 : 0 ≤ (x26_1 : Int) := od
                  have q301 : x26_1 < (l1_0.length : Int) := od
                  obtain ⟨ad301, e301, hx301_0⟩ := Kd.at_int HR1_0.out x26_1 p301 q301
                  cases e301
                  replace hx301_0 := (HB.out.cell (World.block_lt_of_cell? w _ hx301_0)).trans hx301_0
                  replace p301 := eq_true p301
                  replace q301 := eq_true q301
                  go_wp2_with (first | ((with_reducible refine gate_builtin (b := .append) (xs := #[.tmp 48, .tmp 51]) rfl ?_); at_builtin; refine Kd.R_append (Kd.int .u32) (w0 := w) w.heap.size rfl (.tmp 48) (.tmp 51) 36 23 (.int .u32 0) 4 rfl Try.underlying36 info23 rfl (by decide) (by omega) u5 x5_1 ((IntKind.u64.wrap ((IntKind.u64.wrap (x6_1 + (IntKind.u64.wrap (rd l0_0 x26_1)))) + (IntKind.u64.wrap (rd l1_0 x26_1)))) % 4294967296) [.int .u32 ((IntKind.u64.wrap ((IntKind.u64.wrap (x6_1 + (IntKind.u64.wrap (rd l0_0 x26_1)))) + (IntKind.u64.wrap (rd l1_0 x26_1)))) % 4294967296)] (fun k_ => (w.heap.size ≤ k_)) (fun _ => False) rfl rfl ?aP (fun _ hk => hk.elim) ?aF ?aO ?aB ?aS ?aL ?_; (case aP => exact rfl); (case aB => exact (qS HB)); (case aF => exact (fun k_ hk => (Nat.le_trans (below_size (qS HB)) hk))); (case aO => exact (qRm HO_5)); (case aS => exact (below_size (qS HB))); (case aL => have := LMc19.out; omega); intro v303 w23 ho hb hg hat; rw [← Ny302.out] at ho; replace BK294 := Aside0.mk (blk_grown (g := gb294) (o := .cells #[.slice (some ad300) l0_0.length c0_0] 38 (0, 0)) (qB BK294.out) hg (Kd.R_ne HO_5.out BK294.out (by decide))); replace BK295 := Aside0.mk (blk_grown (g := gb295) (o := .cells #[.slice (some ad301) l1_0.length c1_0] 38 (0, 0)) (qB BK295.out) hg (Kd.R_ne HO_5.out BK295.out (by decide))); replace BK296 := Aside0.mk (blk_grown (g := gb296) (o := .cells #[.slice none 0 0] 38 (0, 0)) (qB BK296.out) hg (Kd.R_ne HO_5.out BK296.out (by decide))); replace HB := Aside0.mk (hb); have HO304 := Aside0.mk (ho); (try clear HO_5); clear ho hb hg hat))
                  go_roundg k1
                  case measure => have := HK1.out; omega
                  case rel => exact ⟨(y302), ((IntKind.u64.wrap ((IntKind.u64.wrap (x6_1 + (IntKind.u64.wrap (rd l0_0 x26_1)))) + (IntKind.u64.wrap (rd l1_0 x26_1)))) / 4294967296), (wrap64 (x26_1 + 1)), (by first | rfl | (simp; done) | (simp [*]; done)), (by first | rfl | (simp; done) | (simp [*]; done)), H', ⟨by have := HK1.out; omega⟩, ⟨qRm HO304⟩, ⟨qB BK294.out⟩, ⟨qB BK295.out⟩, ⟨qB BK296.out⟩, ⟨qS HB⟩⟩
                · rw [if_neg c19] at H
                  exact absurd H (by simp)
              · rw [if_neg c18] at H
                have c18b0 : decide (x26_1 < (l1_0.length : Int)) = false := decide_eq_false c18
                clear c18
                by_cases c24 : x5_1.length < 35184372088832
                · rw [if_pos c24] at H
                  have LMc24 := Aside0.mk c24
                  clear c24
                  obtain ⟨y305, hy305⟩ : ∃ y_ : List Int, y_ = (x5_1 ++ [(IntKind.u64.wrap (x6_1 + (IntKind.u64.wrap (rd l0_0 x26_1)))) % 4294967296]) := ⟨_, rfl⟩
                  replace H : (nat_Nat_Add.l0 k1 y305 ((IntKind.u64.wrap (x6_1 + (IntKind.u64.wrap (rd l0_0 x26_1)))) / 4294967296) l0_0 (l0_0.length : Int) (wrap64 (x26_1 + 1)) l1_0) = some r := by first | (rw [hy305]; with_reducible exact H) | (have H2_ := (Option.bind_some _ _).symm.trans H; rw [hy305]; with_reducible exact H2_) | (have H2_ := (Option.bind_some _ _).symm.trans H; with_reducible exact H2_) | with_reducible exact H | (rw [hy305]; exact H) | exact H
                  have Ny305 := Aside0.mk hy305
                  clear hy305
                  have H' := Aside0.mk H
                  clear H
                  have p300 : 0 ≤ (x26_1 : Int) := od
                  have q300 : x26_1 < (l0_0.length : Int) := od
                  obtain ⟨ad300, e300, hx300_0⟩ := Kd.at_int HR0_0.out x26_1 p300 q300
                  cases e300
                  replace hx300_0 := (HB.out.cell (World.block_lt_of_cell? w _ hx300_0)).trans hx300_0
                  replace p300 := eq_true p300
                  replace q300 := eq_true q300
                  have hnb25 := NB295_294.out
                  have hnc25 := NB294_295.out
                  have hnb26 := NB295_296.out
                  have hnc26 := NB296_295.out
                  have hcz27_0 : wr.cell? ⟨gb295, 0, none⟩ = some (.slice A1_0 l1_0.length c1_0) := bc BK295
                  have hfz27_0 := bz BK295
                  go_wp2_with (first | ((with_reducible refine gate_builtin (b := .append) (xs := #[.tmp 48, .tmp 51]) rfl ?_); at_builtin; refine Kd.R_append (Kd.int .u32) (w0 := w) w.heap.size rfl (.tmp 48) (.tmp 51) 36 23 (.int .u32 0) 4 rfl Try.underlying36 info23 rfl (by decide) (by omega) u5 x5_1 ((IntKind.u64.wrap (x6_1 + (IntKind.u64.wrap (rd l0_0 x26_1)))) % 4294967296) [.int .u32 ((IntKind.u64.wrap (x6_1 + (IntKind.u64.wrap (rd l0_0 x26_1)))) % 4294967296)] (fun k_ => (w.heap.size ≤ k_)) (fun _ => False) rfl rfl ?aP (fun _ hk => hk.elim) ?aF ?aO ?aB ?aS ?aL ?_; (case aP => exact rfl); (case aB => exact (qS HB)); (case aF => exact (fun k_ hk => (Nat.le_trans (below_size (qS HB)) hk))); (case aO => exact (qRm HO_5)); (case aS => exact (below_size (qS HB))); (case aL => have := LMc24.out; omega); intro v306 w28 ho hb hg hat; rw [← Ny305.out] at ho; replace BK294 := Aside0.mk (blk_grown (g := gb294) (o := .cells #[.slice (some ad300) l0_0.length c0_0] 38 (0, 0)) (qB BK294.out) hg (Kd.R_ne HO_5.out BK294.out (by decide))); replace BK295 := Aside0.mk (blk_grown (g := gb295) (o := .cells #[.slice A1_0 l1_0.length c1_0] 38 (0, 0)) (qB BK295.out) hg (Kd.R_ne HO_5.out BK295.out (by decide))); replace BK296 := Aside0.mk (blk_grown (g := gb296) (o := .cells #[.slice none 0 0] 38 (0, 0)) (qB BK296.out) hg (Kd.R_ne HO_5.out BK296.out (by decide))); replace HB := Aside0.mk (hb); have HO307 := Aside0.mk (ho); (try clear HO_5); clear ho hb hg hat))
                  go_roundg k1
                  case measure => have := HK1.out; omega
                  case rel => exact ⟨(y305), ((IntKind.u64.wrap (x6_1 + (IntKind.u64.wrap (rd l0_0 x26_1)))) / 4294967296), (wrap64 (x26_1 + 1)), (by first | rfl | (simp; done) | (simp [*]; done)), (by first | rfl | (simp; done) | (simp [*]; done)), H', ⟨by have := HK1.out; omega⟩, ⟨qRm HO307⟩, ⟨qB BK294.out⟩, ⟨qB BK295.out⟩, ⟨qB BK296.out⟩, ⟨qS HB⟩⟩
                · rw [if_neg c24] at H
                  exact absurd H (by simp)
            · rw [if_neg c17] at H
              exact absurd H (by simp)
          · rw [if_neg c16] at H
            exact absurd H (by simp)
        · rw [if_neg c15] at H
          have c15b0 : decide (x26_1 < (l0_0.length : Int)) = false := decide_eq_false c15
          clear c15
          by_cases c29 : x5_1.length < 35184372088832
          · rw [if_pos c29] at H
            have LMc29 := Aside0.mk c29
            clear c29
            obtain ⟨y308, hy308⟩ : ∃ y_ : List Int, y_ = (x5_1 ++ [(x6_1) % 4294967296]) := ⟨_, rfl⟩
            replace H : ((nat_trim.f k1 y308).bind fun t311 => (some t311)) = some r := by first | (rw [hy308]; with_reducible exact H) | (have H2_ := (Option.bind_some _ _).symm.trans H; rw [hy308]; with_reducible exact H2_) | (have H2_ := (Option.bind_some _ _).symm.trans H; with_reducible exact H2_) | with_reducible exact H | (rw [hy308]; exact H) | exact H
            have Ny308 := Aside0.mk hy308
            clear hy308
            obtain ⟨t311, A30, H⟩ := qH H
            obtain rfl := Option.some.inj H
            go_wp2_with (first | ((with_reducible refine gate_builtin (b := .append) (xs := #[.tmp 56, .tmp 59]) rfl ?_); at_builtin; refine Kd.R_append (Kd.int .u32) (w0 := w) w.heap.size rfl (.tmp 56) (.tmp 59) 36 23 (.int .u32 0) 4 rfl Try.underlying36 info23 rfl (by decide) (by omega) u5 x5_1 ((x6_1) % 4294967296) [.int .u32 ((x6_1) % 4294967296)] (fun k_ => (w.heap.size ≤ k_)) (fun _ => False) rfl rfl ?aP (fun _ hk => hk.elim) ?aF ?aO ?aB ?aS ?aL ?_; (case aP => exact rfl); (case aB => exact (qS HB)); (case aF => exact (fun k_ hk => (Nat.le_trans (below_size (qS HB)) hk))); (case aO => exact (qRm HO_5)); (case aS => exact (below_size (qS HB))); (case aL => have := LMc29.out; omega); intro v309 w31 ho hb hg hat; rw [← Ny308.out] at ho; replace BK294 := Aside0.mk (blk_grown (g := gb294) (o := .cells #[.slice A0_0 l0_0.length c0_0] 38 (0, 0)) (qB BK294.out) hg (Kd.R_ne HO_5.out BK294.out (by decide))); replace BK295 := Aside0.mk (blk_grown (g := gb295) (o := .cells #[.slice A1_0 l1_0.length c1_0] 38 (0, 0)) (qB BK295.out) hg (Kd.R_ne HO_5.out BK295.out (by decide))); replace BK296 := Aside0.mk (blk_grown (g := gb296) (o := .cells #[.slice none 0 0] 38 (0, 0)) (qB BK296.out) hg (Kd.R_ne HO_5.out BK296.out (by decide))); replace HB := Aside0.mk (hb); have HO310 := Aside0.mk (ho); (try clear HO_5); clear ho hb hg hat; obtain ⟨Ao32, co32, eo32⟩ := Kd.R_slice HO310.out; subst eo32) | ((with_reducible refine gate_callee (f := 100) rfl ?_); refine gL (some 61) Try.func100 #[.slice Ao32 y308.length co32] ?_; (with_reducible refine (nat_trim.calls k1 (fun k_ => some k_ = (.slice Ao32 y308.length co32 : Value).ownBlock) _ _ y308 t311 _ ?side1 A30.out).mono ?_); (case side1 => exact Kd.R_V (Kd.R_tight rfl (Kd.R_types (Kd.R_types (Kd.R_types (HO310.out) BK294.out (by decide)) BK295.out (by decide)) BK296.out (by decide)))); rintro e w33 ⟨v312, rfl, ho0, hb⟩; refine ⟨_, rfl, ?_⟩; have HO313 := Aside0.mk (Kd.V_lower (Kd.V_mono (ok' := fun k_ => (w.heap.size ≤ k_) ∧ k_ ≠ gb294 ∧ k_ ≠ gb295 ∧ k_ ≠ gb296) ho0 (fun k_ hk_ => ⟨Or.elim hk_ (fun hs_ => ((Kd.R_types (Kd.R_types (Kd.R_types (HO310.out) BK294.out (by decide)) BK295.out (by decide)) BK296.out (by decide)).1 k_ hs_.symm).1.1.1) (fun hn_ => (Nat.le_trans (below_size (qS HB)) hn_)), Or.elim hk_ (fun hs_ => ((Kd.R_types (Kd.R_types (Kd.R_types (HO310.out) BK294.out (by decide)) BK295.out (by decide)) BK296.out (by decide)).1 k_ hs_.symm).1.1.2) (fun hn_ => (Kd.freshB (qB BK294.out) k_ hn_)), Or.elim hk_ (fun hs_ => ((Kd.R_types (Kd.R_types (Kd.R_types (HO310.out) BK294.out (by decide)) BK295.out (by decide)) BK296.out (by decide)).1 k_ hs_.symm).1.2) (fun hn_ => (Kd.freshB (qB BK295.out) k_ hn_)), Or.elim hk_ (fun hs_ => ((Kd.R_types (Kd.R_types (Kd.R_types (HO310.out) BK294.out (by decide)) BK295.out (by decide)) BK296.out (by decide)).1 k_ hs_.symm).2) (fun hn_ => (Kd.freshB (qB BK296.out) k_ hn_))⟩)) (below_size (qS HB))); replace HO310 := qRb HO310 hb; replace BK294 := qb BK294 hb; replace BK295 := qb BK295 hb; replace BK296 := qb BK296 hb; replace HB := qs HB hb; clear hb ho0; obtain ⟨Ao34, co34, eo34⟩ := Kd.V_slice HO313.out; subst eo34; have hnb35 := NB296_294.out; have hnc35 := NB294_296.out; have hnb36 := NB296_295.out; have hnc36 := NB295_296.out; have hcz37_0 := bc BK296; have hfz37_0 := bz BK296))
            refine bodyPost_ret (results_cell_row rfl _ _ gb296 38 #[.slice Ao34 t311.length co34] (0, 0) _ rfl (by (with_reducible repeat (first | refine blk_drewN ?_ _ | refine blk_drew ?_ | refine blk_alloc ?_ _)); refine blk_put (cs := #[.slice none 0 0]) ?_ 0 _ rfl; (with_reducible repeat (first | refine blk_drewN ?_ _ | refine blk_drew ?_ | refine blk_alloc ?_ _)); exact BK296.out) Try.underlying38 rfl (by kernel_rfl)) rfl ?_
            exact ⟨_, by first | rfl | (simp [errW_none, errW_some] <;> rfl) | (simp [*, errW_none, errW_some] <;> rfl), qVm HO313, qS HB⟩
          · rw [if_neg c29] at H
            exact absurd H (by simp)
end Go.Proofs.Yteejcpbngnojkaa.P
end
section
namespace Go.Proofs.Yteejcpbngnojkaa.P
open Go.RowKit Go.Proofs.YteejcpbngnojkaaW.PrintWords Go.Proofs.YteejcpbngnojkaaW.PrintLast Go.Proofs.YteejcpbngnojkaaW.PrintMore
open Go.Proofs.Yteejcpbngnojkaa.Num
set_option linter.unusedVariables false
theorem valW_snocA (l : List Int) (j : Nat) : valW (l.take (j + 1)) = valW (l.take j) + pw j * (gw l j).toNat := by
  by_cases h : j < l.length
  · exact valW_snoc h
  · rw [List.take_of_length_le (by omega), List.take_of_length_le (by omega), gw_out (by omega)]; simp
theorem add_eq {A B O P x y c s : Nat} (h : O + P * c = A + B) (he : s = c + x + y) : O + P * (s % 4294967296) + P * 4294967296 * (s / 4294967296) = A + P * x + (B + P * y) := by
  have h1 := Nat.mod_add_div s 4294967296
  have h2 : P * (s % 4294967296) + P * 4294967296 * (s / 4294967296) = P * s := by rw [Nat.mul_assoc, ← Nat.mul_add, h1]
  have h3 : P * s = P * c + P * x + P * y := by rw [he, Nat.mul_add, Nat.mul_add]
  omega
theorem add_w (x y c : Nat) (hx : x < 4294967296) (hy : y < 4294967296) (hc : c ≤ 1) : IntKind.u64.wrap (x : Int) = (x : Int) ∧ IntKind.u64.wrap (y : Int) = (y : Int) ∧ IntKind.u64.wrap ((c : Int) + (x : Int)) = ((c + x : Nat) : Int) ∧ IntKind.u64.wrap (((c + x : Nat) : Int) + (y : Int)) = ((c + x + y : Nat) : Int) := by
  refine ⟨wu64 (by omega) (by omega), wu64 (by omega) (by omega), ?_, ?_⟩
  · rw [← Int.natCast_add]; exact wu64 (by omega) (by omega)
  · rw [← Int.natCast_add]; exact wu64 (by omega) (by omega)
theorem add_round (l m out : List Int) (i c x y : Nat) (hx : gw l i = (x : Int)) (hy : gw m i = (y : Int)) (hx4 : x < 4294967296) (hy4 : y < 4294967296) (hc : c ≤ 1) (hi : i < l.length) (hll : l.length < 1000) (hol : out.length = i) (k : Nat) :
    nat_Nat_Add.l0 (k + 1) out (c : Int) l (l.length : Int) (i : Int) m = nat_Nat_Add.l0 k (out ++ [(((c + x + y) % 4294967296 : Nat) : Int)]) (((c + x + y) / 4294967296 : Nat) : Int) l (l.length : Int) ((i + 1 : Nat) : Int) m := by
  have c1 : (i : Int) < (l.length : Int) := by omega
  have c2 : (0 : Int) ≤ (i : Int) := by omega
  have c3 : out.length < 35184372088832 := by omega
  have hyo : ¬ (i : Int) < (m.length : Int) → y = 0 := fun h => by
    rw [gw_out (by omega)] at hy; omega
  have hw : wrap64 ((i : Int) + 1) = ((i + 1 : Nat) : Int) := by rw [w64 (by omega) (by omega)]; omega
  obtain ⟨e1, e2, e3, e4⟩ := add_w x y c hx4 hy4 hc
  have m1 : ((c + x + y : Nat) : Int) % 4294967296 = (((c + x + y) % 4294967296 : Nat) : Int) := rfl
  have m2 : ((c + x + y : Nat) : Int) / 4294967296 = (((c + x + y) / 4294967296 : Nat) : Int) := rfl
  simp only [nat_Nat_Add.l0]
  rw [if_pos c1, if_pos c2, if_pos c1, rd_gw, rd_gw, hx, hy, e1, e2, e3, e4, hw]
  by_cases hm : (i : Int) < (m.length : Int)
  · rw [if_pos hm, if_pos c3, m1, m2]
  · rw [if_neg hm]
    have h0 := hyo hm
    subst h0
    have ez : c + x + 0 = c + x := Nat.add_zero _
    rw [ez] at m1 m2 ⊢
    rw [if_pos c3, m1, m2]
theorem add_loop (l m : List Int) (hl : Sized l) (hm : Sized m) (hll : l.length < 1000) (hmm : m.length ≤ l.length) (d : Nat) : ∀ (i c : Nat) (out : List Int), i + d = l.length → out.length = i → Sized out → c ≤ 1 →
    valW out + pw i * c = valW (l.take i) + valW (m.take i) → Ev (fun k => nat_Nat_Add.l0 k out (c : Int) l (l.length : Int) (i : Int) m) (toW (valW l + valW m)) := by
  induction d with
  | zero =>
    intro i c out hi hol hos hc he
    obtain rfl : i = l.length := by omega
    have hs : Sized (out ++ [(c : Int)]) := fun z hz => by
      rcases List.mem_append.1 hz with h | h
      · exact hos z h
      · rw [List.mem_singleton.1 h]; omega
    have ht := trim_ev (out ++ [(c : Int)]) hs (by rw [List.length_append, List.length_singleton]; omega)
    rw [List.take_length, List.take_of_length_le (l := m) hmm] at he
    have hv : valW (out ++ [(c : Int)]) = valW l + valW m := by rw [valW_append, valW_one, hol, Int.toNat_natCast]; exact he
    rw [hv] at ht
    have c1 : ¬ ((l.length : Nat) : Int) < (l.length : Int) := by omega
    have c3 : out.length < 35184372088832 := by omega
    have ec : (c : Int) % 4294967296 = (c : Int) := by omega
    refine Ev.step (fun k => ?_) (Ev.bind (f := fun _ t => some t) ht (Ev.now _))
    simp only [nat_Nat_Add.l0]
    rw [if_neg c1, if_pos c3, ec]
  | succ d ih =>
    intro i c out hi hol hos hc he
    have gx := hl.gw i
    have gy := hm.gw i
    obtain ⟨x, hx⟩ := Int.eq_ofNat_of_zero_le gx.1
    obtain ⟨y, hy⟩ := Int.eq_ofNat_of_zero_le gy.1
    rw [hx] at gx
    rw [hy] at gy
    have hx4 : x < 4294967296 := by omega
    have hy4 : y < 4294967296 := by omega
    have hil : i < l.length := by omega
    have hcc : (c + x + y) / 4294967296 ≤ 1 := by omega
    have ex := valW_snocA l i
    have ey := valW_snocA m i
    rw [hx, Int.toNat_natCast] at ex
    rw [hy, Int.toNat_natCast] at ey
    have hs : Sized (out ++ [(((c + x + y) % 4294967296 : Nat) : Int)]) := fun z hz => by
      rcases List.mem_append.1 hz with h | h
      · exact hos z h
      · rw [List.mem_singleton.1 h]; omega
    refine Ev.step (fun k => add_round l m out i c x y hx hy hx4 hy4 hc hil hll hol k) (ih (i + 1) ((c + x + y) / 4294967296) _ (by omega) (by rw [List.length_append, List.length_singleton, hol]) hs hcc ?_)
    rw [ex, ey, valW_append, valW_one, hol, Int.toNat_natCast, pw_succ]
    exact add_eq he rfl
theorem add_ev (l m : List Int) (hl : Sized l) (hm : Sized m) (hll : l.length < 1000) (hmm : m.length ≤ l.length) : Ev (fun k => nat_Nat_Add.l0 k [] 0 l (l.length : Int) 0 m) (toW (valW l + valW m)) :=
  add_loop l m hl hm hll hmm l.length 0 0 [] (by omega) rfl (fun z hz => by cases hz) (by omega) (by simp [valW_nil])
end Go.Proofs.Yteejcpbngnojkaa.P
end
section
namespace Go.Proofs.Yteejcpbngnojkaa.P
open Go.RowKit Go.Shelf Go.Proofs.YteejcpbngnojkaaW.PrintWords Go.Proofs.YteejcpbngnojkaaW.PrintLast Go.Proofs.YteejcpbngnojkaaW.PrintMore
open Go.Proofs.Yteejcpbngnojkaa.Num
set_option linter.unusedVariables false
def nat_Nat_Add.f (_k : Nat) (l0_0 : List Int) (l1_0 : List Int) : Option (List Int) :=
  if canonB l0_0 && canonB l1_0 && decide (l0_0.length < 1000) && decide (l1_0.length < 1000) then some (toW (valW l0_0 + valW l1_0)) else none
theorem nat_Nat_Add.mono : ∀ a0 a1 k, LeO (nat_Nat_Add.f k a0 a1) (nat_Nat_Add.f (k + 1) a0 a1) := fun _ _ _ => LeO.refl _
theorem Add_toW (k a b : Nat) (ha : (toW a).length < 1000) (hb : (toW b).length < 1000) : nat_Nat_Add.f k (toW a) (toW b) = some (toW (a + b)) := by
  unfold nat_Nat_Add.f
  rw [if_pos (by rw [canonB_toW, canonB_toW]; simp [ha, hb]), valW_toW, valW_toW]
theorem nat_Nat_Add.calls (k : Nat) (A0_0 : Option Addr) (c0_0 : Nat) (l0_0 : List Int) (A1_0 : Option Addr) (c1_0 : Nat) (l1_0 : List Int) (r : List Int) (w : World) (hr0_0 : Kd.C (Kd.int .u32) w A0_0 l0_0.length l0_0) (hc0_0 : l0_0.length ≤ c0_0) (hr1_0 : Kd.C (Kd.int .u32) w A1_0 l1_0.length l1_0) (hc1_0 : l1_0.length ≤ c1_0) (h : nat_Nat_Add.f k l0_0 l1_0 = some r) :
    Calls Try.prog 60 #[.agg #[.slice A0_0 l0_0.length c0_0], .agg #[.slice A1_0 l1_0.length c1_0]] w fun e w' => ∃ v0_ : Value, e = .returned (.agg #[v0_]) ∧ Kd.V (Kd.int .u32) 23 w' w.heap.size (fun k_ => (w.heap.size ≤ k_)) v0_ r ∧ Below w.heap.size w w' := by
  unfold nat_Nat_Add.f at h
  split at h
  case isFalse => cases h
  case isTrue hc =>
    simp only [Bool.and_eq_true, decide_eq_true_eq] at hc
    obtain ⟨⟨⟨q0, q1⟩, n0⟩, n1⟩ := hc
    obtain rfl := Option.some.inj h
    have s0 : Sized l0_0 := canonB_sized q0
    have s1 : Sized l1_0 := canonB_sized q1
    by_cases hlt : l0_0.length < l1_0.length
    · obtain ⟨k2, hk⟩ := Ev.rounds (add_ev l1_0 l0_0 s1 s0 n1 (Nat.le_of_lt hlt))
      rw [Nat.add_comm] at hk
      exact nat_Nat_Add.calls_s true k2 A1_0 c1_0 l1_0 A0_0 c0_0 l0_0 _ w hr1_0 hc1_0 hr0_0 hc0_0 n1 (Nat.le_of_lt hlt) (fun _ => hlt) hk
    · obtain ⟨k2, hk⟩ := Ev.rounds (add_ev l0_0 l1_0 s0 s1 n0 (Nat.not_lt.1 hlt))
      exact nat_Nat_Add.calls_s false k2 A0_0 c0_0 l0_0 A1_0 c1_0 l1_0 _ w hr0_0 hc0_0 hr1_0 hc1_0 n0 (Nat.not_lt.1 hlt) (fun e => by cases e) hk
end Go.Proofs.Yteejcpbngnojkaa.P
end
section
namespace Go.Proofs.Yteejcpbngnojkaa.P
open Go.RowKit Go.Proofs.YteejcpbngnojkaaW.PrintWords Go.Proofs.YteejcpbngnojkaaW.PrintLast Go.Proofs.YteejcpbngnojkaaW.PrintMore
attribute [local go_sem] max2_int min2_int max_two min_two max_three min_three max_four min_four
set_option linter.unusedVariables false
set_option linter.unusedSimpArgs false
mutual
def nat_Nat_Mul.l0 : Nat → List Int → List Int → Int → Int → List Int → Option (List Int)
 |0,_,_,_,_,_ => none
 |k + 1,x5,x20,x21,x22,x565000 => if x22 < x21 then (if 0 ≤ x22 then (if x22 < (x20.length : Int) then (nat_Nat_Mul.l1 k x5 x22 (rd x20 x22) 0 x20 x21 x22 x565000 (x565000.length : Int) 0 x565000) else (none)) else (none)) else ((nat_trim.f k x5).bind fun t569 => (some t569))
def nat_Nat_Mul.l1 : Nat → List Int → Int → Int → Int → List Int → Int → Int → List Int → Int → Int → List Int → Option (List Int)
 |0,_,_,_,_,_,_,_,_,_,_,_ => none
 |k + 1,x5,x6,x7,x8,x20,x21,x22,x28,x29,x30,x565000 => if x30 < x29 then (if 0 ≤ x30 then (if x30 < (x28.length : Int) then (if 0 ≤ (wrap64 (x6 + x30)) then (if (wrap64 (x6 + x30)) < (x5.length : Int) then (nat_Nat_Mul.l1 k (x5.set ((wrap64 (x6 + x30)) : Int).toNat ((IntKind.u64.wrap (x8 + (IntKind.u64.wrap ((IntKind.u64.wrap ((IntKind.u64.wrap (x7)) * (IntKind.u64.wrap (rd x28 x30)))) + (IntKind.u64.wrap (rd x5 (wrap64 (x6 + x30)))))))) % 4294967296)) x6 x7 ((IntKind.u64.wrap (x8 + (IntKind.u64.wrap ((IntKind.u64.wrap ((IntKind.u64.wrap (x7)) * (IntKind.u64.wrap (rd x28 x30)))) + (IntKind.u64.wrap (rd x5 (wrap64 (x6 + x30)))))))) / 4294967296) x20 x21 x22 x28 x29 (wrap64 (x30 + 1)) x565000) else (none)) else (none)) else (none)) else (none)) else (if 0 ≤ (wrap64 (x6 + (x565000.length : Int))) then (if (wrap64 (x6 + (x565000.length : Int))) < (x5.length : Int) then (nat_Nat_Mul.l0 k (x5.set ((wrap64 (x6 + (x565000.length : Int))) : Int).toNat ((x8) % 4294967296)) x20 x21 (wrap64 (x22 + 1)) x565000) else (none)) else (none))
end
def nat_Nat_Mul.f (k : Nat) (l0_0 : List Int) (l1_0 : List Int) : Option (List Int):=if 0 ≤ (wrap64 ((l0_0.length : Int) + (l1_0.length : Int))) then (if (wrap64 ((l0_0.length : Int) + (l1_0.length : Int)) : Int).toNat ≤ 70368744177664 then (nat_Nat_Mul.l0 k (List.replicate (wrap64 ((l0_0.length : Int) + (l1_0.length : Int)) : Int).toNat 0) l0_0 (l0_0.length : Int) 0 l1_0) else (none)) else (none)
theorem nat_Nat_Mul.mono_l : ∀ k,(∀ y0 y1 y2 y3 y4,LeO (nat_Nat_Mul.l0 k y0 y1 y2 y3 y4) (nat_Nat_Mul.l0 (k + 1) y0 y1 y2 y3 y4)) ∧ (∀ y0 y1 y2 y3 y4 y5 y6 y7 y8 y9 y10,LeO (nat_Nat_Mul.l1 k y0 y1 y2 y3 y4 y5 y6 y7 y8 y9 y10) (nat_Nat_Mul.l1 (k + 1) y0 y1 y2 y3 y4 y5 y6 y7 y8 y9 y10))
 |0 => ⟨fun _ _ _ _ _ r h => by simp [nat_Nat_Mul.l0] at h,fun _ _ _ _ _ _ _ _ _ _ _ r h => by simp [nat_Nat_Mul.l1] at h⟩
 |k + 1 => by
  obtain ⟨ih0,ih1⟩:=nat_Nat_Mul.mono_l k
  refine ⟨?_,?_⟩
  ·intro y0 y1 y2 y3 y4
   unfold nat_Nat_Mul.l0
   repeat' first
   |(with_reducible exact ih0 _ _ _ _ _)
   |(with_reducible exact ih1 _ _ _ _ _ _ _ _ _ _ _)
   |(with_reducible exact nat_trim.mono _ _)
   |(with_reducible exact LeO.refl _)
   |(with_reducible exact LeO.none _)
   |(with_reducible refine LeO.ite ?_ ?_)
   |(with_reducible refine LeO.bind ?_ (fun _ => ?_))
   |exact ih0 _ _ _ _ _
   |exact ih1 _ _ _ _ _ _ _ _ _ _ _
   |exact nat_trim.mono _ _
   |exact LeO.none _
   |refine LeO.ite ?_ ?_
   |refine LeO.bind ?_ (fun _ => ?_)
  ·intro y0 y1 y2 y3 y4 y5 y6 y7 y8 y9 y10
   unfold nat_Nat_Mul.l1
   repeat' first
   |(with_reducible exact ih0 _ _ _ _ _)
   |(with_reducible exact ih1 _ _ _ _ _ _ _ _ _ _ _)
   |(with_reducible exact nat_trim.mono _ _)
   |(with_reducible exact LeO.refl _)
   |(with_reducible exact LeO.none _)
   |(with_reducible refine LeO.ite ?_ ?_)
   |(with_reducible refine LeO.bind ?_ (fun _ => ?_))
   |exact ih0 _ _ _ _ _
   |exact ih1 _ _ _ _ _ _ _ _ _ _ _
   |exact nat_trim.mono _ _
   |exact LeO.none _
   |refine LeO.ite ?_ ?_
   |refine LeO.bind ?_ (fun _ => ?_)
theorem nat_Nat_Mul.mono : ∀ a0 a1 k,LeO (nat_Nat_Mul.f k a0 a1) (nat_Nat_Mul.f (k + 1) a0 a1):=by
 intro a0 a1 k
 obtain ⟨ih0,ih1⟩:=nat_Nat_Mul.mono_l k
 unfold nat_Nat_Mul.f
 repeat' first
   |(with_reducible exact ih0 _ _ _ _ _)
   |(with_reducible exact ih1 _ _ _ _ _ _ _ _ _ _ _)
   |(with_reducible exact nat_trim.mono _ _)
   |(with_reducible exact LeO.refl _)
   |(with_reducible exact LeO.none _)
   |(with_reducible refine LeO.ite ?_ ?_)
   |(with_reducible refine LeO.bind ?_ (fun _ => ?_))
   |exact ih0 _ _ _ _ _
   |exact ih1 _ _ _ _ _ _ _ _ _ _ _
   |exact nat_trim.mono _ _
   |exact LeO.none _
   |refine LeO.ite ?_ ?_
   |refine LeO.bind ?_ (fun _ => ?_)
set_option maxHeartbeats 8000000 in
set_option maxRecDepth 100000 in
theorem nat_Nat_Mul.calls (k : Nat) (A0_0 : Option Addr) (c0_0 : Nat) (l0_0 : List Int) (A1_0 : Option Addr) (c1_0 : Nat) (l1_0 : List Int) (r : List Int) (w : World) (hr0_0 : Kd.C (Kd.int .u32) w A0_0 l0_0.length l0_0) (hc0_0 : l0_0.length ≤ c0_0) (hr1_0 : Kd.C (Kd.int .u32) w A1_0 l1_0.length l1_0) (hc1_0 : l1_0.length ≤ c1_0) (h : nat_Nat_Mul.f k l0_0 l1_0 = some r) :
  Calls Try.prog 57 #[.agg #[.slice A0_0 l0_0.length c0_0],.agg #[.slice A1_0 l1_0.length c1_0]] w fun e w' => ∃ v0_ : Value,e = .returned (.agg #[v0_]) ∧ Kd.V (Kd.int .u32) 23 w' w.heap.size (fun k_ => (w.heap.size ≤ k_)) v0_ r ∧ Below w.heap.size w w':=by
 have hu38:=Try.underlying38
 have HR0_0:=Aside0.mk hr0_0
 have HC0_0:=Aside0.mk hc0_0
 clear hr0_0 hc0_0
 have HR1_0:=Aside0.mk hr1_0
 have HC1_0:=Aside0.mk hc1_0
 clear hr1_0 hc1_0
 have HB:=Aside0.mk (Below.refl w.heap.size w)
 have H : (if 0 ≤ (wrap64 ((l0_0.length : Int) + (l1_0.length : Int))) then (if (wrap64 ((l0_0.length : Int) + (l1_0.length : Int)) : Int).toNat ≤ 70368744177664 then (nat_Nat_Mul.l0 k (List.replicate (wrap64 ((l0_0.length : Int) + (l1_0.length : Int)) : Int).toNat 0) l0_0 (l0_0.length : Int) 0 l1_0) else (none)) else (none)) = some r:=h
 clear h
 obtain ⟨ji3,hji3⟩ : ∃ j_ : Int,(wrap64 ((l0_0.length : Int) + (l1_0.length : Int))) = j_:=⟨_,rfl⟩
 (first|rw [hji3] at H|simp only [hji3] at H)
 have hji3w : (IntKind.i64.wrap ((l0_0.length : Int) + (l1_0.length : Int))) = ji3:=(i64_w _).trans hji3
 by_cases c4 : 0 ≤ (ji3)
 ·rw [if_pos c4] at H
  have c4b0:=eq_true c4
  have c4b1 : decide (0 ≤ (ji3)) = true:=decide_eq_true c4
  clear c4
  by_cases c5 : (ji3 : Int).toNat ≤ 70368744177664
  ·rw [if_pos c5] at H
   have c5b0:=eq_true c5
   have c5b1 : decide ((ji3 : Int).toNat ≤ 70368744177664) = true:=decide_eq_true c5
   clear c5
   obtain ⟨y566,hy566⟩ : ∃ y_ : List Int,y_ = (List.replicate (ji3 : Int).toNat 0):=⟨_,rfl⟩
   replace H : (nat_Nat_Mul.l0 k y566 l0_0 (l0_0.length : Int) 0 l1_0) = some r:=by first|(rw [hy566];with_reducible exact H)|(have H2_:=(Option.bind_some _ _).symm.trans H;rw [hy566];with_reducible exact H2_)|(have H2_:=(Option.bind_some _ _).symm.trans H;with_reducible exact H2_)|with_reducible exact H|(rw [hy566];exact H)|exact H
   have Ny566:=Aside0.mk hy566
   clear hy566
   have H':=Aside0.mk H
   clear H
   go_enter Try.func57,Try.ntmps57
   go_wp2_with (first|((with_reducible refine gate_dst (N:=2) rfl ?_);refine qX #[.slice A0_0 l0_0.length c0_0] 38 ?_;intro gb563 hg w6 hbox hb;have BK563:=Aside0.mk hbox;have GE563:=qh hg HB;replace HB:=qs HB hb;clear hb hbox hg)|((with_reducible refine gate_dst (N:=3) rfl ?_);refine qX #[.slice A1_0 l1_0.length c1_0] 38 ?_;intro gb564 hg w7 hbox hb;have BK564:=Aside0.mk hbox;have GE564:=qh hg HB;replace HB:=qs HB hb;have NB563_564:=ql hg BK563;have NB564_563:=qg hg BK563;replace BK563:=qb BK563 hb;clear hb hbox hg)|((with_reducible refine gate_dst (N:=4) rfl ?_);refine qX #[.slice none 0 0] 38 ?_;intro gb565 hg w8 hbox hb;have BK565:=Aside0.mk hbox;have GE565:=qh hg HB;replace HB:=qs HB hb;have NB563_565:=ql hg BK563;have NB565_563:=qg hg BK563;replace BK563:=qb BK563 hb;have NB564_565:=ql hg BK564;have NB565_564:=qg hg BK564;replace BK564:=qb BK564 hb;clear hb hbox hg;have hnb9:=NB563_564.out;have hnc9:=NB564_563.out;have hnb10:=NB563_565.out;have hnc10:=NB565_563.out;have hcz11_0:=bc BK563;have hfz11_0:=bz BK563;have hnb12:=NB564_565.out;have hnc12:=NB565_564.out;have hcz13_0:=bc BK564;have hfz13_0:=bz BK564)|((with_reducible refine gate_dst (N:=18) rfl ?_);refine Kd.R_make (Kd.int .u32) _ 23 rfl (N:=18) rfl 36 _ _ rfl ji3 rfl rfl Try.underlying36 (.int .u32 0) 4 info23 rfl (by decide) (by omega) 0 (ok:=fun _ => True) (okp:=fun _ => True) rfl (fun _ hk => hk) trivial (od) (Nat.le_trans (Nat.mul_le_mul_right _ (od : ji3.toNat ≤ 70368744177664)) (by omega)) (Below.refl _ _) (Nat.le_refl _) ?_;intro v567 w14 ho15 hb hg_ hnew_;clear hg_ hnew_;(first|rw [← Ny566.out] at ho15|(simp only [Int.reduceToNat] at ho15;rw [← Ny566.out] at ho15));have HO568:=Aside0.mk (Kd.R_lower (Kd.R_newM (M:=fun k_ => (w.heap.size ≤ k_)) ho15 (below_size (qS HB)) (fun k_ h_ => h_)) (below_size (qS HB)));replace BK563:=qb BK563 hb;replace BK564:=qb BK564 hb;replace BK565:=qb BK565 hb;replace HB:=qs HB hb;clear hb ho15;have hcz16_0:=bc BK563;have hfz16_0:=bz BK563))
   go_loopg [22] k (fun kq v22 w' => ∃ (x5_1 : List Int) (x22_1 : Int),v22 = .int .i64 x22_1 ∧ Aside0 (nat_Nat_Mul.l0 kq x5_1 l0_0 (l0_0.length : Int) x22_1 l1_0 = some r) ∧ Aside0 (kq ≤ k) ∧ Aside0 (Kd.R (Kd.int .u32) 23 w' w.heap.size (fun k_ => (w.heap.size ≤ k_)) v567 x5_1) ∧ Aside0 (w'.heap[gb563]? = some (.cells #[(.slice A0_0 l0_0.length c0_0)] 38 (0,0))) ∧ Aside0 (w'.heap[gb564]? = some (.cells #[(.slice A1_0 l1_0.length c1_0)] 38 (0,0))) ∧ Aside0 (w'.heap[gb565]? = some (.cells #[(.slice none 0 0)] 38 (0,0))) ∧ Aside0 (Below w.heap.size w w'))
   case atStart => exact ⟨(y566),(0),(by first|rfl|(simp;done)|(simp [*];done)),H',⟨Nat.le_refl _⟩,⟨qRm HO568⟩,⟨qB BK563.out⟩,⟨qB BK564.out⟩,⟨qB BK565.out⟩,⟨qS HB⟩⟩
   case round =>
    clear H'
    try clear c1
    try clear p2
    try clear c4
    try clear c4b0
    try clear c4b1
    try clear c5
    try clear c5b0
    try clear c5b1
    try clear p6
    try clear c9
    try clear c10
    try clear c12
    try clear hcz11_0
    try clear hcz13_0
    try clear hcz16_0
    try clear hfz11_0
    try clear hfz13_0
    try clear hfz16_0
    obtain ⟨x5_1,x22_1,rfl,HA,HK1,HO_5,BK563,BK564,BK565,HB⟩:=hrel
    cases gk with
    |zero => exact absurd HA.out (by simp [nat_Nat_Mul.l0])
    |succ k1 =>
     have H:=HA.out
     clear HA
     simp only [nat_Nat_Mul.l0] at H
     by_cases c17 : x22_1 < (l0_0.length : Int)
     ·rw [if_pos c17] at H
      have c17b0 : decide (x22_1 < (l0_0.length : Int)) = true:=decide_eq_true c17
      clear c17
      by_cases c18 : 0 ≤ x22_1
      ·rw [if_pos c18] at H
       have c18b0 : decide (0 ≤ x22_1) = true:=decide_eq_true c18
       clear c18
       by_cases c19 : x22_1 < (l0_0.length : Int)
       ·rw [if_pos c19] at H
        have c19b0 : decide (x22_1 < (l0_0.length : Int)) = true:=decide_eq_true c19
        clear c19
        have H':=Aside0.mk H
        clear H
        have p572 : 0 ≤ (x22_1 : Int):=od
        have q572 : x22_1 < (l0_0.length : Int):=od
        obtain ⟨ad572,e572,hx572_0⟩:=Kd.at_int HR0_0.out x22_1 p572 q572
        cases e572
        replace hx572_0:=(HB.out.cell (World.block_lt_of_cell? w _ hx572_0)).trans hx572_0
        replace p572:=eq_true p572
        replace q572:=eq_true q572
        have hnb20:=NB564_563.out
        have hnc20:=NB563_564.out
        have hnb21:=NB564_565.out
        have hnc21:=NB565_564.out
        have hcz22_0 : wr.cell? ⟨gb564,0,none⟩ = some (.slice A1_0 l1_0.length c1_0):=bc BK564
        have hfz22_0:=bz BK564
        go_wp2
        go_loopg [8,30] k1 (fun kq v8 v30 w' => ∃ (x5_2 : List Int) (x8_2 : Int) (x30_2 : Int),v8 = .int .u64 x8_2 ∧ v30 = .int .i64 x30_2 ∧ Aside0 (nat_Nat_Mul.l1 kq x5_2 x22_1 (rd l0_0 x22_1) x8_2 l0_0 (l0_0.length : Int) x22_1 l1_0 (l1_0.length : Int) x30_2 l1_0 = some r) ∧ Aside0 (kq ≤ k1) ∧ Aside0 (Kd.R (Kd.int .u32) 23 w' w.heap.size (fun k_ => (w.heap.size ≤ k_)) v567 x5_2) ∧ Aside0 (w'.heap[gb563]? = some (.cells #[(.slice (some ad572) l0_0.length c0_0)] 38 (0,0))) ∧ Aside0 (w'.heap[gb564]? = some (.cells #[(.slice A1_0 l1_0.length c1_0)] 38 (0,0))) ∧ Aside0 (w'.heap[gb565]? = some (.cells #[(.slice none 0 0)] 38 (0,0))) ∧ Aside0 (Below w.heap.size w w'))
        case atStart => exact ⟨(x5_1),(0),(0),(by first|rfl|(simp;done)|(simp [*];done)),(by first|rfl|(simp;done)|(simp [*];done)),H',⟨Nat.le_refl _⟩,⟨qRm HO_5⟩,⟨qB BK563.out⟩,⟨qB BK564.out⟩,⟨qB BK565.out⟩,⟨qS HB⟩⟩
        case round =>
         clear H'
         try clear c1
         try clear c2
         try clear p2
         try clear c4
         try clear c4b0
         try clear c4b1
         try clear c5
         try clear c5b0
         try clear c5b1
         try clear p5
         try clear q5
         try clear hx5
         try clear p6
         try clear c9
         try clear c10
         try clear c12
         try clear c17
         try clear c17b0
         try clear c18
         try clear c18b0
         try clear c19
         try clear c19b0
         try clear c20
         try clear c21
         try clear hcz11_0
         try clear hcz13_0
         try clear hcz16_0
         try clear hcz22_0
         try clear hfz11_0
         try clear hfz13_0
         try clear hfz16_0
         try clear hfz22_0
         try clear hx572_0
         try clear p2
         try clear p572
         try clear p6
         try clear q572
         obtain ⟨x5_2,x8_2,x30_2,rfl,rfl,HA,HK2,HO_5,BK563,BK564,BK565,HB⟩:=hrel
         cases gk with
         |zero => exact absurd HA.out (by simp [nat_Nat_Mul.l1])
         |succ k2 =>
          have H:=HA.out
          clear HA
          simp only [nat_Nat_Mul.l1] at H
          by_cases c23 : x30_2 < (l1_0.length : Int)
          ·rw [if_pos c23] at H
           have c23b0 : decide (x30_2 < (l1_0.length : Int)) = true:=decide_eq_true c23
           clear c23
           by_cases c24 : 0 ≤ x30_2
           ·rw [if_pos c24] at H
            have c24b0 : decide (0 ≤ x30_2) = true:=decide_eq_true c24
            clear c24
            by_cases c25 : x30_2 < (l1_0.length : Int)
            ·rw [if_pos c25] at H
             have c25b0 : decide (x30_2 < (l1_0.length : Int)) = true:=decide_eq_true c25
             clear c25
             obtain ⟨ji26,hji26⟩ : ∃ j_ : Int,(wrap64 (x22_1 + x30_2)) = j_:=⟨_,rfl⟩
             (first|rw [hji26] at H|simp only [hji26] at H)
             have hji26w : (IntKind.i64.wrap (x22_1 + x30_2)) = ji26:=(i64_w _).trans hji26
             by_cases c27 : 0 ≤ (ji26)
             ·rw [if_pos c27] at H
              have c27b0 : decide (0 ≤ (ji26)) = true:=decide_eq_true c27
              clear c27
              by_cases c28 : (ji26) < (x5_2.length : Int)
              ·rw [if_pos c28] at H
               have c28b0 : decide ((ji26) < (x5_2.length : Int)) = true:=decide_eq_true c28
               clear c28
               obtain ⟨y575,hy575⟩ : ∃ y_ : List Int,y_ = (x5_2.set ((ji26) : Int).toNat ((IntKind.u64.wrap (x8_2 + (IntKind.u64.wrap ((IntKind.u64.wrap ((IntKind.u64.wrap ((rd l0_0 x22_1))) * (IntKind.u64.wrap (rd l1_0 x30_2)))) + (IntKind.u64.wrap (rd x5_2 (ji26))))))) % 4294967296)):=⟨_,rfl⟩
               replace H : (nat_Nat_Mul.l1 k2 y575 x22_1 (rd l0_0 x22_1) ((IntKind.u64.wrap (x8_2 + (IntKind.u64.wrap ((IntKind.u64.wrap ((IntKind.u64.wrap ((rd l0_0 x22_1))) * (IntKind.u64.wrap (rd l1_0 x30_2)))) + (IntKind.u64.wrap (rd x5_2 (ji26))))))) / 4294967296) l0_0 (l0_0.length : Int) x22_1 l1_0 (l1_0.length : Int) (wrap64 (x30_2 + 1)) l1_0) = some r:=by first|(rw [hy575];with_reducible exact H)|(have H2_:=(Option.bind_some _ _).symm.trans H;rw [hy575];with_reducible exact H2_)|(have H2_:=(Option.bind_some _ _).symm.trans H;with_reducible exact H2_)|with_reducible exact H|(rw [hy575];exact H)|exact H
               have Ny575:=Aside0.mk hy575
               clear hy575
               have H':=Aside0.mk H
               clear H
               have p573 : 0 ≤ (x30_2 : Int):=od
               have q573 : x30_2 < (l1_0.length : Int):=od
               obtain ⟨ad573,e573,hx573_0⟩:=Kd.at_int HR1_0.out x30_2 p573 q573
               cases e573
               replace hx573_0:=(HB.out.cell (World.block_lt_of_cell? w _ hx573_0)).trans hx573_0
               replace p573:=eq_true p573
               replace q573:=eq_true q573
               obtain ⟨Ao30,co30,eo30⟩:=Kd.R_slice HO_5.out
               subst eo30
               have p574 : 0 ≤ ((ji26) : Int):=od
               have q574 : (ji26) < (x5_2.length : Int):=od
               obtain ⟨ad574,e574,hx574_0⟩:=Kd.at_int (Kd.R_reads' HO_5.out).2.2 (ji26) p574 q574
               cases e574
               replace p574:=eq_true p574
               replace q574:=eq_true q574
               have p29 : 0 ≤ ((ji26) : Int):=od
               have q29 : ((ji26) : Int) < ((x5_2.length : Int) : Int):=od
               obtain ⟨go29,co29,eo29,gb29,gl29,cl29,HG29⟩:=Kd.R_form HO_5.out (by omega)
               (first|cases eo29|(injection eo29 with ea_ en_ ec_;(first|subst ea_|(injection ea_ with ea_;subst ea_));subst ec_;clear en_))
               have GB29:=Aside0.mk gb29
               have GG29:=Aside0.mk HG29
               clear gb29 gl29 HG29
               (first|simp only [add_plain] at hx574_0|skip)
               obtain ⟨hx29_0,hf29_0⟩:=Kd.R_celln 0 HO_5.out ((ji26) : Int) p29 q29
               replace p29:=eq_true p29
               replace q29:=eq_true q29
               have HP31:=Kd.R_putg HO_5.out ((ji26) : Int) ((IntKind.u64.wrap (x8_2 + (IntKind.u64.wrap ((IntKind.u64.wrap ((IntKind.u64.wrap ((rd l0_0 x22_1))) * (IntKind.u64.wrap (rd l1_0 x30_2)))) + (IntKind.u64.wrap (rd x5_2 (ji26))))))) % 4294967296)
               go_wp2_with (first|((with_reducible refine gate_store (t:=23) (p:=56) rfl ?_);refine qSt (wr.setCell ⟨go29,((ji26) : Int).toNat,none⟩ (.int .u32 ((IntKind.u64.wrap (x8_2 + (IntKind.u64.wrap ((IntKind.u64.wrap ((IntKind.u64.wrap ((rd l0_0 x22_1))) * (IntKind.u64.wrap (rd l1_0 x30_2)))) + (IntKind.u64.wrap (rd x5_2 (ji26))))))) % 4294967296))) ?_;intro w32 hw;have hg : wr.grownBy w32 (some go29):=(by rw [hw];exact HP31.2);have hp_ : Kd.R (Kd.int .u32) 23 w32 w.heap.size (fun k_ => (w.heap.size ≤ k_)) (.slice (some ⟨go29,0,none⟩) x5_2.length co30) y575:=(by rw [hw,Ny575.out];exact HP31.1);clear HP31;replace BK563:=Aside0.mk (blk_grown (g:=gb563) (o:=.cells #[.slice (some ad572) l0_0.length c0_0] 38 (0,0)) (qB BK563.out) hg (Kd.R_ne HO_5.out BK563.out (by decide)));replace BK564:=Aside0.mk (blk_grown (g:=gb564) (o:=.cells #[.slice (some ad573) l1_0.length c1_0] 38 (0,0)) (qB BK564.out) hg (Kd.R_ne HO_5.out BK564.out (by decide)));replace BK565:=Aside0.mk (blk_grown (g:=gb565) (o:=.cells #[.slice none 0 0] 38 (0,0)) (qB BK565.out) hg (Kd.R_ne HO_5.out BK565.out (by decide)));replace HO_5:=Aside0.mk (hp_);replace HB:=Aside0.mk ((by rw [hw];exact below_set (HB.out) GB29.out : Below w.heap.size w w32));clear hg hw hp_))
               go_roundg k2
               case measure => have:=HK1.out;have:=HK2.out;omega
               case rel => exact ⟨(y575),((IntKind.u64.wrap (x8_2 + (IntKind.u64.wrap ((IntKind.u64.wrap ((IntKind.u64.wrap ((rd l0_0 x22_1))) * (IntKind.u64.wrap (rd l1_0 x30_2)))) + (IntKind.u64.wrap (rd x5_2 (ji26))))))) / 4294967296),(wrap64 (x30_2 + 1)),(by first|rfl|(simp;done)|(simp only [← hji26] <;> (first|rfl|simp))|(simp [*];done)),(by first|rfl|(simp;done)|(simp [*];done)),H',⟨by have:=HK1.out;have:=HK2.out;omega⟩,⟨qRm HO_5⟩,⟨qB BK563.out⟩,⟨qB BK564.out⟩,⟨qB BK565.out⟩,⟨qS HB⟩⟩
              ·rw [if_neg c28] at H
               exact absurd H (by simp)
             ·rw [if_neg c27] at H
              exact absurd H (by simp)
            ·rw [if_neg c25] at H
             exact absurd H (by simp)
           ·rw [if_neg c24] at H
            exact absurd H (by simp)
          ·rw [if_neg c23] at H
           have c23b0 : decide (x30_2 < (l1_0.length : Int)) = false:=decide_eq_false c23
           clear c23
           obtain ⟨ji33,hji33⟩ : ∃ j_ : Int,(wrap64 (x22_1 + (l1_0.length : Int))) = j_:=⟨_,rfl⟩
           (first|rw [hji33] at H|simp only [hji33] at H)
           have hji33w : (IntKind.i64.wrap (x22_1 + (l1_0.length : Int))) = ji33:=(i64_w _).trans hji33
           by_cases c34 : 0 ≤ (ji33)
           ·rw [if_pos c34] at H
            have c34b0 : decide (0 ≤ (ji33)) = true:=decide_eq_true c34
            clear c34
            by_cases c35 : (ji33) < (x5_2.length : Int)
            ·rw [if_pos c35] at H
             have c35b0 : decide ((ji33) < (x5_2.length : Int)) = true:=decide_eq_true c35
             clear c35
             obtain ⟨y576,hy576⟩ : ∃ y_ : List Int,y_ = (x5_2.set ((ji33) : Int).toNat ((x8_2) % 4294967296)):=⟨_,rfl⟩
             replace H : (nat_Nat_Mul.l0 k2 y576 l0_0 (l0_0.length : Int) (wrap64 (x22_1 + 1)) l1_0) = some r:=by first|(rw [hy576];with_reducible exact H)|(have H2_:=(Option.bind_some _ _).symm.trans H;rw [hy576];with_reducible exact H2_)|(have H2_:=(Option.bind_some _ _).symm.trans H;with_reducible exact H2_)|with_reducible exact H|(rw [hy576];exact H)|exact H
             have Ny576:=Aside0.mk hy576
             clear hy576
             have H':=Aside0.mk H
             clear H
             have hnb37:=NB564_563.out
             have hnc37:=NB563_564.out
             have hnb38:=NB564_565.out
             have hnc38:=NB565_564.out
             have hcz39_0 : wr.cell? ⟨gb564,0,none⟩ = some (.slice A1_0 l1_0.length c1_0):=bc BK564
             have hfz39_0:=bz BK564
             have p36 : 0 ≤ ((ji33) : Int):=od
             have q36 : ((ji33) : Int) < ((x5_2.length : Int) : Int):=od
             obtain ⟨go36,co36,eo36,gb36,gl36,cl36,HG36⟩:=Kd.R_form HO_5.out (by omega)
             (first|cases eo36|(injection eo36 with ea_ en_ ec_;(first|subst ea_|(injection ea_ with ea_;subst ea_));subst ec_;clear en_))
             have GB36:=Aside0.mk gb36
             have GG36:=Aside0.mk HG36
             clear gb36 gl36 HG36
             obtain ⟨hx36_0,hf36_0⟩:=Kd.R_celln 0 HO_5.out ((ji33) : Int) p36 q36
             replace p36:=eq_true p36
             replace q36:=eq_true q36
             have HP40:=Kd.R_putg HO_5.out ((ji33) : Int) ((x8_2) % 4294967296)
             go_wp2_with (first|((with_reducible refine gate_store (t:=23) (p:=68) rfl ?_);refine qSt (wr.setCell ⟨go36,((ji33) : Int).toNat,none⟩ (.int .u32 ((x8_2) % 4294967296))) ?_;intro w41 hw;have hg : wr.grownBy w41 (some go36):=(by rw [hw];exact HP40.2);have hp_ : Kd.R (Kd.int .u32) 23 w41 w.heap.size (fun k_ => (w.heap.size ≤ k_)) (.slice (some ⟨go36,0,none⟩) x5_2.length co36) y576:=(by rw [hw,Ny576.out];exact HP40.1);clear HP40;replace BK563:=Aside0.mk (blk_grown (g:=gb563) (o:=.cells #[.slice (some ad572) l0_0.length c0_0] 38 (0,0)) (qB BK563.out) hg (Kd.R_ne HO_5.out BK563.out (by decide)));replace BK564:=Aside0.mk (blk_grown (g:=gb564) (o:=.cells #[.slice A1_0 l1_0.length c1_0] 38 (0,0)) (qB BK564.out) hg (Kd.R_ne HO_5.out BK564.out (by decide)));replace BK565:=Aside0.mk (blk_grown (g:=gb565) (o:=.cells #[.slice none 0 0] 38 (0,0)) (qB BK565.out) hg (Kd.R_ne HO_5.out BK565.out (by decide)));replace HO_5:=Aside0.mk (hp_);replace HB:=Aside0.mk ((by rw [hw];exact below_set (HB.out) GB36.out : Below w.heap.size w w41));clear hg hw hp_))
             go_roundg k2
             case measure => have:=HK1.out;have:=HK2.out;omega
             case rel => exact ⟨(y576),(wrap64 (x22_1 + 1)),(by first|rfl|(simp;done)|(simp [*];done)),H',⟨by have:=HK1.out;have:=HK2.out;omega⟩,⟨qRm HO_5⟩,⟨qB BK563.out⟩,⟨qB BK564.out⟩,⟨qB BK565.out⟩,⟨qS HB⟩⟩
            ·rw [if_neg c35] at H
             exact absurd H (by simp)
           ·rw [if_neg c34] at H
            exact absurd H (by simp)
       ·rw [if_neg c19] at H
        exact absurd H (by simp)
      ·rw [if_neg c18] at H
       exact absurd H (by simp)
     ·rw [if_neg c17] at H
      have c17b0 : decide (x22_1 < (l0_0.length : Int)) = false:=decide_eq_false c17
      clear c17
      obtain ⟨t569,A42,H⟩:=qH H
      obtain rfl:=Option.some.inj H
      obtain ⟨Ao43,co43,eo43⟩:=Kd.R_slice HO_5.out
      subst eo43
      go_wp2_with (first|((with_reducible refine gate_callee (f:=100) rfl ?_);refine gL (some 71) Try.func100 #[.slice Ao43 x5_1.length co43] ?_;(with_reducible refine (nat_trim.calls k1 (fun k_ => some k_ = (.slice Ao43 x5_1.length co43 : Value).ownBlock) _ _ x5_1 t569 _ ?side1 A42.out).mono ?_);(case side1 => exact Kd.R_V (Kd.R_tight rfl (Kd.R_types (Kd.R_types (Kd.R_types (HO_5.out) BK563.out (by decide)) BK564.out (by decide)) BK565.out (by decide))));rintro e w44 ⟨v570,rfl,ho0,hb⟩;refine ⟨_,rfl,?_⟩;have HO571:=Aside0.mk (Kd.V_lower (Kd.V_mono (ok':=fun k_ => (w.heap.size ≤ k_) ∧ k_ ≠ gb563 ∧ k_ ≠ gb564 ∧ k_ ≠ gb565) ho0 (fun k_ hk_ => ⟨Or.elim hk_ (fun hs_ => ((Kd.R_types (Kd.R_types (Kd.R_types (HO_5.out) BK563.out (by decide)) BK564.out (by decide)) BK565.out (by decide)).1 k_ hs_.symm).1.1.1) (fun hn_ => (Nat.le_trans (below_size (qS HB)) hn_)),Or.elim hk_ (fun hs_ => ((Kd.R_types (Kd.R_types (Kd.R_types (HO_5.out) BK563.out (by decide)) BK564.out (by decide)) BK565.out (by decide)).1 k_ hs_.symm).1.1.2) (fun hn_ => (Kd.freshB (qB BK563.out) k_ hn_)),Or.elim hk_ (fun hs_ => ((Kd.R_types (Kd.R_types (Kd.R_types (HO_5.out) BK563.out (by decide)) BK564.out (by decide)) BK565.out (by decide)).1 k_ hs_.symm).1.2) (fun hn_ => (Kd.freshB (qB BK564.out) k_ hn_)),Or.elim hk_ (fun hs_ => ((Kd.R_types (Kd.R_types (Kd.R_types (HO_5.out) BK563.out (by decide)) BK564.out (by decide)) BK565.out (by decide)).1 k_ hs_.symm).2) (fun hn_ => (Kd.freshB (qB BK565.out) k_ hn_))⟩)) (below_size (qS HB)));replace HO_5:=qRb HO_5 hb;replace BK563:=qb BK563 hb;replace BK564:=qb BK564 hb;replace BK565:=qb BK565 hb;replace HB:=qs HB hb;clear hb ho0;obtain ⟨Ao45,co45,eo45⟩:=Kd.V_slice HO571.out;subst eo45;have hnb46:=NB565_563.out;have hnc46:=NB563_565.out;have hnb47:=NB565_564.out;have hnc47:=NB564_565.out;have hcz48_0:=bc BK565;have hfz48_0:=bz BK565))
      refine bodyPost_ret (results_cell_row rfl _ _ gb565 38 #[.slice Ao45 t569.length co45] (0,0) _ rfl (by (with_reducible repeat (first|refine blk_drewN ?_ _|refine blk_drew ?_|refine blk_alloc ?_ _));refine blk_put (cs:=#[.slice none 0 0]) ?_ 0 _ rfl;(with_reducible repeat (first|refine blk_drewN ?_ _|refine blk_drew ?_|refine blk_alloc ?_ _));exact BK565.out) Try.underlying38 rfl (by kernel_rfl)) rfl ?_
      exact ⟨_,by first|rfl|(simp [errW_none,errW_some] <;> rfl)|(simp only [← hji3];first|rfl|(simp [errW_none,errW_some] <;> rfl))|(simp [*,errW_none,errW_some] <;> rfl),qVm HO571,qS HB⟩
  ·rw [if_neg c5] at H
   exact absurd H (by simp)
 ·rw [if_neg c4] at H
  exact absurd H (by simp)
end Go.Proofs.Yteejcpbngnojkaa.P
end
