/- The document's quarter: the same change of the sixteen words, whatever row holds them. -/
import Derived.Test.YteejcpbngnojkaaH97
namespace Go.Proofs.Yteejcpbngnojkaa.P
open Go.RowKit Go.Proofs.YteejcpbngnojkaaW.PrintWords Go.Proofs.YteejcpbngnojkaaW.PrintLast Go.Proofs.YteejcpbngnojkaaW.PrintMore
set_option linter.unusedVariables false
theorem refq_walk_rot16 (x : Int) (w : World) : Calls Try.prog 128 #[.int .u32 x, .int .u64 16] w fun e w' => e = .returned (.int .u32 (rl x 16)) ∧ w' = w := by
  go_enter Try.func128, Try.ntmps128
  go_wp2
  go_ret
  exact ⟨rfl, rfl⟩
theorem refq_walk_rot12 (x : Int) (w : World) : Calls Try.prog 128 #[.int .u32 x, .int .u64 12] w fun e w' => e = .returned (.int .u32 (rl x 12)) ∧ w' = w := by
  go_enter Try.func128, Try.ntmps128
  go_wp2
  go_ret
  exact ⟨rfl, rfl⟩
theorem refq_walk_rot8 (x : Int) (w : World) : Calls Try.prog 128 #[.int .u32 x, .int .u64 8] w fun e w' => e = .returned (.int .u32 (rl x 8)) ∧ w' = w := by
  go_enter Try.func128, Try.ntmps128
  go_wp2
  go_ret
  exact ⟨rfl, rfl⟩
theorem refq_walk_rot7 (x : Int) (w : World) : Calls Try.prog 128 #[.int .u32 x, .int .u64 7] w fun e w' => e = .returned (.int .u32 (rl x 7)) ∧ w' = w := by
  go_enter Try.func128, Try.ntmps128
  go_wp2
  go_ret
  exact ⟨rfl, rfl⟩
set_option maxHeartbeats 4000000 in
set_option maxRecDepth 100000 in
theorem refq_walk (g cap base : Nat) (ok : Nat → Prop) (l : List Int) (a1 a2 a3 a4 : Int) (w : World) (hl : l.length = 16) (p1 : 0 ≤ a1) (q1 : a1 < 16) (p2 : 0 ≤ a2) (q2 : a2 < 16) (p3 : 0 ≤ a3) (q3 : a3 < 16) (p4 : 0 ≤ a4) (q4 : a4 < 16)
    (H : Kd.R (Kd.int .u32) 23 w base ok (.slice (some ⟨g, 0, none⟩) 16 cap) l) :
    Calls Try.prog 99 #[.slice (some ⟨g, 0, none⟩) 16 cap, .int .i64 a1, .int .i64 a2, .int .i64 a3, .int .i64 a4] w fun e w' => e = .returned (.tuple #[]) ∧ Kd.R (Kd.int .u32) 23 w' base ok (.slice (some ⟨g, 0, none⟩) 16 cap) (qr l a1 a2 a3 a4) ∧ w.grownBy w' (some g) := by
  unfold qr
  have H0 := Aside0.mk H; clear H
  have G0 := Aside0.mk (World.grownBy.refl w (some g))
  have L0 := Aside0.mk hl; clear hl
  go_enter Try.func99, Try.ntmps99
  go_wp2
  obtain ⟨hx, fx⟩ := Kd.R_celln 0 H0.out a1 p1 q1
  have hy := (Kd.R_celln 0 H0.out a2 p2 q2).1
  have hP := Aside0.mk (Kd.R_putg H0.out a1 ((rd l a1 + rd l a2) % 4294967296))
  change _ = some (Value.int IntKind.u32 (rd _ _)) at hx hy
  go_region
  go_wp2
  have n_ := Aside0.mk (Kd.R_drew hP.out.1)
  have m_ := Aside0.mk (grown_drew (World.grownBy.trans G0.out hP.out.2))
  clear hx hy fx hP H0 G0
  generalize (w.setCell ⟨g, a1.toNat, none⟩ (.int .u32 ((rd l a1 + rd l a2) % 4294967296))).drew = w1 at n_ m_ ⊢
  obtain ⟨l1, e1⟩ : ∃ z, z = (qa l a1 a2) := ⟨_, rfl⟩
  have H1 : Aside0 (Kd.R (Kd.int .u32) 23 w1 base ok (.slice (some ⟨g, 0, none⟩) 16 cap) l1) := ⟨by rw [e1]; exact n_.out⟩
  have G1 := m_
  have E1 := Aside0.mk e1
  clear n_ m_ e1
  obtain ⟨hx, fx⟩ := Kd.R_celln 0 H1.out a4 p4 q4
  have hy := (Kd.R_celln 0 H1.out a1 p1 q1).1
  have hP := Aside0.mk (Kd.R_putg H1.out a4 (rl (Go.bits .xor .u32 (rd l1 a4) (rd l1 a1)) 16))
  change _ = some (Value.int IntKind.u32 (rd _ _)) at hx hy
  refine wp_region_still_tail 13 (by kernel_rfl) (by kernel_rfl) ?_
  simp only [List.take_succ_cons, List.take_zero, List.drop_succ_cons, List.drop_zero]
  repeat still_step
  still_call (refq_walk_rot16 _ _)
  repeat still_step
  refine wpStill_nil ?_
  change wpList _ _ _ _ _ w1.drew
  go_wp2
  have n_ := Aside0.mk (Kd.R_drew hP.out.1)
  have m_ := Aside0.mk (grown_drew (World.grownBy.trans G1.out hP.out.2))
  clear hx hy fx hP H1 G1
  generalize (w1.setCell ⟨g, a4.toNat, none⟩ (.int .u32 (rl (Go.bits .xor .u32 (rd l1 a4) (rd l1 a1)) 16))).drew = w2 at n_ m_ ⊢
  obtain ⟨l2, e2⟩ : ∃ z, z = (qx l1 a4 a1 16) := ⟨_, rfl⟩
  have H2 : Aside0 (Kd.R (Kd.int .u32) 23 w2 base ok (.slice (some ⟨g, 0, none⟩) 16 cap) l2) := ⟨by rw [e2]; exact n_.out⟩
  have G2 := m_
  have E2 := Aside0.mk e2
  clear n_ m_ e2
  obtain ⟨hx, fx⟩ := Kd.R_celln 0 H2.out a3 p3 q3
  have hy := (Kd.R_celln 0 H2.out a4 p4 q4).1
  have hP := Aside0.mk (Kd.R_putg H2.out a3 ((rd l2 a3 + rd l2 a4) % 4294967296))
  change _ = some (Value.int IntKind.u32 (rd _ _)) at hx hy
  go_region
  go_wp2
  have n_ := Aside0.mk (Kd.R_drew hP.out.1)
  have m_ := Aside0.mk (grown_drew (World.grownBy.trans G2.out hP.out.2))
  clear hx hy fx hP H2 G2
  generalize (w2.setCell ⟨g, a3.toNat, none⟩ (.int .u32 ((rd l2 a3 + rd l2 a4) % 4294967296))).drew = w3 at n_ m_ ⊢
  obtain ⟨l3, e3⟩ : ∃ z, z = (qa l2 a3 a4) := ⟨_, rfl⟩
  have H3 : Aside0 (Kd.R (Kd.int .u32) 23 w3 base ok (.slice (some ⟨g, 0, none⟩) 16 cap) l3) := ⟨by rw [e3]; exact n_.out⟩
  have G3 := m_
  have E3 := Aside0.mk e3
  clear n_ m_ e3
  obtain ⟨hx, fx⟩ := Kd.R_celln 0 H3.out a2 p2 q2
  have hy := (Kd.R_celln 0 H3.out a3 p3 q3).1
  have hP := Aside0.mk (Kd.R_putg H3.out a2 (rl (Go.bits .xor .u32 (rd l3 a2) (rd l3 a3)) 12))
  change _ = some (Value.int IntKind.u32 (rd _ _)) at hx hy
  refine wp_region_still_tail 13 (by kernel_rfl) (by kernel_rfl) ?_
  simp only [List.take_succ_cons, List.take_zero, List.drop_succ_cons, List.drop_zero]
  repeat still_step
  still_call (refq_walk_rot12 _ _)
  repeat still_step
  refine wpStill_nil ?_
  change wpList _ _ _ _ _ w3.drew
  go_wp2
  have n_ := Aside0.mk (Kd.R_drew hP.out.1)
  have m_ := Aside0.mk (grown_drew (World.grownBy.trans G3.out hP.out.2))
  clear hx hy fx hP H3 G3
  generalize (w3.setCell ⟨g, a2.toNat, none⟩ (.int .u32 (rl (Go.bits .xor .u32 (rd l3 a2) (rd l3 a3)) 12))).drew = w4 at n_ m_ ⊢
  obtain ⟨l4, e4⟩ : ∃ z, z = (qx l3 a2 a3 12) := ⟨_, rfl⟩
  have H4 : Aside0 (Kd.R (Kd.int .u32) 23 w4 base ok (.slice (some ⟨g, 0, none⟩) 16 cap) l4) := ⟨by rw [e4]; exact n_.out⟩
  have G4 := m_
  have E4 := Aside0.mk e4
  clear n_ m_ e4
  obtain ⟨hx, fx⟩ := Kd.R_celln 0 H4.out a1 p1 q1
  have hy := (Kd.R_celln 0 H4.out a2 p2 q2).1
  have hP := Aside0.mk (Kd.R_putg H4.out a1 ((rd l4 a1 + rd l4 a2) % 4294967296))
  change _ = some (Value.int IntKind.u32 (rd _ _)) at hx hy
  go_region
  go_wp2
  have n_ := Aside0.mk (Kd.R_drew hP.out.1)
  have m_ := Aside0.mk (grown_drew (World.grownBy.trans G4.out hP.out.2))
  clear hx hy fx hP H4 G4
  generalize (w4.setCell ⟨g, a1.toNat, none⟩ (.int .u32 ((rd l4 a1 + rd l4 a2) % 4294967296))).drew = w5 at n_ m_ ⊢
  obtain ⟨l5, e5⟩ : ∃ z, z = (qa l4 a1 a2) := ⟨_, rfl⟩
  have H5 : Aside0 (Kd.R (Kd.int .u32) 23 w5 base ok (.slice (some ⟨g, 0, none⟩) 16 cap) l5) := ⟨by rw [e5]; exact n_.out⟩
  have G5 := m_
  have E5 := Aside0.mk e5
  clear n_ m_ e5
  obtain ⟨hx, fx⟩ := Kd.R_celln 0 H5.out a4 p4 q4
  have hy := (Kd.R_celln 0 H5.out a1 p1 q1).1
  have hP := Aside0.mk (Kd.R_putg H5.out a4 (rl (Go.bits .xor .u32 (rd l5 a4) (rd l5 a1)) 8))
  change _ = some (Value.int IntKind.u32 (rd _ _)) at hx hy
  refine wp_region_still_tail 13 (by kernel_rfl) (by kernel_rfl) ?_
  simp only [List.take_succ_cons, List.take_zero, List.drop_succ_cons, List.drop_zero]
  repeat still_step
  still_call (refq_walk_rot8 _ _)
  repeat still_step
  refine wpStill_nil ?_
  change wpList _ _ _ _ _ w5.drew
  go_wp2
  have n_ := Aside0.mk (Kd.R_drew hP.out.1)
  have m_ := Aside0.mk (grown_drew (World.grownBy.trans G5.out hP.out.2))
  clear hx hy fx hP H5 G5
  generalize (w5.setCell ⟨g, a4.toNat, none⟩ (.int .u32 (rl (Go.bits .xor .u32 (rd l5 a4) (rd l5 a1)) 8))).drew = w6 at n_ m_ ⊢
  obtain ⟨l6, e6⟩ : ∃ z, z = (qx l5 a4 a1 8) := ⟨_, rfl⟩
  have H6 : Aside0 (Kd.R (Kd.int .u32) 23 w6 base ok (.slice (some ⟨g, 0, none⟩) 16 cap) l6) := ⟨by rw [e6]; exact n_.out⟩
  have G6 := m_
  have E6 := Aside0.mk e6
  clear n_ m_ e6
  obtain ⟨hx, fx⟩ := Kd.R_celln 0 H6.out a3 p3 q3
  have hy := (Kd.R_celln 0 H6.out a4 p4 q4).1
  have hP := Aside0.mk (Kd.R_putg H6.out a3 ((rd l6 a3 + rd l6 a4) % 4294967296))
  change _ = some (Value.int IntKind.u32 (rd _ _)) at hx hy
  go_region
  go_wp2
  have n_ := Aside0.mk (Kd.R_drew hP.out.1)
  have m_ := Aside0.mk (grown_drew (World.grownBy.trans G6.out hP.out.2))
  clear hx hy fx hP H6 G6
  generalize (w6.setCell ⟨g, a3.toNat, none⟩ (.int .u32 ((rd l6 a3 + rd l6 a4) % 4294967296))).drew = w7 at n_ m_ ⊢
  obtain ⟨l7, e7⟩ : ∃ z, z = (qa l6 a3 a4) := ⟨_, rfl⟩
  have H7 : Aside0 (Kd.R (Kd.int .u32) 23 w7 base ok (.slice (some ⟨g, 0, none⟩) 16 cap) l7) := ⟨by rw [e7]; exact n_.out⟩
  have G7 := m_
  have E7 := Aside0.mk e7
  clear n_ m_ e7
  obtain ⟨hx, fx⟩ := Kd.R_celln 0 H7.out a2 p2 q2
  have hy := (Kd.R_celln 0 H7.out a3 p3 q3).1
  have hP := Aside0.mk (Kd.R_putg H7.out a2 (rl (Go.bits .xor .u32 (rd l7 a2) (rd l7 a3)) 7))
  change _ = some (Value.int IntKind.u32 (rd _ _)) at hx hy
  refine wp_region_still_tail 13 (by kernel_rfl) (by kernel_rfl) ?_
  simp only [List.take_succ_cons, List.take_zero, List.drop_succ_cons, List.drop_zero]
  repeat still_step
  still_call (refq_walk_rot7 _ _)
  repeat still_step
  refine wpStill_nil ?_
  change wpList _ _ _ _ _ w7.drew
  go_wp2
  have n_ := Aside0.mk (Kd.R_drew hP.out.1)
  have m_ := Aside0.mk (grown_drew (World.grownBy.trans G7.out hP.out.2))
  clear hx hy fx hP H7 G7
  generalize (w7.setCell ⟨g, a2.toNat, none⟩ (.int .u32 (rl (Go.bits .xor .u32 (rd l7 a2) (rd l7 a3)) 7))).drew = w8 at n_ m_ ⊢
  obtain ⟨l8, e8⟩ : ∃ z, z = (qx l7 a2 a3 7) := ⟨_, rfl⟩
  have H8 : Aside0 (Kd.R (Kd.int .u32) 23 w8 base ok (.slice (some ⟨g, 0, none⟩) 16 cap) l8) := ⟨by rw [e8]; exact n_.out⟩
  have G8 := m_
  have E8 := Aside0.mk e8
  clear n_ m_ e8
  go_end0
  exact ⟨rfl, by rw [E8.out, E7.out, E6.out, E5.out, E4.out, E3.out, E2.out, E1.out] at H8; exact H8.out, G8.out⟩
def sacristyref05_quarter.f (l0 : List Int) (a1 : Int) (a2 : Int) (a3 : Int) (a4 : Int) : Option (List Int) :=
  if l0.length = 16 ∧ (0 ≤ a1 ∧ a1 < 16) ∧ (0 ≤ a2 ∧ a2 < 16) ∧ (0 ≤ a3 ∧ a3 < 16) ∧ 0 ≤ a4 ∧ a4 < 16 then some (qr l0 a1 a2 a3 a4) else none
theorem sacristyref05_quarter.calls (P0_ : Nat → Prop) (u9000_ : Value) (l0 : List Int) (a1 : Int) (a2 : Int) (a3 : Int) (a4 : Int) (r : List Int) (w0 w : World) (hB : Below w0.heap.size w0 w) (ho0 : Kd.R (Kd.int .u32) 23 w w0.heap.size P0_ u9000_ l0) (h : sacristyref05_quarter.f l0 a1 a2 a3 a4 = some r) :
    Calls Try.prog 99 #[u9000_, .int .i64 a1, .int .i64 a2, .int .i64 a3, .int .i64 a4] w fun e w' => e = .returned (.tuple #[]) ∧ Kd.R (Kd.int .u32) 23 w' w0.heap.size (fun k_ => (P0_ k_ ∨ w.heap.size ≤ k_)) u9000_ r ∧ Below w0.heap.size w0 w' ∧ Kept w w' (fun k_ => P0_ k_) := by
  unfold sacristyref05_quarter.f at h
  split at h
  · rename_i hc
    obtain ⟨hl, ⟨p1, q1⟩, ⟨p2, q2⟩, ⟨p3, q3⟩, p4, q4⟩ := hc
    obtain rfl := Option.some.inj h
    obtain ⟨g, cap, rfl, hg, hlt, _⟩ := Kd.R_form ho0 (by omega)
    have hP : P0_ g := ho0.1 g rfl
    rw [hl] at ho0 ⊢
    refine (refq_walk g cap _ _ l0 a1 a2 a3 a4 w hl p1 q1 p2 q2 p3 q3 p4 q4 ho0).mono fun e w' ⟨he, hr, hgr⟩ => ⟨he, Kd.R_mono hr (fun _ hk => .inl hk), hB.grown hgr hB.size (fun k hk => by cases hk; exact hg), Kept.of_grown hgr (Kept.refl w _) (fun k hk => by cases hk; exact .inl hP)⟩
  · cases h
end Go.Proofs.Yteejcpbngnojkaa.P
