-- WRITTEN BY A PROGRAM OF THIS PROJECT'S OWN (wip/tools/mk.py) over the kit's print; not trusted: Lean checks it.
import Derived.Test.YteejcpbngnojkaaF0
import Derived.Test.YteejcpbngnojkaaF28
import Derived.Test.YteejcpbngnojkaaF32
namespace Go.Proofs.Yteejcpbngnojkaa.P
open Go.RowKit Go.Proofs.YteejcpbngnojkaaW.PrintWords Go.Proofs.YteejcpbngnojkaaW.PrintLast Go.Proofs.YteejcpbngnojkaaW.PrintMore
attribute [local go_sem] max2_int min2_int max_two min_two max_three min_three max_four min_four   -- for this text's walks alone
set_option linter.unusedVariables false
set_option linter.unusedSimpArgs false

/-! ### sacristylaw05_StreamBack: function 5 -/
mutual
def sacristylaw05_StreamBack.j0 : Nat → List Int → Int → List Int → List Int → Int → Int → Bool → Option (Bool)
  | 0, _, _, _, _, _, _, _ => none
  | k + 1, x0, x1, x2, x3, x4, x5, x26 => if x26 = true then ((sacristylaw05_lives.f k).bind fun t248 => (some t248)) else ((stream_Xor.f k x0 x1 x2 x3).bind fun bt249 => (if bt249.2 = 0 then ((stream_Xor.f k x0 x1 x2 bt249.1).bind fun bt253 => (if bt253.2 = 0 then (if (strOfNums bt253.1).toList = (strOfNums x3).toList then (sacristylaw05_StreamBack.j1 k x0 x1 x2 x3 x4 x5 bt249.1 ((bt249.1.length : Int) != (x3.length : Int))) else (sacristylaw05_StreamBack.j1 k x0 x1 x2 x3 x4 x5 bt249.1 true)) else (sacristylaw05_StreamBack.j1 k x0 x1 x2 x3 x4 x5 bt249.1 true))) else (if (x0.length : Int) = 32 then (some ((x2.length : Int) != 12)) else (some true))))
def sacristylaw05_StreamBack.j1 : Nat → List Int → Int → List Int → List Int → Int → Int → List Int → Bool → Option (Bool)
  | 0, _, _, _, _, _, _, _, _ => none
  | k + 1, x0, x1, x2, x3, x4, x5, x13, x69 => if x69 = true then (none) else (if (x3.length : Int) = 0 then (some true) else (if (IntKind.u64.wrap ((x3.length : Int))) = 0 then (none) else ((some (([] : List Int) : List Int)).bind fun y257 => (if y257.length + x3.length < 140737488355328 then ((some (y257 ++ x3 : List Int)).bind fun y260 => (if 0 ≤ (wrap64 (Int.tmod (IntKind.u64.wrap (x4)) (IntKind.u64.wrap ((x3.length : Int))))) then (if (wrap64 (Int.tmod (IntKind.u64.wrap (x4)) (IntKind.u64.wrap ((x3.length : Int))))) < (y260.length : Int) then ((stream_Xor.f k x0 x1 x2 (y260.set ((wrap64 (Int.tmod (IntKind.u64.wrap (x4)) (IntKind.u64.wrap ((x3.length : Int))))) : Int).toNat (Go.bits .xor .u8 (rd y260 (wrap64 (Int.tmod (IntKind.u64.wrap (x4)) (IntKind.u64.wrap ((x3.length : Int)))))) x5))).bind fun bt265 => (if (wrap64 (Int.tmod (IntKind.u64.wrap (x4)) (IntKind.u64.wrap ((x3.length : Int))))) < (x13.length : Int) then (if bt265.2 = 0 then (some ((strOfNums bt265.1).toList == (strOfNums (x13.set ((wrap64 (Int.tmod (IntKind.u64.wrap (x4)) (IntKind.u64.wrap ((x3.length : Int))))) : Int).toNat (Go.bits .xor .u8 (rd x13 (wrap64 (Int.tmod (IntKind.u64.wrap (x4)) (IntKind.u64.wrap ((x3.length : Int)))))) x5))).toList)) else (none)) else (none))) else (none)) else (none))) else (none)))))
end
def sacristylaw05_StreamBack.f (k : Nat) (l0 : List Int) (a1 : Int) (l2 : List Int) (l3 : List Int) (a4 : Int) (a5 : Int) : Option (Bool) := (sacristylaw05_lives.f k).bind fun t247 => (if t247 = true then (sacristylaw05_StreamBack.j0 k l0 a1 l2 l3 a4 a5 (decide ((l3.length : Int) > 3000))) else (sacristylaw05_StreamBack.j0 k l0 a1 l2 l3 a4 a5 true))
theorem sacristylaw05_StreamBack.mono_l : ∀ k, (∀ y0 y1 y2 y3 y4 y5 y6, LeO (sacristylaw05_StreamBack.j0 k y0 y1 y2 y3 y4 y5 y6) (sacristylaw05_StreamBack.j0 (k + 1) y0 y1 y2 y3 y4 y5 y6)) ∧ (∀ y0 y1 y2 y3 y4 y5 y6 y7, LeO (sacristylaw05_StreamBack.j1 k y0 y1 y2 y3 y4 y5 y6 y7) (sacristylaw05_StreamBack.j1 (k + 1) y0 y1 y2 y3 y4 y5 y6 y7))
  | 0 => ⟨fun _ _ _ _ _ _ _ r h => by simp [sacristylaw05_StreamBack.j0] at h, fun _ _ _ _ _ _ _ _ r h => by simp [sacristylaw05_StreamBack.j1] at h⟩
  | k + 1 => by
    obtain ⟨ih0, ih1⟩ := sacristylaw05_StreamBack.mono_l k
    refine ⟨?_, ?_⟩
    · intro y0 y1 y2 y3 y4 y5 y6
      unfold sacristylaw05_StreamBack.j0
      repeat' first
      | (with_reducible exact ih0 _ _ _ _ _ _ _)
      | (with_reducible exact ih1 _ _ _ _ _ _ _ _)
      | (with_reducible exact sacristylaw05_lives.mono _)
      | (with_reducible exact stream_Xor.mono _ _ _ _ _)
      | (with_reducible exact LeO.refl _)
      | (with_reducible exact LeO.none _)
      | (with_reducible refine LeO.ite ?_ ?_)
      | (with_reducible refine LeO.bind ?_ (fun _ => ?_))
      | exact ih0 _ _ _ _ _ _ _
      | exact ih1 _ _ _ _ _ _ _ _
      | exact sacristylaw05_lives.mono _
      | exact stream_Xor.mono _ _ _ _ _
      | exact LeO.none _
      | refine LeO.ite ?_ ?_
      | refine LeO.bind ?_ (fun _ => ?_)
    · intro y0 y1 y2 y3 y4 y5 y6 y7
      unfold sacristylaw05_StreamBack.j1
      repeat' first
      | (with_reducible exact ih0 _ _ _ _ _ _ _)
      | (with_reducible exact ih1 _ _ _ _ _ _ _ _)
      | (with_reducible exact sacristylaw05_lives.mono _)
      | (with_reducible exact stream_Xor.mono _ _ _ _ _)
      | (with_reducible exact LeO.refl _)
      | (with_reducible exact LeO.none _)
      | (with_reducible refine LeO.ite ?_ ?_)
      | (with_reducible refine LeO.bind ?_ (fun _ => ?_))
      | exact ih0 _ _ _ _ _ _ _
      | exact ih1 _ _ _ _ _ _ _ _
      | exact sacristylaw05_lives.mono _
      | exact stream_Xor.mono _ _ _ _ _
      | exact LeO.none _
      | refine LeO.ite ?_ ?_
      | refine LeO.bind ?_ (fun _ => ?_)
theorem sacristylaw05_StreamBack.mono : ∀ a0 a1 a2 a3 a4 a5 k, LeO (sacristylaw05_StreamBack.f k a0 a1 a2 a3 a4 a5) (sacristylaw05_StreamBack.f (k + 1) a0 a1 a2 a3 a4 a5) := by
  intro a0 a1 a2 a3 a4 a5 k
  obtain ⟨ih0, ih1⟩ := sacristylaw05_StreamBack.mono_l k
  unfold sacristylaw05_StreamBack.f
  repeat' first
      | (with_reducible exact ih0 _ _ _ _ _ _ _)
      | (with_reducible exact ih1 _ _ _ _ _ _ _ _)
      | (with_reducible exact sacristylaw05_lives.mono _)
      | (with_reducible exact stream_Xor.mono _ _ _ _ _)
      | (with_reducible exact LeO.refl _)
      | (with_reducible exact LeO.none _)
      | (with_reducible refine LeO.ite ?_ ?_)
      | (with_reducible refine LeO.bind ?_ (fun _ => ?_))
      | exact ih0 _ _ _ _ _ _ _
      | exact ih1 _ _ _ _ _ _ _ _
      | exact sacristylaw05_lives.mono _
      | exact stream_Xor.mono _ _ _ _ _
      | exact LeO.none _
      | refine LeO.ite ?_ ?_
      | refine LeO.bind ?_ (fun _ => ?_)
set_option maxHeartbeats 8000000 in
set_option maxRecDepth 100000 in
theorem sacristylaw05_StreamBack.calls (k : Nat) (A0 : Option Addr) (c0 : Nat) (l0 : List Int) (a1 : Int) (A2 : Option Addr) (c2 : Nat) (l2 : List Int) (A3 : Option Addr) (c3 : Nat) (l3 : List Int) (a4 : Int) (a5 : Int) (r : Bool) (w : World) (hr0 : Kd.C (Kd.int .u8) w A0 l0.length l0) (hc0 : l0.length ≤ c0) (hr2 : Kd.C (Kd.int .u8) w A2 l2.length l2) (hc2 : l2.length ≤ c2) (hr3 : Kd.C (Kd.int .u8) w A3 l3.length l3) (hc3 : l3.length ≤ c3) (h : sacristylaw05_StreamBack.f k l0 a1 l2 l3 a4 a5 = some r) :
    Calls Try.prog 5 #[.slice A0 l0.length c0, .int .u32 a1, .slice A2 l2.length c2, .slice A3 l3.length c3, .int .i64 a4, .int .u8 a5] w fun e w' => e = .returned (.bool r) ∧ Below w.heap.size w w' := by
  have HR0 := Aside0.mk hr0
  have HC0 := Aside0.mk hc0
  clear hr0 hc0
  have HR2 := Aside0.mk hr2
  have HC2 := Aside0.mk hc2
  clear hr2 hc2
  have HR3 := Aside0.mk hr3
  have HC3 := Aside0.mk hc3
  clear hr3 hc3
  have HB := Aside0.mk (Below.refl w.heap.size w)
  have H : ((sacristylaw05_lives.f k).bind fun t247 => (if t247 = true then (sacristylaw05_StreamBack.j0 k l0 a1 l2 l3 a4 a5 (decide ((l3.length : Int) > 3000))) else (sacristylaw05_StreamBack.j0 k l0 a1 l2 l3 a4 a5 true))) = some r := h
  clear h
  have HC7 := Aside0.mk H
  clear H
  go_enter Try.func5, Try.ntmps5
  go_upto_region 1 with (fail)
  go_cut [26] (fun v26 wc => ∃ (kq : Nat) (x26_6 : Bool), v26 = .bool x26_6 ∧ Aside0 (sacristylaw05_StreamBack.j0 kq l0 a1 l2 l3 a4 a5 x26_6 = some r) ∧ Aside0 (kq ≤ k) ∧ Aside0 (Below w.heap.size w wc))
  case first =>
    have H := HC7.out
    clear HC7
    replace H := Option.bind_eq_some_iff.mp H
    obtain ⟨t247, A80, H⟩ := H
    replace H : (if t247 = true then (sacristylaw05_StreamBack.j0 k l0 a1 l2 l3 a4 a5 (decide ((l3.length : Int) > 3000))) else (sacristylaw05_StreamBack.j0 k l0 a1 l2 l3 a4 a5 true)) = some r := H
    have A8 := Aside0.mk A80
    clear A80
    by_cases c9 : t247 = true
    · subst c9
      have H1 : (sacristylaw05_StreamBack.j0 k l0 a1 l2 l3 a4 a5 (decide ((l3.length : Int) > 3000))) = some r := by rw [if_pos rfl] at H; exact H
      clear H
      have H := H1
      clear H1
      have H' := Aside0.mk H
      clear H
      go_wp2_with (first | ((with_reducible refine gate_callee (f := 28) rfl ?_); refine goesL_ (some 20) rfl rfl Try.func28 (by kernel_rfl) rfl #[] rfl (by (try simp only [List.map_toArray, List.map_cons, List.map_nil]); first | done | rfl | (simp only [List.length_drop, List.length_take]; rfl)) ?_; (with_reducible refine (sacristylaw05_lives.calls k  true _ A8.out).mono ?_); rintro e w10 ⟨rfl, hb⟩; refine ⟨_, rfl, ?_⟩; have n0_ := Aside0.mk (below_step (by repeat (first | (with_reducible first | exact HB.out | apply below_alloc | apply pw_below_drewN | apply below_drew1) | exact HB.out)) hb); clear HB; have HB := n0_; clear n0_; (try clear hb); (try clear hb2); (try clear hk); (try clear hi)))
      go_meet
      case rel => exact ⟨_, (decide ((l3.length : Int) > 3000)), (by first | rfl | (simp; done) | (simp [*]; done)), H', ⟨by first | omega | exact Nat.le_refl _⟩, ⟨by repeat (first | (with_reducible first | exact HB.out | apply below_alloc | apply pw_below_drewN | apply below_drew1) | exact HB.out)⟩⟩
    · replace c9 := Bool.eq_false_iff.mpr c9
      subst c9
      have H1 : (sacristylaw05_StreamBack.j0 k l0 a1 l2 l3 a4 a5 true) = some r := by rw [if_neg (show ¬ (false = true) by decide)] at H; exact H
      clear H
      have H := H1
      clear H1
      have H' := Aside0.mk H
      clear H
      go_wp2_with (first | ((with_reducible refine gate_callee (f := 28) rfl ?_); refine goesL_ (some 20) rfl rfl Try.func28 (by kernel_rfl) rfl #[] rfl (by (try simp only [List.map_toArray, List.map_cons, List.map_nil]); first | done | rfl | (simp only [List.length_drop, List.length_take]; rfl)) ?_; (with_reducible refine (sacristylaw05_lives.calls k  false _ A8.out).mono ?_); rintro e w11 ⟨rfl, hb⟩; refine ⟨_, rfl, ?_⟩; have n0_ := Aside0.mk (below_step (by repeat (first | (with_reducible first | exact HB.out | apply below_alloc | apply pw_below_drewN | apply below_drew1) | exact HB.out)) hb); clear HB; have HB := n0_; clear n0_; (try clear hb); (try clear hb2); (try clear hk); (try clear hi)))
      go_meet
      case rel => exact ⟨_, (true), (by first | rfl | (simp; done) | (simp [*]; done)), H', ⟨by first | omega | exact Nat.le_refl _⟩, ⟨by repeat (first | (with_reducible first | exact HB.out | apply below_alloc | apply pw_below_drewN | apply below_drew1) | exact HB.out)⟩⟩
  case rest =>
    clear HC7
    try clear c2
    try clear p2
    try clear c3
    try clear c5
    try clear c9
    obtain ⟨kq, x26_6, rfl, HA, HJ6, HB⟩ := hcut
    cases kq with
    | zero => exact absurd HA.out (by simp [sacristylaw05_StreamBack.j0])
    | succ kj6 =>
      have H := HA.out
      clear HA
      simp only [sacristylaw05_StreamBack.j0] at H
      by_cases c12 : x26_6 = true
      · subst c12
        have H1 : ((sacristylaw05_lives.f kj6).bind fun t248 => (some t248)) = some r := by rw [if_pos rfl] at H; exact H
        clear H
        have H := H1
        clear H1
        replace H := Option.bind_eq_some_iff.mp H
        obtain ⟨t248, A130, H⟩ := H
        replace H : (some t248) = some r := H
        have A13 := Aside0.mk A130
        clear A130
        obtain rfl := Option.some.inj H
        go_wp2_with (first | ((with_reducible refine gate_callee (f := 28) rfl ?_); refine goesL_ (some 27) rfl rfl Try.func28 (by kernel_rfl) rfl #[] rfl (by (try simp only [List.map_toArray, List.map_cons, List.map_nil]); first | done | rfl | (simp only [List.length_drop, List.length_take]; rfl)) ?_; (with_reducible refine (sacristylaw05_lives.calls kj6  t248 _ A13.out).mono ?_); rintro e w14 ⟨rfl, hb⟩; refine ⟨_, rfl, ?_⟩; have n0_ := Aside0.mk (below_step (by repeat (first | (with_reducible first | exact HB.out | apply below_alloc | apply pw_below_drewN | apply below_drew1) | exact HB.out)) hb); clear HB; have HB := n0_; clear n0_; (try clear hb); (try clear hb2); (try clear hk); (try clear hi)))
        go_ret
        exact ⟨by first | rfl | (simp [errW_none, errW_some] <;> rfl) | (simp [*, errW_none, errW_some] <;> rfl), by repeat (first | (with_reducible first | exact HB.out | apply below_alloc | apply pw_below_drewN | apply below_drew1) | exact HB.out)⟩
      · replace c12 := Bool.eq_false_iff.mpr c12
        subst c12
        have H1 : ((stream_Xor.f kj6 l0 a1 l2 l3).bind fun bt249 => (if bt249.2 = 0 then ((stream_Xor.f kj6 l0 a1 l2 bt249.1).bind fun bt253 => (if bt253.2 = 0 then (if (strOfNums bt253.1).toList = (strOfNums l3).toList then (sacristylaw05_StreamBack.j1 kj6 l0 a1 l2 l3 a4 a5 bt249.1 ((bt249.1.length : Int) != (l3.length : Int))) else (sacristylaw05_StreamBack.j1 kj6 l0 a1 l2 l3 a4 a5 bt249.1 true)) else (sacristylaw05_StreamBack.j1 kj6 l0 a1 l2 l3 a4 a5 bt249.1 true))) else (if (l0.length : Int) = 32 then (some ((l2.length : Int) != 12)) else (some true)))) = some r := by rw [if_neg (show ¬ (false = true) by decide)] at H; exact H
        clear H
        have H := H1
        clear H1
        replace H := Option.bind_eq_some_iff.mp H
        obtain ⟨⟨t249, t250⟩, A150, H⟩ := H
        replace H : (if t250 = 0 then ((stream_Xor.f kj6 l0 a1 l2 t249).bind fun bt253 => (if bt253.2 = 0 then (if (strOfNums bt253.1).toList = (strOfNums l3).toList then (sacristylaw05_StreamBack.j1 kj6 l0 a1 l2 l3 a4 a5 t249 ((t249.length : Int) != (l3.length : Int))) else (sacristylaw05_StreamBack.j1 kj6 l0 a1 l2 l3 a4 a5 t249 true)) else (sacristylaw05_StreamBack.j1 kj6 l0 a1 l2 l3 a4 a5 t249 true))) else (if (l0.length : Int) = 32 then (some ((l2.length : Int) != 12)) else (some true))) = some r := H
        have A15 := Aside0.mk A150
        clear A150
        by_cases c16 : t250 = 0
        · rw [if_pos c16] at H
          have c16b0 : (t250 == 0) = true := beq_iff_eq.mpr c16
          have c16b1 : (t250 != 0) = false := bne_eq_false_iff_eq.mpr c16
          clear c16
          replace H := Option.bind_eq_some_iff.mp H
          obtain ⟨⟨t253, t254⟩, A170, H⟩ := H
          replace H : (if t254 = 0 then (if (strOfNums t253).toList = (strOfNums l3).toList then (sacristylaw05_StreamBack.j1 kj6 l0 a1 l2 l3 a4 a5 t249 ((t249.length : Int) != (l3.length : Int))) else (sacristylaw05_StreamBack.j1 kj6 l0 a1 l2 l3 a4 a5 t249 true)) else (sacristylaw05_StreamBack.j1 kj6 l0 a1 l2 l3 a4 a5 t249 true)) = some r := H
          have A17 := Aside0.mk A170
          clear A170
          have HC18 := Aside0.mk H
          clear H
          go_upto_region 7 with (first | ((with_reducible refine gate_callee (f := 32) rfl ?_); refine goesL_ (some 33) rfl rfl Try.func32 (by kernel_rfl) rfl #[.slice A0 l0.length c0, .int .u32 a1, .slice A2 l2.length c2, .slice A3 l3.length c3] rfl (by (try simp only [List.map_toArray, List.map_cons, List.map_nil]); first | done | rfl | (simp only [List.length_drop, List.length_take]; rfl)) ?_; (with_reducible refine (stream_Xor.calls kj6 _ _ l0 a1 _ _ l2 _ _ l3 t249 t250 _ ?side1 ?side2 ?side3 ?side4 ?side5 ?side6 A15.out).mono ?_); (case side1 => repeat (first | exact (Kd.C_below HR0.out HB.out) | (with_reducible refine Kd.C_alloc ?_ _) | (with_reducible refine Kd.C_drewN ?_ _) | (with_reducible refine Kd.C_drew ?_))); (case side2 => exact HC0.out); (case side3 => repeat (first | exact (Kd.C_below HR2.out HB.out) | (with_reducible refine Kd.C_alloc ?_ _) | (with_reducible refine Kd.C_drewN ?_ _) | (with_reducible refine Kd.C_drew ?_))); (case side4 => exact HC2.out); (case side5 => repeat (first | exact (Kd.C_below HR3.out HB.out) | (with_reducible refine Kd.C_alloc ?_ _) | (with_reducible refine Kd.C_drewN ?_ _) | (with_reducible refine Kd.C_drew ?_))); (case side6 => exact HC3.out); rintro e w19 ⟨v251, rfl, ho0, hb⟩; refine ⟨_, rfl, ?_⟩; have n0_ := Aside0.mk (Kd.R_lower ho0 (below_size (by repeat (first | (with_reducible first | exact HB.out | apply below_alloc | apply pw_below_drewN | apply below_drew1) | exact HB.out)))); have n1_ := Aside0.mk (below_step (by repeat (first | (with_reducible first | exact HB.out | apply below_alloc | apply pw_below_drewN | apply below_drew1) | exact HB.out)) hb); clear HB; have HO252 := n0_; have HB := n1_; clear n0_ n1_; (try clear hb); (try clear hb2); (try clear hk); (try clear hi); (try clear ho0); obtain ⟨Ao20, co20, eo20⟩ := Kd.R_slice HO252.out; subst eo20) | ((with_reducible refine gate_callee (f := 32) rfl ?_); refine goesL_ (some 51) rfl rfl Try.func32 (by kernel_rfl) rfl #[.slice A0 l0.length c0, .int .u32 a1, .slice A2 l2.length c2, .slice Ao20 t249.length co20] rfl (by (try simp only [List.map_toArray, List.map_cons, List.map_nil]); first | done | rfl | (simp only [List.length_drop, List.length_take]; rfl)) ?_; (with_reducible refine (stream_Xor.calls kj6 _ _ l0 a1 _ _ l2 _ _ t249 t253 t254 _ ?side1 ?side2 ?side3 ?side4 ?side5 ?side6 A17.out).mono ?_); (case side1 => repeat (first | exact (Kd.C_below HR0.out HB.out) | (with_reducible refine Kd.C_alloc ?_ _) | (with_reducible refine Kd.C_drewN ?_ _) | (with_reducible refine Kd.C_drew ?_))); (case side2 => exact HC0.out); (case side3 => repeat (first | exact (Kd.C_below HR2.out HB.out) | (with_reducible refine Kd.C_alloc ?_ _) | (with_reducible refine Kd.C_drewN ?_ _) | (with_reducible refine Kd.C_drew ?_))); (case side4 => exact HC2.out); (case side5 => repeat (first | exact (Kd.R_reads' HO252.out).2.2 | (with_reducible refine Kd.C_alloc ?_ _) | (with_reducible refine Kd.C_drewN ?_ _) | (with_reducible refine Kd.C_drew ?_))); (case side6 => exact (Kd.R_reads' HO252.out).2.1); rintro e w21 ⟨v255, rfl, ho0, hb⟩; refine ⟨_, rfl, ?_⟩; have n0_ := Aside0.mk (Kd.R_elder' (by (with_reducible repeat (first | apply Kd.R_alloc | apply Kd.R_drewN | apply Kd.R_drew)); exact HO252.out) (Kd.R_base ho0) hb); have n1_ := Aside0.mk (Kd.R_lower (Kd.R_new' ho0 (Kd.R_lt (by (with_reducible repeat (first | apply Kd.R_alloc | apply Kd.R_drewN | apply Kd.R_drew)); exact HO252.out))) (below_size (by repeat (first | (with_reducible first | exact HB.out | apply below_alloc | apply pw_below_drewN | apply below_drew1) | exact HB.out)))); have n2_ := Aside0.mk (below_step (by repeat (first | (with_reducible first | exact HB.out | apply below_alloc | apply pw_below_drewN | apply below_drew1) | exact HB.out)) hb); clear HO252; clear HB; have HO252 := n0_; have HO256 := n1_; have HB := n2_; clear n0_ n1_ n2_; (try clear hb); (try clear hb2); (try clear hk); (try clear hi); (try clear ho0)))
          (try simp only [Act.put, List.setIfInBounds_toArray, List.set_cons_zero, List.set_cons_succ])
          go_cut [69] (fun v69 wc => ∃ (kq : Nat) (x69_17 : Bool), v69 = .bool x69_17 ∧ Aside0 (sacristylaw05_StreamBack.j1 kq l0 a1 l2 l3 a4 a5 t249 x69_17 = some r) ∧ Aside0 (kq ≤ kj6) ∧ Aside0 (Kd.R (Kd.int .u8) 5 wc w.heap.size (fun _ => True) (.slice Ao20 t249.length co20) t249) ∧ Aside0 (Below w.heap.size w wc))
          case first =>
            have H := HC18.out
            clear HC18
            by_cases c22 : t254 = 0
            · rw [if_pos c22] at H
              have c22b0 : (t254 == 0) = true := beq_iff_eq.mpr c22
              have c22b1 : (t254 != 0) = false := bne_eq_false_iff_eq.mpr c22
              clear c22
              (first | rw [c22b0] | (simp only [i64_w, i32_w]; rw [c22b0]) | skip)
              by_cases c23 : (strOfNums t253).toList = (strOfNums l3).toList
              · rw [if_pos c23] at H
                have c23b0 : ((strOfNums t253).toList == (strOfNums l3).toList) = true := beq_iff_eq.mpr c23
                have c23b1 : ((strOfNums t253).toList != (strOfNums l3).toList) = false := bne_eq_false_iff_eq.mpr c23
                clear c23
                have H' := Aside0.mk H
                clear H
                have hcv24 := own_string (P := Try.prog) Try.underlying22 Try.underlying5 Try.underlying9 (Kd.own_of_R HO256.out)
                have hcv25 := Kd.C_string (P := Try.prog) (A := A3) (c := c3) Try.underlying22 Try.underlying5 Try.underlying9 (Kd.C_below HR3.out HB.out)
                go_wp2
                go_meet
                case rel => exact ⟨_, (((t249.length : Int) != (l3.length : Int))), (by first | rfl | (simp; done) | (simp [*]; done)), H', ⟨by have := HJ6.out; first | omega | exact Nat.le_refl _⟩, ⟨by (with_reducible repeat (first | apply Kd.R_alloc | apply Kd.R_drewN | apply Kd.R_drew)); exact Kd.R_mono HO252.out (fun _ hk => trivial)⟩, ⟨by repeat (first | (with_reducible first | exact HB.out | apply below_alloc | apply pw_below_drewN | apply below_drew1) | exact HB.out)⟩⟩
              · rw [if_neg c23] at H
                have c23b0 : ((strOfNums t253).toList == (strOfNums l3).toList) = false := beq_eq_false_iff_ne.mpr c23
                have c23b1 : ((strOfNums t253).toList != (strOfNums l3).toList) = true := bne_iff_ne.mpr c23
                have H' := Aside0.mk H
                clear H
                have hcv26 := own_string (P := Try.prog) Try.underlying22 Try.underlying5 Try.underlying9 (Kd.own_of_R HO256.out)
                have hcv27 := Kd.C_string (P := Try.prog) (A := A3) (c := c3) Try.underlying22 Try.underlying5 Try.underlying9 (Kd.C_below HR3.out HB.out)
                go_wp2
                go_meet
                case rel => exact ⟨_, (true), (by first | rfl | (simp; done) | (simp [*]; done)), H', ⟨by have := HJ6.out; first | omega | exact Nat.le_refl _⟩, ⟨by (with_reducible repeat (first | apply Kd.R_alloc | apply Kd.R_drewN | apply Kd.R_drew)); exact Kd.R_mono HO252.out (fun _ hk => trivial)⟩, ⟨by repeat (first | (with_reducible first | exact HB.out | apply below_alloc | apply pw_below_drewN | apply below_drew1) | exact HB.out)⟩⟩
            · rw [if_neg c22] at H
              have c22b0 : (t254 == 0) = false := beq_eq_false_iff_ne.mpr c22
              have c22b1 : (t254 != 0) = true := bne_iff_ne.mpr c22
              (first | rw [c22b0] | (simp only [i64_w, i32_w]; rw [c22b0]) | skip)
              have H' := Aside0.mk H
              clear H
              go_wp2
              go_meet
              case rel => exact ⟨_, (true), (by first | rfl | (simp; done) | (simp [*]; done)), H', ⟨by have := HJ6.out; first | omega | exact Nat.le_refl _⟩, ⟨by (with_reducible repeat (first | apply Kd.R_alloc | apply Kd.R_drewN | apply Kd.R_drew)); exact Kd.R_mono HO252.out (fun _ hk => trivial)⟩, ⟨by repeat (first | (with_reducible first | exact HB.out | apply below_alloc | apply pw_below_drewN | apply below_drew1) | exact HB.out)⟩⟩
          case rest =>
            clear HC18
            try clear c1
            try clear c2
            try clear p2
            try clear hcv2
            try clear c3
            try clear c5
            try clear c9
            try clear c12
            try clear c16
            try clear c16b0
            try clear c16b1
            try clear c22
            try clear c22b0
            try clear c22b1
            try clear c23
            try clear c23b0
            try clear c23b1
            try clear hcv24
            try clear hcv25
            try clear hcv26
            try clear hcv27
            try clear p2
            obtain ⟨kq, x69_17, rfl, HA, HJ17, HO_13, HB⟩ := hcut
            cases kq with
            | zero => exact absurd HA.out (by simp [sacristylaw05_StreamBack.j1])
            | succ kj17 =>
              have H := HA.out
              clear HA
              simp only [sacristylaw05_StreamBack.j1] at H
              by_cases c28 : x69_17 = true
              · subst c28
                have H1 : (none) = some r := by rw [if_pos rfl] at H; exact H
                clear H
                have H := H1
                clear H1
                exact absurd H (by simp)
              · replace c28 := Bool.eq_false_iff.mpr c28
                subst c28
                have H1 : (if (l3.length : Int) = 0 then (some true) else (if (IntKind.u64.wrap ((l3.length : Int))) = 0 then (none) else ((some (([] : List Int) : List Int)).bind fun y257 => (if y257.length + l3.length < 140737488355328 then ((some (y257 ++ l3 : List Int)).bind fun y260 => (if 0 ≤ (wrap64 (Int.tmod (IntKind.u64.wrap (a4)) (IntKind.u64.wrap ((l3.length : Int))))) then (if (wrap64 (Int.tmod (IntKind.u64.wrap (a4)) (IntKind.u64.wrap ((l3.length : Int))))) < (y260.length : Int) then ((stream_Xor.f kj17 l0 a1 l2 (y260.set ((wrap64 (Int.tmod (IntKind.u64.wrap (a4)) (IntKind.u64.wrap ((l3.length : Int))))) : Int).toNat (Go.bits .xor .u8 (rd y260 (wrap64 (Int.tmod (IntKind.u64.wrap (a4)) (IntKind.u64.wrap ((l3.length : Int)))))) a5))).bind fun bt265 => (if (wrap64 (Int.tmod (IntKind.u64.wrap (a4)) (IntKind.u64.wrap ((l3.length : Int))))) < (t249.length : Int) then (if bt265.2 = 0 then (some ((strOfNums bt265.1).toList == (strOfNums (t249.set ((wrap64 (Int.tmod (IntKind.u64.wrap (a4)) (IntKind.u64.wrap ((l3.length : Int))))) : Int).toNat (Go.bits .xor .u8 (rd t249 (wrap64 (Int.tmod (IntKind.u64.wrap (a4)) (IntKind.u64.wrap ((l3.length : Int)))))) a5))).toList)) else (none)) else (none))) else (none)) else (none))) else (none))))) = some r := by rw [if_neg (show ¬ (false = true) by decide)] at H; exact H
                clear H
                have H := H1
                clear H1
                by_cases c29 : (l3.length : Int) = 0
                · rw [if_pos c29] at H
                  have c29b0 : ((l3.length : Int) == 0) = true := beq_iff_eq.mpr c29
                  have c29b1 : ((l3.length : Int) != 0) = false := bne_eq_false_iff_eq.mpr c29
                  clear c29
                  obtain rfl := Option.some.inj H
                  go_wp2
                  go_ret
                  exact ⟨by first | rfl | (simp [errW_none, errW_some] <;> rfl) | (simp [*, errW_none, errW_some] <;> rfl), by repeat (first | (with_reducible first | exact HB.out | apply below_alloc | apply pw_below_drewN | apply below_drew1) | exact HB.out)⟩
                · rw [if_neg c29] at H
                  have c29b0 : ((l3.length : Int) == 0) = false := beq_eq_false_iff_ne.mpr c29
                  have c29b1 : ((l3.length : Int) != 0) = true := bne_iff_ne.mpr c29
                  have c29b2 : ¬ (l3 = []) := fun h_ => c29 (by rw [h_]; rfl)
                  by_cases c30 : (IntKind.u64.wrap ((l3.length : Int))) = 0
                  · rw [if_pos c30] at H
                    exact absurd H (by simp)
                  · rw [if_neg c30] at H
                    have c30b0 : ((IntKind.u64.wrap ((l3.length : Int))) == 0) = false := beq_eq_false_iff_ne.mpr c30
                    have c30b1 : ((IntKind.u64.wrap ((l3.length : Int))) != 0) = true := bne_iff_ne.mpr c30
                    obtain ⟨y257, hy257⟩ : ∃ y_ : List Int, y_ = (([] : List Int)) := ⟨_, rfl⟩
                    replace H : (if y257.length + l3.length < 140737488355328 then ((some (y257 ++ l3 : List Int)).bind fun y260 => (if 0 ≤ (wrap64 (Int.tmod (IntKind.u64.wrap (a4)) (IntKind.u64.wrap ((l3.length : Int))))) then (if (wrap64 (Int.tmod (IntKind.u64.wrap (a4)) (IntKind.u64.wrap ((l3.length : Int))))) < (y260.length : Int) then ((stream_Xor.f kj17 l0 a1 l2 (y260.set ((wrap64 (Int.tmod (IntKind.u64.wrap (a4)) (IntKind.u64.wrap ((l3.length : Int))))) : Int).toNat (Go.bits .xor .u8 (rd y260 (wrap64 (Int.tmod (IntKind.u64.wrap (a4)) (IntKind.u64.wrap ((l3.length : Int)))))) a5))).bind fun bt265 => (if (wrap64 (Int.tmod (IntKind.u64.wrap (a4)) (IntKind.u64.wrap ((l3.length : Int))))) < (t249.length : Int) then (if bt265.2 = 0 then (some ((strOfNums bt265.1).toList == (strOfNums (t249.set ((wrap64 (Int.tmod (IntKind.u64.wrap (a4)) (IntKind.u64.wrap ((l3.length : Int))))) : Int).toNat (Go.bits .xor .u8 (rd t249 (wrap64 (Int.tmod (IntKind.u64.wrap (a4)) (IntKind.u64.wrap ((l3.length : Int)))))) a5))).toList)) else (none)) else (none))) else (none)) else (none))) else (none)) = some r := by first | (rw [hy257]; with_reducible exact H) | (have H2_ := (Option.bind_some _ _).symm.trans H; rw [hy257]; with_reducible exact H2_) | (have H2_ := (Option.bind_some _ _).symm.trans H; with_reducible exact H2_) | with_reducible exact H | (rw [hy257]; exact H) | exact H
                    have Ny257 := Aside0.mk hy257
                    clear hy257
                    by_cases c31 : y257.length + l3.length < 140737488355328
                    · rw [if_pos c31] at H
                      have LMc31 := Aside0.mk c31
                      clear c31
                      obtain ⟨y260, hy260⟩ : ∃ y_ : List Int, y_ = (y257 ++ l3) := ⟨_, rfl⟩
                      replace H : (if 0 ≤ (wrap64 (Int.tmod (IntKind.u64.wrap (a4)) (IntKind.u64.wrap ((l3.length : Int))))) then (if (wrap64 (Int.tmod (IntKind.u64.wrap (a4)) (IntKind.u64.wrap ((l3.length : Int))))) < (y260.length : Int) then ((stream_Xor.f kj17 l0 a1 l2 (y260.set ((wrap64 (Int.tmod (IntKind.u64.wrap (a4)) (IntKind.u64.wrap ((l3.length : Int))))) : Int).toNat (Go.bits .xor .u8 (rd y260 (wrap64 (Int.tmod (IntKind.u64.wrap (a4)) (IntKind.u64.wrap ((l3.length : Int)))))) a5))).bind fun bt265 => (if (wrap64 (Int.tmod (IntKind.u64.wrap (a4)) (IntKind.u64.wrap ((l3.length : Int))))) < (t249.length : Int) then (if bt265.2 = 0 then (some ((strOfNums bt265.1).toList == (strOfNums (t249.set ((wrap64 (Int.tmod (IntKind.u64.wrap (a4)) (IntKind.u64.wrap ((l3.length : Int))))) : Int).toNat (Go.bits .xor .u8 (rd t249 (wrap64 (Int.tmod (IntKind.u64.wrap (a4)) (IntKind.u64.wrap ((l3.length : Int)))))) a5))).toList)) else (none)) else (none))) else (none)) else (none)) = some r := by first | (rw [hy260]; with_reducible exact H) | (have H2_ := (Option.bind_some _ _).symm.trans H; rw [hy260]; with_reducible exact H2_) | (have H2_ := (Option.bind_some _ _).symm.trans H; with_reducible exact H2_) | with_reducible exact H | (rw [hy260]; exact H) | exact H
                      have Ny260 := Aside0.mk hy260
                      clear hy260
                      obtain ⟨ji32, hji32⟩ : ∃ j_ : Int, (wrap64 (Int.tmod (IntKind.u64.wrap (a4)) (IntKind.u64.wrap ((l3.length : Int))))) = j_ := ⟨_, rfl⟩
                      replace H : (if 0 ≤ (ji32) then (if (ji32) < (y260.length : Int) then ((stream_Xor.f kj17 l0 a1 l2 (y260.set ((ji32) : Int).toNat (Go.bits .xor .u8 (rd y260 (ji32)) a5))).bind fun bt265 => (if (ji32) < (t249.length : Int) then (if bt265.2 = 0 then (some ((strOfNums bt265.1).toList == (strOfNums (t249.set ((ji32) : Int).toNat (Go.bits .xor .u8 (rd t249 (ji32)) a5))).toList)) else (none)) else (none))) else (none)) else (none)) = some r := by first | (rw [hji32] at H; exact H) | (simp only [hji32] at H ⊢; exact H)
                      have hji32w : (IntKind.i64.wrap (Int.tmod (IntKind.u64.wrap (a4)) (IntKind.u64.wrap ((l3.length : Int))))) = ji32 := (i64_w _).trans hji32
                      by_cases c33 : 0 ≤ (ji32)
                      · rw [if_pos c33] at H
                        have c33b0 : decide (0 ≤ (ji32)) = true := decide_eq_true c33
                        clear c33
                        by_cases c34 : (ji32) < (y260.length : Int)
                        · rw [if_pos c34] at H
                          have c34b0 : decide ((ji32) < (y260.length : Int)) = true := decide_eq_true c34
                          clear c34
                          obtain ⟨y264, hy264⟩ : ∃ y_ : List Int, y_ = (y260.set ((ji32) : Int).toNat (Go.bits .xor .u8 (rd y260 (ji32)) a5)) := ⟨_, rfl⟩
                          replace H : ((stream_Xor.f kj17 l0 a1 l2 y264).bind fun bt265 => (if (ji32) < (t249.length : Int) then (if bt265.2 = 0 then (some ((strOfNums bt265.1).toList == (strOfNums (t249.set ((ji32) : Int).toNat (Go.bits .xor .u8 (rd t249 (ji32)) a5))).toList)) else (none)) else (none))) = some r := by first | (rw [hy264]; with_reducible exact H) | (have H2_ := (Option.bind_some _ _).symm.trans H; rw [hy264]; with_reducible exact H2_) | (have H2_ := (Option.bind_some _ _).symm.trans H; with_reducible exact H2_) | with_reducible exact H | (rw [hy264]; exact H) | exact H
                          have Ny264 := Aside0.mk hy264
                          clear hy264
                          replace H := Option.bind_eq_some_iff.mp H
                          obtain ⟨⟨t265, t266⟩, A360, H⟩ := H
                          replace H : (if (ji32) < (t249.length : Int) then (if t266 = 0 then (some ((strOfNums t265).toList == (strOfNums (t249.set ((ji32) : Int).toNat (Go.bits .xor .u8 (rd t249 (ji32)) a5))).toList)) else (none)) else (none)) = some r := H
                          have A36 := Aside0.mk A360
                          clear A360
                          by_cases c37 : (ji32) < (t249.length : Int)
                          · rw [if_pos c37] at H
                            have c37b0 : decide ((ji32) < (t249.length : Int)) = true := decide_eq_true c37
                            clear c37
                            obtain ⟨y270, hy270⟩ : ∃ y_ : List Int, y_ = (t249.set ((ji32) : Int).toNat (Go.bits .xor .u8 (rd t249 (ji32)) a5)) := ⟨_, rfl⟩
                            replace H : (if t266 = 0 then (some ((strOfNums t265).toList == (strOfNums y270).toList)) else (none)) = some r := by first | (rw [hy270]; with_reducible exact H) | (have H2_ := (Option.bind_some _ _).symm.trans H; rw [hy270]; with_reducible exact H2_) | (have H2_ := (Option.bind_some _ _).symm.trans H; with_reducible exact H2_) | with_reducible exact H | (rw [hy270]; exact H) | exact H
                            have Ny270 := Aside0.mk hy270
                            clear hy270
                            by_cases c39 : t266 = 0
                            · rw [if_pos c39] at H
                              have c39b0 : (t266 == 0) = true := beq_iff_eq.mpr c39
                              have c39b1 : (t266 != 0) = false := bne_eq_false_iff_eq.mpr c39
                              clear c39
                              obtain rfl := Option.some.inj H
                              go_wp2_with (first | ((with_reducible refine gate_dst (N := 80) rfl ?_); (try (refine gate_guard (by rfl) ?_; dsimp only)); refine Kd.R_lit (Kd.int .u8) _ 5 ?hg (N := 80) ?hd (xs := ([] : List Int)) (inner := []) (ok := fun _ => True) (okp := fun _ => True) ?hr ?hp (fun _ hk => hk) trivial (Below.refl _ _) (Nat.le_refl _) (by simp) ?_; (case hd => rfl); (case hg => rfl); (case hr => first | (go_simp; done) | (go_simp; rfl)); (case hp => exact (Reps.none _ _)); intro v258 w40 ho41 hb hg_ hnew_; clear hg_ hnew_; (first | rw [← Ny257.out] at ho41 | (simp only [Int.reduceToNat] at ho41; rw [← Ny257.out] at ho41)); have n0_ := Aside0.mk (Kd.R_elder' (by (with_reducible repeat (first | apply Kd.R_alloc | apply Kd.R_drewN | apply Kd.R_drew)); exact HO_13.out) (Kd.R_base ho41) hb); have n1_ := Aside0.mk (Kd.R_lower (Kd.R_new' ho41 (Kd.R_lt (by (with_reducible repeat (first | apply Kd.R_alloc | apply Kd.R_drewN | apply Kd.R_drew)); exact HO_13.out))) (below_size (by repeat (first | (with_reducible first | exact HB.out | apply below_alloc | apply pw_below_drewN | apply below_drew1) | exact HB.out)))); have n2_ := Aside0.mk (below_step (by repeat (first | (with_reducible first | exact HB.out | apply below_alloc | apply pw_below_drewN | apply below_drew1) | exact HB.out)) hb); clear HO_13; clear HB; have HO_13 := n0_; have HO259 := n1_; have HB := n2_; clear n0_ n1_ n2_; clear hb ho41) | ((with_reducible refine gate_builtin (b := .append) (xs := #[.tmp 80, .tmp 81]) rfl ?_); (try (refine gate_guard (by rfl) ?_; dsimp only)); at_builtin; refine Kd.R_append_rows (Kd.int .u8) (w0 := w) w.heap.size rfl (.tmp 80) (.tmp 81) 22 5 (.int .u8 0) 1 rfl Try.underlying22 info5 rfl (by decide) (by omega) v258 y257 l3 _ _ _ (fun k_ => some k_ ≠ (.slice Ao20 t249.length co20 : Value).ownBlock) (fun _ => False) rfl rfl ?aO ?aR (fun _ _ h => h) (fun _ h => h.elim) ?aF ?aB ?aS ?aL ?_; (case aR => repeat (first | exact (Kd.C_below HR3.out HB.out) | (with_reducible refine Kd.C_alloc ?_ _) | (with_reducible refine Kd.C_drewN ?_ _) | (with_reducible refine Kd.C_drew ?_))); (case aB => exact (by repeat (first | (with_reducible first | exact HB.out | apply below_alloc | apply pw_below_drewN | apply below_drew1) | exact HB.out))); (case aF => exact (fun k_ hk => Kd.fresh' (Kd.R_lt (by (with_reducible repeat (first | apply Kd.R_alloc | apply Kd.R_drewN | apply Kd.R_drew)); exact HO_13.out)) k_ hk)); (case aO => exact (by (with_reducible repeat (first | apply Kd.R_alloc | apply Kd.R_drewN | apply Kd.R_drew)); exact Kd.R_mono HO259.out (fun _ hk => hk.2))); (case aS => exact (below_size (by repeat (first | (with_reducible first | exact HB.out | apply below_alloc | apply pw_below_drewN | apply below_drew1) | exact HB.out)))); (case aL => have := LMc31.out; omega); intro v261 w42 ho hb hg hat; rw [← Ny260.out] at ho; have n0_ := Aside0.mk (Kd.R_after (ok := (fun _ => True)) (by (with_reducible repeat (first | apply Kd.R_alloc | apply Kd.R_drewN | apply Kd.R_drew)); exact HO_13.out) hg hat); have n1_ := Aside0.mk (hb); have n2_ := Aside0.mk (ho); clear HO_13; clear HB; clear HO259; have HO_13 := n0_; have HB := n1_; have HO262 := n2_; clear n0_ n1_ n2_; clear ho hb hg hat; obtain ⟨Ao43, co43, eo43⟩ := Kd.R_slice HO262.out; subst eo43; have p263 : 0 ≤ ((ji32) : Int) := of_decide_eq_true (by first | (with_reducible assumption) | assumption); have q263 : (ji32) < (y260.length : Int) := of_decide_eq_true (by first | (with_reducible assumption) | assumption); obtain ⟨ad263, e263, hx263_0⟩ := Kd.at_int (Kd.R_reads' HO262.out).2.2 (ji32) p263 q263; cases e263; replace p263 := eq_true p263; replace q263 := eq_true q263; have p35 : 0 ≤ ((ji32) : Int) := of_decide_eq_true (by first | (with_reducible assumption) | assumption); have q35 : ((ji32) : Int) < ((y260.length : Int) : Int) := of_decide_eq_true (by first | (with_reducible assumption) | assumption); obtain ⟨go35, co35, eo35, gb35, gl35, cl35, HG35⟩ := Kd.R_form HO262.out (by omega); (first | cases eo35 | (injection eo35 with ea_ en_ ec_; (first | subst ea_ | (injection ea_ with ea_; subst ea_)); subst ec_; clear en_)); have GB35 := Aside0.mk gb35; have GG35 := Aside0.mk HG35; clear gb35 gl35 HG35; (first | simp only [add_plain] at hx263_0 | skip); obtain ⟨hx35_0, hf35_0⟩ := Kd.R_celln 0 HO262.out ((ji32) : Int) p35 q35; replace p35 := eq_true p35; replace q35 := eq_true q35; obtain ⟨hy44_, hz44_⟩ := Kd.R_celln 0 HO262.out ((ji32) : Int) (of_decide_eq_true (by first | (with_reducible assumption) | assumption)) (of_decide_eq_true (by first | (with_reducible assumption) | assumption)); have HP44 := Kd.R_putg HO262.out ((ji32) : Int) (Go.bits .xor .u8 (rd y260 (ji32)) a5)) | ((with_reducible refine gate_store (t := 5) (p := 89) rfl ?_); refine store_event (t := 5) (p := 89) (v := ?vo_w45) (w1 := (w42.setCell ⟨go35, ((ji32) : Int).toNat, none⟩ (.int .u8 (Go.bits .xor .u8 (rd y260 (ji32)) a5)))) ?hg ?ho ?hn ?hr ?_; (case ho => rfl); (case hg => rfl); (case hn => rfl); (case hr => first | (go_simp; done) | (go_simp; rfl)); intro w45 hw; have hg : w42.grownBy w45 (some go35) := (by rw [hw]; exact HP44.2); have hp_ : Kd.R (Kd.int .u8) 5 w45 w.heap.size (fun k_ => some k_ ≠ (.slice Ao20 t249.length co20 : Value).ownBlock) (.slice (some ⟨go35, 0, none⟩) y260.length co43) y264 := (by rw [hw, Ny264.out]; exact HP44.1); clear HP44; have n0_ := Aside0.mk (Kd.R_after (v := (.slice (some ⟨go35, 0, none⟩) y260.length co43)) (v1 := (.slice (some ⟨go35, 0, none⟩) y260.length co43)) (ok := (fun _ => True)) (by (with_reducible repeat (first | apply Kd.R_alloc | apply Kd.R_drewN | apply Kd.R_drew)); exact HO_13.out) hg (.inl rfl)); have n1_ := Aside0.mk (hp_); have n2_ := Aside0.mk ((by rw [hw]; exact below_set (HB.out) GB35.out : Below w.heap.size w w45)); clear HO_13; clear HO262; clear HB; have HO_13 := n0_; have HO262 := n1_; have HB := n2_; clear n0_ n1_ n2_; clear hg hw hp_) | ((with_reducible refine gate_callee (f := 32) rfl ?_); refine goesL_ (some 95) rfl rfl Try.func32 (by kernel_rfl) rfl #[.slice A0 l0.length c0, .int .u32 a1, .slice A2 l2.length c2, .slice (some ⟨go35, 0, none⟩) y264.length co43] rfl (by (try simp only [List.map_toArray, List.map_cons, List.map_nil]); first | done | (rw [show y264.length = y260.length from (Kd.R_reads' HO262.out).1.symm] <;> rfl) | rfl | (simp only [List.length_drop, List.length_take]; rfl)) ?_; (with_reducible refine (stream_Xor.calls kj17 _ _ l0 a1 _ _ l2 _ _ y264 t265 t266 _ ?side1 ?side2 ?side3 ?side4 ?side5 ?side6 A36.out).mono ?_); (case side1 => repeat (first | exact (Kd.C_below HR0.out HB.out) | (with_reducible refine Kd.C_alloc ?_ _) | (with_reducible refine Kd.C_drewN ?_ _) | (with_reducible refine Kd.C_drew ?_))); (case side2 => exact HC0.out); (case side3 => repeat (first | exact (Kd.C_below HR2.out HB.out) | (with_reducible refine Kd.C_alloc ?_ _) | (with_reducible refine Kd.C_drewN ?_ _) | (with_reducible refine Kd.C_drew ?_))); (case side4 => exact HC2.out); (case side5 => repeat (first | exact (Kd.R_reads' HO262.out).2.2 | (with_reducible refine Kd.C_alloc ?_ _) | (with_reducible refine Kd.C_drewN ?_ _) | (with_reducible refine Kd.C_drew ?_))); (case side6 => rw [show y264.length = y260.length from (Kd.R_reads' HO262.out).1.symm]; exact (Kd.R_reads' HO262.out).2.1); rintro e w46 ⟨v267, rfl, ho0, hb⟩; refine ⟨_, rfl, ?_⟩; have n0_ := Aside0.mk (Kd.R_elder' (by (with_reducible repeat (first | apply Kd.R_alloc | apply Kd.R_drewN | apply Kd.R_drew)); exact HO_13.out) (Kd.R_base ho0) hb); have n1_ := Aside0.mk (Kd.R_elder' (by (with_reducible repeat (first | apply Kd.R_alloc | apply Kd.R_drewN | apply Kd.R_drew)); exact HO262.out) (Kd.R_base ho0) hb); have n2_ := Aside0.mk (Kd.R_lower (Kd.R_new' (Kd.R_new' ho0 (Kd.R_lt (by (with_reducible repeat (first | apply Kd.R_alloc | apply Kd.R_drewN | apply Kd.R_drew)); exact HO_13.out))) (Kd.R_lt (by (with_reducible repeat (first | apply Kd.R_alloc | apply Kd.R_drewN | apply Kd.R_drew)); exact HO262.out))) (below_size (by repeat (first | (with_reducible first | exact HB.out | apply below_alloc | apply pw_below_drewN | apply below_drew1) | exact HB.out)))); have n3_ := Aside0.mk (below_step (by repeat (first | (with_reducible first | exact HB.out | apply below_alloc | apply pw_below_drewN | apply below_drew1) | exact HB.out)) hb); clear HO_13; clear HO262; clear HB; have HO_13 := n0_; have HO262 := n1_; have HO268 := n2_; have HB := n3_; clear n0_ n1_ n2_ n3_; (try clear hb); (try clear hb2); (try clear hk); (try clear hi); (try clear ho0); have p269 : 0 ≤ ((ji32) : Int) := of_decide_eq_true (by first | (with_reducible assumption) | assumption); have q269 : (ji32) < (t249.length : Int) := of_decide_eq_true (by first | (with_reducible assumption) | assumption); obtain ⟨ad269, e269, hx269_0⟩ := Kd.at_int (Kd.R_reads' HO_13.out).2.2 (ji32) p269 q269; cases e269; replace p269 := eq_true p269; replace q269 := eq_true q269; have p38 : 0 ≤ ((ji32) : Int) := of_decide_eq_true (by first | (with_reducible assumption) | assumption); have q38 : ((ji32) : Int) < ((t249.length : Int) : Int) := of_decide_eq_true (by first | (with_reducible assumption) | assumption); obtain ⟨go38, co38, eo38, gb38, gl38, cl38, HG38⟩ := Kd.R_form HO_13.out (by omega); (first | cases eo38 | (injection eo38 with ea_ en_ ec_; (first | subst ea_ | (injection ea_ with ea_; subst ea_)); subst ec_; clear en_)); have GB38 := Aside0.mk gb38; have GG38 := Aside0.mk HG38; clear gb38 gl38 HG38; (first | simp only [add_plain] at hx269_0 | skip); obtain ⟨hx38_0, hf38_0⟩ := Kd.R_celln 0 HO_13.out ((ji32) : Int) p38 q38; replace p38 := eq_true p38; replace q38 := eq_true q38; have n_ := Aside0.mk (Kd.R_mono (ok' := (fun k_ => some k_ ≠ (.slice (some ⟨go35, 0, none⟩) y260.length co43 : Value).ownBlock ∧ some k_ ≠ (v267 : Value).ownBlock)) HO_13.out (fun k_ hk => ⟨hk.1.2, hk.2⟩)); clear HO_13; have HO_13 := n_; clear n_; obtain ⟨hy47_, hz47_⟩ := Kd.R_celln 0 HO_13.out ((ji32) : Int) (of_decide_eq_true (by first | (with_reducible assumption) | assumption)) (of_decide_eq_true (by first | (with_reducible assumption) | assumption)); have HP47 := Kd.R_putg HO_13.out ((ji32) : Int) (Go.bits .xor .u8 (rd t249 (ji32)) a5)) | ((with_reducible refine gate_store (t := 5) (p := 104) rfl ?_); refine store_event (t := 5) (p := 104) (v := ?vo_w48) (w1 := (w46.setCell ⟨go38, ((ji32) : Int).toNat, none⟩ (.int .u8 (Go.bits .xor .u8 (rd t249 (ji32)) a5)))) ?hg ?ho ?hn ?hr ?_; (case ho => rfl); (case hg => rfl); (case hn => rfl); (case hr => first | (go_simp; done) | (go_simp; rfl)); intro w48 hw; have hg : w46.grownBy w48 (some go38) := (by rw [hw]; exact HP47.2); have hp_ : Kd.R (Kd.int .u8) 5 w48 w.heap.size (fun k_ => some k_ ≠ (.slice (some ⟨go35, 0, none⟩) y260.length co43 : Value).ownBlock ∧ some k_ ≠ (v267 : Value).ownBlock) (.slice (some ⟨go38, 0, none⟩) t249.length co20) y270 := (by rw [hw, Ny270.out]; exact HP47.1); clear HP47; have n0_ := Aside0.mk (hp_); have n1_ := Aside0.mk (Kd.R_after (v := (.slice (some ⟨go38, 0, none⟩) t249.length co20)) (v1 := (.slice (some ⟨go38, 0, none⟩) t249.length co20)) (ok := (fun k_ => some k_ ≠ (v267 : Value).ownBlock)) (by (with_reducible repeat (first | apply Kd.R_alloc | apply Kd.R_drewN | apply Kd.R_drew)); exact Kd.R_mono HO262.out (fun _ hk => ⟨hk.2, hk.1⟩)) hg (.inl rfl)); have n2_ := Aside0.mk (Kd.R_after (v := (.slice (some ⟨go38, 0, none⟩) t249.length co20)) (v1 := (.slice (some ⟨go38, 0, none⟩) t249.length co20)) (ok := (fun k_ => some k_ ≠ (.slice (some ⟨go35, 0, none⟩) y260.length co43 : Value).ownBlock)) (by (with_reducible repeat (first | apply Kd.R_alloc | apply Kd.R_drewN | apply Kd.R_drew)); exact Kd.R_mono HO268.out (fun _ hk => ⟨hk.2, hk.1.2⟩)) hg (.inl rfl)); have n3_ := Aside0.mk ((by rw [hw]; exact below_set (HB.out) GB38.out : Below w.heap.size w w48)); clear HO_13; clear HO262; clear HO268; clear HB; have HO_13 := n0_; have HO262 := n1_; have HO268 := n2_; have HB := n3_; clear n0_ n1_ n2_ n3_; clear hg hw hp_; have hcv49 := own_string (P := Try.prog) Try.underlying22 Try.underlying5 Try.underlying9 (Kd.own_of_R HO268.out); have hcv50 := own_string (P := Try.prog) Try.underlying22 Try.underlying5 Try.underlying9 (Kd.own_of_R HO_13.out)))
                              go_ret
                              exact ⟨by first | rfl | (simp [errW_none, errW_some] <;> rfl) | (simp only [← hji32]; first | rfl | (simp [errW_none, errW_some] <;> rfl)) | (simp [*, errW_none, errW_some] <;> rfl), by repeat (first | (with_reducible first | exact HB.out | apply below_alloc | apply pw_below_drewN | apply below_drew1) | exact HB.out)⟩
                            · rw [if_neg c39] at H
                              exact absurd H (by simp)
                          · rw [if_neg c37] at H
                            exact absurd H (by simp)
                        · rw [if_neg c34] at H
                          exact absurd H (by simp)
                      · rw [if_neg c33] at H
                        exact absurd H (by simp)
                    · rw [if_neg c31] at H
                      exact absurd H (by simp)
        · rw [if_neg c16] at H
          have c16b0 : (t250 == 0) = false := beq_eq_false_iff_ne.mpr c16
          have c16b1 : (t250 != 0) = true := bne_iff_ne.mpr c16
          by_cases c51 : (l0.length : Int) = 32
          · rw [if_pos c51] at H
            have c51b0 : ((l0.length : Int) == 32) = true := beq_iff_eq.mpr c51
            have c51b1 : ((l0.length : Int) != 32) = false := bne_eq_false_iff_eq.mpr c51
            clear c51
            obtain rfl := Option.some.inj H
            go_wp2_with (first | ((with_reducible refine gate_callee (f := 32) rfl ?_); refine goesL_ (some 33) rfl rfl Try.func32 (by kernel_rfl) rfl #[.slice A0 l0.length c0, .int .u32 a1, .slice A2 l2.length c2, .slice A3 l3.length c3] rfl (by (try simp only [List.map_toArray, List.map_cons, List.map_nil]); first | done | rfl | (simp only [List.length_drop, List.length_take]; rfl)) ?_; (with_reducible refine (stream_Xor.calls kj6 _ _ l0 a1 _ _ l2 _ _ l3 t249 t250 _ ?side1 ?side2 ?side3 ?side4 ?side5 ?side6 A15.out).mono ?_); (case side1 => repeat (first | exact (Kd.C_below HR0.out HB.out) | (with_reducible refine Kd.C_alloc ?_ _) | (with_reducible refine Kd.C_drewN ?_ _) | (with_reducible refine Kd.C_drew ?_))); (case side2 => exact HC0.out); (case side3 => repeat (first | exact (Kd.C_below HR2.out HB.out) | (with_reducible refine Kd.C_alloc ?_ _) | (with_reducible refine Kd.C_drewN ?_ _) | (with_reducible refine Kd.C_drew ?_))); (case side4 => exact HC2.out); (case side5 => repeat (first | exact (Kd.C_below HR3.out HB.out) | (with_reducible refine Kd.C_alloc ?_ _) | (with_reducible refine Kd.C_drewN ?_ _) | (with_reducible refine Kd.C_drew ?_))); (case side6 => exact HC3.out); rintro e w52 ⟨v251, rfl, ho0, hb⟩; refine ⟨_, rfl, ?_⟩; have n0_ := Aside0.mk (Kd.R_lower ho0 (below_size (by repeat (first | (with_reducible first | exact HB.out | apply below_alloc | apply pw_below_drewN | apply below_drew1) | exact HB.out)))); have n1_ := Aside0.mk (below_step (by repeat (first | (with_reducible first | exact HB.out | apply below_alloc | apply pw_below_drewN | apply below_drew1) | exact HB.out)) hb); clear HB; have HO252 := n0_; have HB := n1_; clear n0_ n1_; (try clear hb); (try clear hb2); (try clear hk); (try clear hi); (try clear ho0)))
            go_ret
            exact ⟨by first | rfl | (simp [errW_none, errW_some] <;> rfl) | (simp [*, errW_none, errW_some] <;> rfl), by repeat (first | (with_reducible first | exact HB.out | apply below_alloc | apply pw_below_drewN | apply below_drew1) | exact HB.out)⟩
          · rw [if_neg c51] at H
            have c51b0 : ((l0.length : Int) == 32) = false := beq_eq_false_iff_ne.mpr c51
            have c51b1 : ((l0.length : Int) != 32) = true := bne_iff_ne.mpr c51
            obtain rfl := Option.some.inj H
            go_wp2_with (first | ((with_reducible refine gate_callee (f := 32) rfl ?_); refine goesL_ (some 33) rfl rfl Try.func32 (by kernel_rfl) rfl #[.slice A0 l0.length c0, .int .u32 a1, .slice A2 l2.length c2, .slice A3 l3.length c3] rfl (by (try simp only [List.map_toArray, List.map_cons, List.map_nil]); first | done | rfl | (simp only [List.length_drop, List.length_take]; rfl)) ?_; (with_reducible refine (stream_Xor.calls kj6 _ _ l0 a1 _ _ l2 _ _ l3 t249 t250 _ ?side1 ?side2 ?side3 ?side4 ?side5 ?side6 A15.out).mono ?_); (case side1 => repeat (first | exact (Kd.C_below HR0.out HB.out) | (with_reducible refine Kd.C_alloc ?_ _) | (with_reducible refine Kd.C_drewN ?_ _) | (with_reducible refine Kd.C_drew ?_))); (case side2 => exact HC0.out); (case side3 => repeat (first | exact (Kd.C_below HR2.out HB.out) | (with_reducible refine Kd.C_alloc ?_ _) | (with_reducible refine Kd.C_drewN ?_ _) | (with_reducible refine Kd.C_drew ?_))); (case side4 => exact HC2.out); (case side5 => repeat (first | exact (Kd.C_below HR3.out HB.out) | (with_reducible refine Kd.C_alloc ?_ _) | (with_reducible refine Kd.C_drewN ?_ _) | (with_reducible refine Kd.C_drew ?_))); (case side6 => exact HC3.out); rintro e w53 ⟨v251, rfl, ho0, hb⟩; refine ⟨_, rfl, ?_⟩; have n0_ := Aside0.mk (Kd.R_lower ho0 (below_size (by repeat (first | (with_reducible first | exact HB.out | apply below_alloc | apply pw_below_drewN | apply below_drew1) | exact HB.out)))); have n1_ := Aside0.mk (below_step (by repeat (first | (with_reducible first | exact HB.out | apply below_alloc | apply pw_below_drewN | apply below_drew1) | exact HB.out)) hb); clear HB; have HO252 := n0_; have HB := n1_; clear n0_ n1_; (try clear hb); (try clear hb2); (try clear hk); (try clear hi); (try clear ho0)))
            go_ret
            exact ⟨by first | rfl | (simp [errW_none, errW_some] <;> rfl) | (simp [*, errW_none, errW_some] <;> rfl), by repeat (first | (with_reducible first | exact HB.out | apply below_alloc | apply pw_below_drewN | apply below_drew1) | exact HB.out)⟩

/-- THE ONE PURE STATEMENT of sacristylaw05_StreamBack: yours. -/
def sacristylaw05_StreamBack.Pure : Prop := ∀ (l0 : List Int) (a1 : Int) (l2 : List Int) (l3 : List Int) (a4 : Int) (a5 : Int), l0.length ≤ maxLen → l0.length * 1 ≤ 140737488351232 → (∀ x ∈ l0, (Lit.int .u8 x).wf = true) → (Lit.int .u32 a1).wf = true → l2.length ≤ maxLen → l2.length * 1 ≤ 140737488351232 → (∀ x ∈ l2, (Lit.int .u8 x).wf = true) → l3.length ≤ maxLen → l3.length * 1 ≤ 140737488351232 → (∀ x ∈ l3, (Lit.int .u8 x).wf = true) → (Lit.int .i64 a4).wf = true → (Lit.int .u8 a5).wf = true → ∃ k, sacristylaw05_StreamBack.f k l0 a1 l2 l3 a4 a5 = some true
theorem sacristylaw05_StreamBack.walk (P : sacristylaw05_StreamBack.Pure) (a0 : Option Addr) (len0 cap0 : Nat) (z0 : List Int) (a1 : Int) (a2 : Option Addr) (len2 cap2 : Nat) (z2 : List Int) (a3 : Option Addr) (len3 cap3 : Nat) (z3 : List Int) (a4 : Int) (a5 : Int) (w : World) (w0 : (a0 = none ∧ len0 = 0 ∧ cap0 = 0 ∧ z0 = []) ∨ ∃ x, a0 = some x ∧ len0 ≤ cap0 ∧ cap0 ≤ maxLen ∧ z0.length = cap0 ∧ (∀ i, i < z0.length → w.cell? (x.add i) = some (.int .u8 (z0.getD i 0))) ∧ ∀ n ∈ z0, (Lit.int .u8 n).wf = true) (y0 : len0 * 1 ≤ 140737488351232) (w1 : (Lit.int .u32 a1).wf = true) (w2 : (a2 = none ∧ len2 = 0 ∧ cap2 = 0 ∧ z2 = []) ∨ ∃ x, a2 = some x ∧ len2 ≤ cap2 ∧ cap2 ≤ maxLen ∧ z2.length = cap2 ∧ (∀ i, i < z2.length → w.cell? (x.add i) = some (.int .u8 (z2.getD i 0))) ∧ ∀ n ∈ z2, (Lit.int .u8 n).wf = true) (y2 : len2 * 1 ≤ 140737488351232) (w3 : (a3 = none ∧ len3 = 0 ∧ cap3 = 0 ∧ z3 = []) ∨ ∃ x, a3 = some x ∧ len3 ≤ cap3 ∧ cap3 ≤ maxLen ∧ z3.length = cap3 ∧ (∀ i, i < z3.length → w.cell? (x.add i) = some (.int .u8 (z3.getD i 0))) ∧ ∀ n ∈ z3, (Lit.int .u8 n).wf = true) (y3 : len3 * 1 ≤ 140737488351232) (w4 : (Lit.int .i64 a4).wf = true) (w5 : (Lit.int .u8 a5).wf = true) :
    Calls Try.prog 5 #[.slice a0 len0 cap0, .int .u32 a1, .slice a2 len2 cap2, .slice a3 len3 cap3, .int .i64 a4, .int .u8 a5] w fun e w' => e = .returned (.bool true) ∧ Below w.heap.size w w' := by
  obtain ⟨l0, rfl, hr0, hm0, hw0, hc0⟩ := ReadsInt.ofRowC w0
  obtain ⟨l2, rfl, hr2, hm2, hw2, hc2⟩ := ReadsInt.ofRowC w2
  obtain ⟨l3, rfl, hr3, hm3, hw3, hc3⟩ := ReadsInt.ofRowC w3
  obtain ⟨k, h⟩ := P l0 a1 l2 l3 a4 a5 hm0 y0 hw0 w1 hm2 y2 hw2 hm3 y3 hw3 w4 w5
  refine (sacristylaw05_StreamBack.calls k _ _ l0 a1 _ _ l2 _ _ l3 a4 a5 true w (Kd.C_of_reads (d := (0 : Int)) (h1 := fun _ => rfl) hr0) hc0 (Kd.C_of_reads (d := (0 : Int)) (h1 := fun _ => rfl) hr2) hc2 (Kd.C_of_reads (d := (0 : Int)) (h1 := fun _ => rfl) hr3) hc3 h).mono ?_
  rintro e w' ⟨rfl, hd⟩
  exact ⟨rfl, hd⟩

end Go.Proofs.Yteejcpbngnojkaa.P
