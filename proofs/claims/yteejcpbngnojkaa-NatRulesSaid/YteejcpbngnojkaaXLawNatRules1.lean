/- Part of the proof: the walks and the plain arithmetic, in line (wip/tools/pack.py). -/
import Derived.Test.YteejcpbngnojkaaXLawNatRules0
section
namespace Go.Proofs.Yteejcpbngnojkaa.P
open Go.RowKit Go.Proofs.YteejcpbngnojkaaW.PrintWords Go.Proofs.YteejcpbngnojkaaW.PrintLast Go.Proofs.YteejcpbngnojkaaW.PrintMore
attribute [local go_sem] max2_int min2_int max_two min_two max_three min_three max_four min_four
set_option linter.unusedVariables false
set_option linter.unusedSimpArgs false
def nat_shift.l0 : Nat → Int → List Int → List Int → Int → Int → Option (List Int)
 |0,_,_,_,_,_ => none
 |k + 1,x1,x5,x13,x14,x15 => if x15 < x14 then (if 0 ≤ x15 then (if x15 < (x13.length : Int) then (if 0 ≤ x1 then (if x15 < (x5.length : Int) then (if 0 ≤ (wrap64 (x15 + 1)) then (if (wrap64 (x15 + 1)) < (x5.length : Int) then (nat_shift.l0 k x1 ((x5.set (x15 : Int).toNat (Go.bits .or .u32 (rd x5 x15) ((shl .u64 (IntKind.u64.wrap (rd x13 x15)) x1) % 4294967296))).set ((wrap64 (x15 + 1)) : Int).toNat (((shl .u64 (IntKind.u64.wrap (rd x13 x15)) x1) / 4294967296) % 4294967296)) x13 x14 (wrap64 (x15 + 1))) else (none)) else (none)) else (none)) else (none)) else (none)) else (none)) else (some x5)
def nat_shift.f (k : Nat) (l0 : List Int) (a1 : Int) : Option (List Int):=if 0 ≤ (wrap64 ((l0.length : Int) + 1)) then (if (wrap64 ((l0.length : Int) + 1) : Int).toNat ≤ 70368744177664 then (nat_shift.l0 k a1 (List.replicate (wrap64 ((l0.length : Int) + 1) : Int).toNat 0) l0 (l0.length : Int) 0) else (none)) else (none)
theorem nat_shift.mono_l : ∀ k,(∀ y0 y1 y2 y3 y4,LeO (nat_shift.l0 k y0 y1 y2 y3 y4) (nat_shift.l0 (k + 1) y0 y1 y2 y3 y4))
 |0 => fun _ _ _ _ _ r h => by simp [nat_shift.l0] at h
 |k + 1 => by
  have ih0:=nat_shift.mono_l k
  ·intro y0 y1 y2 y3 y4
   unfold nat_shift.l0
   repeat' first
   |(with_reducible exact ih0 _ _ _ _ _)
   |(with_reducible exact LeO.refl _)
   |(with_reducible exact LeO.none _)
   |(with_reducible refine LeO.ite ?_ ?_)
   |(with_reducible refine LeO.bind ?_ (fun _ => ?_))
   |exact ih0 _ _ _ _ _
   |exact LeO.none _
   |refine LeO.ite ?_ ?_
   |refine LeO.bind ?_ (fun _ => ?_)
theorem nat_shift.mono : ∀ a0 a1 k,LeO (nat_shift.f k a0 a1) (nat_shift.f (k + 1) a0 a1):=by
 intro a0 a1 k
 have ih0:=nat_shift.mono_l k
 unfold nat_shift.f
 repeat' first
   |(with_reducible exact ih0 _ _ _ _ _)
   |(with_reducible exact LeO.refl _)
   |(with_reducible exact LeO.none _)
   |(with_reducible refine LeO.ite ?_ ?_)
   |(with_reducible refine LeO.bind ?_ (fun _ => ?_))
   |exact ih0 _ _ _ _ _
   |exact LeO.none _
   |refine LeO.ite ?_ ?_
   |refine LeO.bind ?_ (fun _ => ?_)
set_option maxHeartbeats 8000000 in
set_option maxRecDepth 100000 in
theorem nat_shift.calls (k : Nat) (A0 : Option Addr) (c0 : Nat) (l0 : List Int) (a1 : Int) (r : List Int) (w : World) (hr0 : Kd.C (Kd.int .u32) w A0 l0.length l0) (hc0 : l0.length ≤ c0) (h : nat_shift.f k l0 a1 = some r) :
  Calls Try.prog 108 #[.slice A0 l0.length c0,.int .i64 a1] w fun e w' => ∃ v0_ : Value,e = .returned (v0_) ∧ Kd.R (Kd.int .u32) 23 w' w.heap.size (fun _ => True) v0_ r ∧ Below w.heap.size w w':=by
 have HR0:=Aside0.mk hr0
 have HC0:=Aside0.mk hc0
 clear hr0 hc0
 have HB:=Aside0.mk (Below.refl w.heap.size w)
 have H : (if 0 ≤ (wrap64 ((l0.length : Int) + 1)) then (if (wrap64 ((l0.length : Int) + 1) : Int).toNat ≤ 70368744177664 then (nat_shift.l0 k a1 (List.replicate (wrap64 ((l0.length : Int) + 1) : Int).toNat 0) l0 (l0.length : Int) 0) else (none)) else (none)) = some r:=h
 clear h
 obtain ⟨ji3,hji3⟩ : ∃ j_ : Int,(wrap64 ((l0.length : Int) + 1)) = j_:=⟨_,rfl⟩
 (first|rw [hji3] at H|simp only [hji3] at H)
 have hji3w : (IntKind.i64.wrap ((l0.length : Int) + 1)) = ji3:=(i64_w _).trans hji3
 by_cases c4 : 0 ≤ (ji3)
 ·rw [if_pos c4] at H
  have c4b0:=eq_true c4
  have c4b1 : decide (0 ≤ (ji3)) = true:=decide_eq_true c4
  clear c4
  by_cases c5 : (ji3 : Int).toNat ≤ 70368744177664
  ·rw [if_pos c5] at H
   have c5b0:=eq_true c5
   have c5b1 : decide ((ji3 : Int).toNat ≤ 70368744177664) = true:=decide_eq_true c5
   clear c5
   obtain ⟨y355,hy355⟩ : ∃ y_ : List Int,y_ = (List.replicate (ji3 : Int).toNat 0):=⟨_,rfl⟩
   replace H : (nat_shift.l0 k a1 y355 l0 (l0.length : Int) 0) = some r:=by first|(rw [hy355];with_reducible exact H)|(have H2_:=(Option.bind_some _ _).symm.trans H;rw [hy355];with_reducible exact H2_)|(have H2_:=(Option.bind_some _ _).symm.trans H;with_reducible exact H2_)|with_reducible exact H|(rw [hy355];exact H)|exact H
   have Ny355:=Aside0.mk hy355
   clear hy355
   have H':=Aside0.mk H
   clear H
   go_enter Try.func108,Try.ntmps108
   go_wp2_with (first|((with_reducible refine gate_dst (N:=12) rfl ?_);refine Kd.R_make (Kd.int .u32) _ 23 rfl (N:=12) rfl 36 _ _ rfl ji3 rfl rfl Try.underlying36 (.int .u32 0) 4 info23 rfl (by decide) (by omega) 0 (ok:=fun _ => True) (okp:=fun _ => True) rfl (fun _ hk => hk) trivial (od) (Nat.le_trans (Nat.mul_le_mul_right _ (od : ji3.toNat ≤ 70368744177664)) (by omega)) (Below.refl _ _) (Nat.le_refl _) ?_;intro v356 w6 ho7 hb hg_ hnew_;clear hg_ hnew_;(first|rw [← Ny355.out] at ho7|(simp only [Int.reduceToNat] at ho7;rw [← Ny355.out] at ho7));have HO357:=Aside0.mk (Kd.R_lower ho7 (below_size (qS HB)));replace HB:=qs HB hb;clear hb ho7))
   go_loopg [15] k (fun kq v15 w' => ∃ (x5_1 : List Int) (x15_1 : Int),v15 = .int .i64 x15_1 ∧ Aside0 (nat_shift.l0 kq a1 x5_1 l0 (l0.length : Int) x15_1 = some r) ∧ Aside0 (kq ≤ k) ∧ Aside0 (Kd.R (Kd.int .u32) 23 w' w.heap.size (fun _ => True) v356 x5_1) ∧ Aside0 (Below w.heap.size w w'))
   case atStart => exact ⟨(y355),(0),(by first|rfl|(simp;done)|(simp [*];done)),H',⟨Nat.le_refl _⟩,⟨qRm HO357⟩,⟨qS HB⟩⟩
   case round =>
    clear H'
    try clear c1
    try clear p2
    try clear c4
    try clear c4b0
    try clear c4b1
    try clear c5
    try clear c5b0
    try clear c5b1
    try clear p6
    obtain ⟨x5_1,x15_1,rfl,HA,HK1,HO_5,HB⟩:=hrel
    cases gk with
    |zero => exact absurd HA.out (by simp [nat_shift.l0])
    |succ k1 =>
     have H:=HA.out
     clear HA
     simp only [nat_shift.l0] at H
     by_cases c8 : x15_1 < (l0.length : Int)
     ·rw [if_pos c8] at H
      have c8b0 : decide (x15_1 < (l0.length : Int)) = true:=decide_eq_true c8
      clear c8
      by_cases c9 : 0 ≤ x15_1
      ·rw [if_pos c9] at H
       have c9b0 : decide (0 ≤ x15_1) = true:=decide_eq_true c9
       clear c9
       by_cases c10 : x15_1 < (l0.length : Int)
       ·rw [if_pos c10] at H
        have c10b0 : decide (x15_1 < (l0.length : Int)) = true:=decide_eq_true c10
        clear c10
        by_cases c11 : 0 ≤ a1
        ·rw [if_pos c11] at H
         have c11b0:=eq_true c11
         have c11b1 : decide (0 ≤ a1) = true:=decide_eq_true c11
         clear c11
         obtain ⟨ji12,hji12⟩ : ∃ j_ : Int,(shl .u64 (IntKind.u64.wrap (rd l0 x15_1)) a1) = j_:=⟨_,rfl⟩
         (first|rw [hji12] at H|simp only [hji12] at H)
         have hji12_ : (IntKind.u64.wrap ((IntKind.u64.wrap (rd l0 x15_1)) * 2 ^ min a1.toNat 64)) = ji12:=hji12
         have hji12z : a1 ≤ 64 → (IntKind.u64.wrap ((IntKind.u64.wrap (rd l0 x15_1)) * 2 ^ a1.toNat)) = ji12:=shl_small hji12
         by_cases c13 : x15_1 < (x5_1.length : Int)
         ·rw [if_pos c13] at H
          have c13b0 : decide (x15_1 < (x5_1.length : Int)) = true:=decide_eq_true c13
          clear c13
          obtain ⟨y360,hy360⟩ : ∃ y_ : List Int,y_ = (x5_1.set (x15_1 : Int).toNat (Go.bits .or .u32 (rd x5_1 x15_1) ((ji12) % 4294967296))):=⟨_,rfl⟩
          replace H : (if 0 ≤ (wrap64 (x15_1 + 1)) then (if (wrap64 (x15_1 + 1)) < (x5_1.length : Int) then (nat_shift.l0 k1 a1 (y360.set ((wrap64 (x15_1 + 1)) : Int).toNat (((ji12) / 4294967296) % 4294967296)) l0 (l0.length : Int) (wrap64 (x15_1 + 1))) else (none)) else (none)) = some r:=by first|(rw [hy360];with_reducible exact H)|(have H2_:=(Option.bind_some _ _).symm.trans H;rw [hy360];with_reducible exact H2_)|(have H2_:=(Option.bind_some _ _).symm.trans H;with_reducible exact H2_)|with_reducible exact H|(rw [hy360];exact H)|exact H
          have Ny360:=Aside0.mk hy360
          clear hy360
          obtain ⟨ji15,hji15⟩ : ∃ j_ : Int,(wrap64 (x15_1 + 1)) = j_:=⟨_,rfl⟩
          (first|rw [hji15] at H|simp only [hji15] at H)
          have hji15w : (IntKind.i64.wrap (x15_1 + 1)) = ji15:=(i64_w _).trans hji15
          by_cases c16 : 0 ≤ (ji15)
          ·rw [if_pos c16] at H
           have c16b0 : decide (0 ≤ (ji15)) = true:=decide_eq_true c16
           clear c16
           by_cases c17 : (ji15) < (x5_1.length : Int)
           ·rw [if_pos c17] at H
            have c17b0 : decide ((ji15) < (x5_1.length : Int)) = true:=decide_eq_true c17
            clear c17
            obtain ⟨y361,hy361⟩ : ∃ y_ : List Int,y_ = (y360.set ((ji15) : Int).toNat (((ji12) / 4294967296) % 4294967296)):=⟨_,rfl⟩
            replace H : (nat_shift.l0 k1 a1 y361 l0 (l0.length : Int) ji15) = some r:=by first|(rw [hy361];with_reducible exact H)|(have H2_:=(Option.bind_some _ _).symm.trans H;rw [hy361];with_reducible exact H2_)|(have H2_:=(Option.bind_some _ _).symm.trans H;with_reducible exact H2_)|with_reducible exact H|(rw [hy361];exact H)|exact H
            have Ny361:=Aside0.mk hy361
            clear hy361
            have H':=Aside0.mk H
            clear H
            have p358 : 0 ≤ (x15_1 : Int):=od
            have q358 : x15_1 < (l0.length : Int):=od
            obtain ⟨ad358,e358,hx358_0⟩:=Kd.at_int HR0.out x15_1 p358 q358
            cases e358
            replace hx358_0:=(HB.out.cell (World.block_lt_of_cell? w _ hx358_0)).trans hx358_0
            replace p358:=eq_true p358
            replace q358:=eq_true q358
            obtain ⟨Ao19,co19,eo19⟩:=Kd.R_slice HO_5.out
            subst eo19
            have p359 : 0 ≤ (x15_1 : Int):=od
            have q359 : x15_1 < (x5_1.length : Int):=od
            obtain ⟨ad359,e359,hx359_0⟩:=Kd.at_int (Kd.R_reads' HO_5.out).2.2 x15_1 p359 q359
            cases e359
            replace p359:=eq_true p359
            replace q359:=eq_true q359
            have p14 : 0 ≤ (x15_1 : Int):=od
            have q14 : (x15_1 : Int) < ((x5_1.length : Int) : Int):=od
            obtain ⟨go14,co14,eo14,gb14,gl14,cl14,HG14⟩:=Kd.R_form HO_5.out (by omega)
            (first|cases eo14|(injection eo14 with ea_ en_ ec_;(first|subst ea_|(injection ea_ with ea_;subst ea_));subst ec_;clear en_))
            have GB14:=Aside0.mk gb14
            have GG14:=Aside0.mk HG14
            clear gb14 gl14 HG14
            (first|simp only [add_plain] at hx359_0|skip)
            obtain ⟨hx14_0,hf14_0⟩:=Kd.R_celln 0 HO_5.out (x15_1 : Int) p14 q14
            replace p14:=eq_true p14
            replace q14:=eq_true q14
            have HP20:=Kd.R_putg HO_5.out (x15_1 : Int) (Go.bits .or .u32 (rd x5_1 x15_1) ((ji12) % 4294967296))
            go_wp2_with (first|((with_reducible refine gate_store (t:=23) (p:=31) rfl ?_);refine qSt (wr.setCell ⟨go14,(x15_1 : Int).toNat,none⟩ (.int .u32 (Go.bits .or .u32 (rd x5_1 x15_1) ((ji12) % 4294967296)))) ?_;intro w21 hw;have hg : wr.grownBy w21 (some go14):=(by rw [hw];exact HP20.2);have hp_ : Kd.R (Kd.int .u32) 23 w21 w.heap.size (fun _ => True) (.slice (some ⟨go14,0,none⟩) x5_1.length co19) y360:=(by rw [hw,Ny360.out];exact HP20.1);clear HP20;replace HO_5:=Aside0.mk (hp_);replace HB:=Aside0.mk ((by rw [hw];exact below_set (HB.out) GB14.out : Below w.heap.size w w21));clear hg hw hp_;have p18 : 0 ≤ ((ji15) : Int):=od;have q18 : ((ji15) : Int) < ((x5_1.length : Int) : Int):=od;obtain ⟨hx18_0,hf18_0⟩:=Kd.R_celln 0 HO_5.out ((ji15) : Int) p18 q18;replace p18:=eq_true p18;replace q18:=eq_true q18;obtain ⟨hy22_,hz22_⟩:=Kd.R_celln 0 HO_5.out ((ji15) : Int) (od) (od);have HP22:=Kd.R_putg HO_5.out ((ji15) : Int) (((ji12) / 4294967296) % 4294967296))|((with_reducible refine gate_store (t:=23) (p:=38) rfl ?_);refine qSt (w21.setCell ⟨go14,((ji15) : Int).toNat,none⟩ (.int .u32 (((ji12) / 4294967296) % 4294967296))) ?_;intro w23 hw;have hg : w21.grownBy w23 (some go14):=(by rw [hw];exact HP22.2);have hp_ : Kd.R (Kd.int .u32) 23 w23 w.heap.size (fun _ => True) (.slice (some ⟨go14,0,none⟩) x5_1.length co19) y361:=(by rw [hw,Ny361.out];exact HP22.1);clear HP22;replace HO_5:=Aside0.mk (hp_);replace HB:=Aside0.mk ((by rw [hw];exact below_set (HB.out) GB14.out : Below w.heap.size w w23));clear hg hw hp_))
            go_roundg k1
            case measure => have:=HK1.out;omega
            case rel => exact ⟨(y361),(ji15),(by first|rfl|(simp;done)|(simp only [← hji15] <;> (first|rfl|simp))|(simp [*];done)),H',⟨by have:=HK1.out;omega⟩,⟨qRm HO_5⟩,⟨qS HB⟩⟩
           ·rw [if_neg c17] at H
            exact absurd H (by simp)
          ·rw [if_neg c16] at H
           exact absurd H (by simp)
         ·rw [if_neg c13] at H
          exact absurd H (by simp)
        ·rw [if_neg c11] at H
         exact absurd H (by simp)
       ·rw [if_neg c10] at H
        exact absurd H (by simp)
      ·rw [if_neg c9] at H
       exact absurd H (by simp)
     ·rw [if_neg c8] at H
      have c8b0 : decide (x15_1 < (l0.length : Int)) = false:=decide_eq_false c8
      clear c8
      obtain rfl:=Option.some.inj H
      go_wp2
      (first|go_ret|(refine ⟨_,results_tmp rfl _ _ _,?_⟩))
      exact ⟨_,by first|rfl|(simp [errW_none,errW_some] <;> rfl)|(simp only [← hji3];first|rfl|(simp [errW_none,errW_some] <;> rfl))|(simp [*,errW_none,errW_some] <;> rfl),qRm HO_5,qS HB⟩
  ·rw [if_neg c5] at H
   exact absurd H (by simp)
 ·rw [if_neg c4] at H
  exact absurd H (by simp)
end Go.Proofs.Yteejcpbngnojkaa.P
end
section
namespace Go.Proofs.Yteejcpbngnojkaa.P
open Go.RowKit Go.Proofs.YteejcpbngnojkaaW.PrintWords Go.Proofs.YteejcpbngnojkaaW.PrintLast Go.Proofs.YteejcpbngnojkaaW.PrintMore
set_option linter.unusedVariables false
namespace Md
def R (off N cap : Nat) (pre post : List Int) (e : Nat) (w : World) (base : Nat) (ok : Nat → Prop) (v : Value) (xs : List Int) : Prop :=
  (∀ k, v.ownBlock = some k → ok k) ∧ ∃ g c, v = .slice (some ⟨g, off, none⟩) xs.length c ∧ xs.length ≤ c ∧ pre.length = off ∧ (Kd.int .u32).R e w base ok (.slice (some ⟨g, 0, none⟩) N cap) (pre ++ xs ++ post)
section
variable {off N cap e base n c g : Nat} {pre post xs : List Int} {w w1 : World} {ok ok' : Nat → Prop} {v : Value} {A : Option Addr}
theorem R_back (h : R off N cap pre post e w base ok (.slice (some ⟨g, off, none⟩) n c) xs) : n = xs.length ∧ (Kd.int .u32).R e w base ok (.slice (some ⟨g, 0, none⟩) N cap) (pre ++ xs ++ post) := by
  obtain ⟨_, g', c', hv, _, _, hr⟩ := h
  injection hv with h1 h2 h3
  injection h1 with h1
  injection h1 with h1
  subst h1
  exact ⟨h2, hr⟩
theorem R_piece (h : (Kd.int .u32).R e w base ok (.slice (some ⟨g, 0, none⟩) n cap) xs) (j m : Nat) (hj : j + m ≤ xs.length) : R j n cap (xs.take j) (xs.drop (j + m)) e w base ok (.slice (some ⟨g, j, none⟩) m (cap - j)) ((xs.drop j).take m) := by
  have h2 := Kd.R_reads' h
  have hx : xs.take j ++ (xs.drop j).take m ++ xs.drop (j + m) = xs := by
    rw [List.append_assoc, ← List.drop_drop, List.take_append_drop, List.take_append_drop]
  have hl : ((xs.drop j).take m).length = m := by rw [List.length_take, List.length_drop]; omega
  refine ⟨fun k hk => h.1 k (by simpa [Value.ownBlock] using hk), g, cap - j, by rw [hl], by rw [hl]; omega, by rw [List.length_take]; omega, by rw [hx]; exact h⟩
theorem run_piece {P : Program} (t : TypeId) {i : TypeInfo} (ht : P.underlying t = some (.slice 23)) (hi : P.info? 23 = some i) (hsz : i.size = 1) (g n cap : Nat) (lo hi_ : Int) (h0 : 0 ≤ lo) (h1 : lo < hi_) (h2 : hi_ ≤ cap) (m : Nat) (hm : (m : Int) = hi_ - lo) (W : World) :
    (Instr.slice t (.slice (some ⟨g, 0, none⟩) n cap) (some (.int .i64 lo)) (some (.int .i64 hi_)) none).run P W = .ok (.slice (some ⟨g, lo.toNat, none⟩) m (cap - lo.toNat)) W := by
  have hel : P.elem t = 23 := by simp [Program.elem, ht]
  have hu : P.underlying t = some (.slice (P.elem t)) := by rw [hel]; exact ht
  rw [run_slice_lh W t (some ⟨g, 0, none⟩) n cap hu .i64 .i64 lo hi_ h0 (by omega) h2, hel]
  have hmm : hi_.toNat - lo.toNat = m := by omega
  simp [sizeOf, typeInfo, hi, hsz, sliced, Result.andThen, hmm, add_plain]
  intro e_; omega
theorem R_mono (h : R off N cap pre post e w base ok v xs) (hok : ∀ k, ok k → ok' k) : R off N cap pre post e w base ok' v xs := by
  obtain ⟨h0, g, c, hv, hl, hp, hr⟩ := h
  exact ⟨fun k hk => hok k (h0 k hk), g, c, hv, hl, hp, Kd.R_mono hr hok⟩
theorem R_drew (h : R off N cap pre post e w base ok v xs) : R off N cap pre post e w.drew base ok v xs := by
  obtain ⟨h0, g, c, hv, hl, hp, hr⟩ := h
  exact ⟨h0, g, c, hv, hl, hp, Kd.R_drew hr⟩
theorem R_drewN (h : R off N cap pre post e w base ok v xs) (m : Nat) : R off N cap pre post e (w.drewN m) base ok v xs := by
  obtain ⟨h0, g, c, hv, hl, hp, hr⟩ := h
  exact ⟨h0, g, c, hv, hl, hp, Kd.R_drewN hr m⟩
theorem R_slice (h : R off N cap pre post e w base ok v xs) : ∃ A c, v = .slice A xs.length c := by
  obtain ⟨h0, g, c, hv, _⟩ := h
  exact ⟨_, c, hv⟩
theorem R_tight {E : List Nat} (_ : E = []) (h : R off N cap pre post e w base ok v xs) : R off N cap pre post e w base (fun k => some k = v.ownBlock) v xs := by
  obtain ⟨h0, g, c, hv, hl, hp, hr⟩ := h
  subst hv
  exact ⟨fun k hk => hk.symm, g, c, rfl, hl, hp, Kd.R_tight rfl hr⟩
theorem R_reok {E : List Nat} (_ : E = []) (h : R off N cap pre post e w base ok v xs) (hok : ∀ k, v.ownBlock = some k → ok' k) : R off N cap pre post e w base ok' v xs := by
  obtain ⟨h0, g, c, hv, hl, hp, hr⟩ := h
  subst hv
  exact ⟨hok, g, c, rfl, hl, hp, Kd.R_reok rfl hr (fun k hk => hok k hk)⟩
theorem add_off (g off j : Nat) : (⟨g, off, none⟩ : Addr).add j = ⟨g, off + j, none⟩ := by unfold Addr.add; split <;> simp_all
theorem rd_mid (pre xs post : List Int) (j : Nat) (hj : j < xs.length) : (pre ++ xs ++ post).getD (pre.length + j) 0 = xs.getD j 0 := by
  rw [List.getD_eq_getElem?_getD, List.getD_eq_getElem?_getD, List.append_assoc, List.getElem?_append_right (by omega), Nat.add_sub_cancel_left, List.getElem?_append_left hj]
theorem set_mid (pre xs post : List Int) (j : Nat) (x : Int) (hj : j < xs.length) : (pre ++ xs ++ post).set (pre.length + j) x = pre ++ xs.set j x ++ post := by
  rw [List.append_assoc, List.set_append_right _ _ (by omega), Nat.add_sub_cancel_left, List.set_append_left _ _ hj, List.append_assoc]
theorem R_cell_ (h : R off N cap pre post e w base ok (.slice (some ⟨g, off, none⟩) n c) xs) (j : Nat) (hj : j < xs.length) : w.cell? ⟨g, off + j, none⟩ = some (.int .u32 (xs.getD j 0)) ∧ w.frozen? ⟨g, off + j, none⟩ = false := by
  obtain ⟨_, g', c', hv, _, hp, hr⟩ := h
  injection hv with h1 h2 h3
  injection h1 with h1
  injection h1 with h1
  subst h1 hp
  have hN : N = (pre ++ xs ++ post).length := (Kd.R_reads' hr).1
  have := Kd.R_celln (0 : Int) hr ((pre.length + j : Nat) : Int) (by omega) (by rw [hN]; simp; omega)
  rw [Int.toNat_natCast] at this
  refine ⟨this.1.trans ?_, this.2⟩
  show some (Value.int .u32 ((pre ++ xs ++ post).getD ((pre.length + j : Nat) : Int).toNat 0)) = _
  rw [Int.toNat_natCast, rd_mid _ _ _ _ hj]
theorem R_reads' (h : R off N cap pre post e w base ok (.slice A n c) xs) : n = xs.length ∧ n ≤ c ∧ (Kd.int .u32).C w A xs.length xs := by
  have h' := h
  obtain ⟨_, g', c', hv, hl, hp, hr⟩ := h'
  injection hv with h1 h2 h3
  subst h1 h2 h3
  refine ⟨rfl, hl, rfl, ?_, fun hn => ⟨_, rfl, fun j p hj => ?_⟩⟩
  · have h2 := (Kd.R_reads' hr).2.2.2.1
    have h3 : (pre ++ xs ++ post).length = pre.length + xs.length + post.length := by simp [Nat.add_assoc]
    omega
  · have hjl : j < xs.length := (List.getElem?_eq_some_iff.1 hj).1
    refine ⟨[.int .u32 p], rfl, rfl, fun i u hu => ?_⟩
    cases i with
    | zero =>
      have := (R_cell_ h j hjl).1
      rw [add_off]
      show w.cell? ⟨g', off + (j * 1 + 0), none⟩ = _
      rw [Nat.mul_one, Nat.add_zero, this, ← hu]
      simp [List.getD_eq_getElem?_getD, hj]
    | succ i => simp at hu
theorem R_form (h : R off N cap pre post e w base ok v xs) (hp : 0 < xs.length) : ∃ g cap, v = .slice (some ⟨g, off, none⟩) xs.length cap ∧ base ≤ g ∧ g < w.heap.size ∧ ∃ cells, w.heap[g]? = some (.cells cells e (0, 0)) := by
  obtain ⟨_, g', c', hv, _, hpp, hr⟩ := h
  obtain ⟨g2, cap2, he, hb, hl, cells, hc⟩ := Kd.R_form hr (by simp; omega)
  injection he with h1 h2 h3
  injection h1 with h1
  injection h1 with h1
  subst h1
  exact ⟨g', c', hv, hb, hl, cells, hc⟩
theorem R_celln (d : Int) (h : R off N cap pre post e w base ok (.slice (some ⟨g, off, none⟩) n c) xs) (i : Int) (h0 : 0 ≤ i) (hi : i < n) : w.cell? ⟨g, off + i.toNat, none⟩ = some (.int .u32 (rd xs i)) ∧ w.frozen? ⟨g, off + i.toNat, none⟩ = false :=
  R_cell_ h i.toNat (by have := (R_back h).1; omega)
theorem R_putg (h : R off N cap pre post e w base ok (.slice (some ⟨g, off, none⟩) n c) xs) (i : Int) (h1 : i.toNat < xs.length) (x : Int) : R off N cap pre post e (w.setCell ⟨g, off + i.toNat, none⟩ (.int .u32 x)) base ok (.slice (some ⟨g, off, none⟩) n c) (xs.set i.toNat x) ∧ w.grownBy (w.setCell ⟨g, off + i.toNat, none⟩ (.int .u32 x)) (some g) := by
  obtain ⟨h0, g', c', hv, hl, hp, hr⟩ := h
  injection hv with h3 h4 h5
  injection h3 with h3
  injection h3 with h3
  subst h3 h4 h5 hp
  have := Kd.R_putg hr ((pre.length + i.toNat : Nat) : Int) x
  rw [Int.toNat_natCast, set_mid _ _ _ _ _ h1] at this
  exact ⟨⟨h0, g, c, by rw [List.length_set], by rw [List.length_set]; exact hl, rfl, this.1⟩, this.2⟩
theorem V_take_of_R {base' : Nat} {ys : List Int} (h : (Kd.int .u32).R e w base ok (.slice A n c) xs) (m : Nat) (hm : m ≤ xs.length) (hy : ys = xs.take m) : Kd.V (Kd.int .u32) e w base' ok (.slice A ys.length c) ys := by
  subst hy
  have h1 := Kd.R_reads' h
  have hF := Kd.F_take (Kd.V_at (Kd.R_V (base' := base) h)).2.2 hm
  exact Kd.V_mk (by rw [List.length_take]; omega) hF
end
end Md
end Go.Proofs.Yteejcpbngnojkaa.P
end
section
namespace Go.Proofs.Yteejcpbngnojkaa.P
open Go.RowKit Go.Proofs.YteejcpbngnojkaaW.PrintWords Go.Proofs.YteejcpbngnojkaaW.PrintLast Go.Proofs.YteejcpbngnojkaaW.PrintMore
attribute [local go_sem] max2_int min2_int max_two min_two max_three min_three max_four min_four
set_option linter.unusedVariables false
set_option linter.unusedSimpArgs false
def nat_take.l0 : Nat → List Int → List Int → Int → Int → Int → List Int → Int → Int → Option (Bool × List Int)
 |0,_,_,_,_,_,_,_,_ => none
 |k + 1,x0,x1,x2,x7,x8,x13,x14,x15 => if x15 < x14 then (if 0 ≤ x15 then (if x15 < (x13.length : Int) then (if x15 < (x0.length : Int) then (if (wrap64 ((wrap64 ((wrap64 (rd x0 x15)) - ((IntKind.u64.wrap (x7 + (IntKind.u64.wrap (x2 * (IntKind.u64.wrap (rd x13 x15)))))) % 4294967296))) - x8)) < 0 then (nat_take.l0 k (x0.set (x15 : Int).toNat ((wrap64 ((wrap64 ((wrap64 ((wrap64 (rd x0 x15)) - ((IntKind.u64.wrap (x7 + (IntKind.u64.wrap (x2 * (IntKind.u64.wrap (rd x13 x15)))))) % 4294967296))) - x8)) + 4294967296)) % 4294967296)) x1 x2 ((IntKind.u64.wrap (x7 + (IntKind.u64.wrap (x2 * (IntKind.u64.wrap (rd x13 x15)))))) / 4294967296) 1 x13 x14 (wrap64 (x15 + 1))) else (nat_take.l0 k (x0.set (x15 : Int).toNat ((wrap64 ((wrap64 ((wrap64 (rd x0 x15)) - ((IntKind.u64.wrap (x7 + (IntKind.u64.wrap (x2 * (IntKind.u64.wrap (rd x13 x15)))))) % 4294967296))) - x8)) % 4294967296)) x1 x2 ((IntKind.u64.wrap (x7 + (IntKind.u64.wrap (x2 * (IntKind.u64.wrap (rd x13 x15)))))) / 4294967296) 0 x13 x14 (wrap64 (x15 + 1)))) else (none)) else (none)) else (none)) else (if 0 ≤ (x1.length : Int) then (if (x1.length : Int) < (x0.length : Int) then (some (decide ((wrap64 ((wrap64 ((wrap64 (rd x0 (x1.length : Int))) - (wrap64 (x7)))) - x8)) < 0),(x0.set ((x1.length : Int) : Int).toNat ((wrap64 ((wrap64 ((wrap64 (rd x0 (x1.length : Int))) - (wrap64 (x7)))) - x8)) % 4294967296)))) else (none)) else (none))
def nat_take.f (k : Nat) (l0 : List Int) (l1 : List Int) (a2 : Int) : Option (Bool × List Int):=nat_take.l0 k l0 l1 a2 0 0 l1 (l1.length : Int) 0
theorem nat_take.mono_l : ∀ k,(∀ y0 y1 y2 y3 y4 y5 y6 y7,LeO (nat_take.l0 k y0 y1 y2 y3 y4 y5 y6 y7) (nat_take.l0 (k + 1) y0 y1 y2 y3 y4 y5 y6 y7))
 |0 => fun _ _ _ _ _ _ _ _ r h => by simp [nat_take.l0] at h
 |k + 1 => by
  have ih0:=nat_take.mono_l k
  ·intro y0 y1 y2 y3 y4 y5 y6 y7
   unfold nat_take.l0
   repeat' first
   |(with_reducible exact ih0 _ _ _ _ _ _ _ _)
   |(with_reducible exact LeO.refl _)
   |(with_reducible exact LeO.none _)
   |(with_reducible refine LeO.ite ?_ ?_)
   |(with_reducible refine LeO.bind ?_ (fun _ => ?_))
   |exact ih0 _ _ _ _ _ _ _ _
   |exact LeO.none _
   |refine LeO.ite ?_ ?_
   |refine LeO.bind ?_ (fun _ => ?_)
theorem nat_take.mono : ∀ a0 a1 a2 k,LeO (nat_take.f k a0 a1 a2) (nat_take.f (k + 1) a0 a1 a2):=by
 intro a0 a1 a2 k
 have ih0:=nat_take.mono_l k
 unfold nat_take.f
 repeat' first
   |(with_reducible exact ih0 _ _ _ _ _ _ _ _)
   |(with_reducible exact LeO.refl _)
   |(with_reducible exact LeO.none _)
   |(with_reducible refine LeO.ite ?_ ?_)
   |(with_reducible refine LeO.bind ?_ (fun _ => ?_))
   |exact ih0 _ _ _ _ _ _ _ _
   |exact LeO.none _
   |refine LeO.ite ?_ ?_
   |refine LeO.bind ?_ (fun _ => ?_)
set_option maxHeartbeats 8000000 in
set_option maxRecDepth 100000 in
theorem nat_take.calls (k : Nat) (off N cap : Nat) (pre post : List Int) (P0_ : Nat → Prop) (u9000_ : Value) (l0 : List Int) (A1 : Option Addr) (c1 : Nat) (l1 : List Int) (a2 : Int) (r1 : Bool) (r2 : List Int) (w0 w : World) (hB : Below w0.heap.size w0 w) (ho0 : Md.R off N cap pre post 23 w w0.heap.size P0_ u9000_ l0) (hr1 : ∀ W_,Kept w W_ (fun k_ => P0_ k_) → Kd.C (Kd.int .u32) W_ A1 l1.length l1) (hc1 : l1.length ≤ c1) (h : nat_take.f k l0 l1 a2 = some (r1,r2)) :
  Calls Try.prog 132 #[u9000_,.slice A1 l1.length c1,.int .u64 a2] w fun e w' => e = .returned (.bool r1) ∧ Md.R off N cap pre post 23 w' w0.heap.size (fun k_ => (P0_ k_ ∨ w.heap.size ≤ k_)) u9000_ r2 ∧ Below w0.heap.size w0 w' ∧ Kept w w' (fun k_ => P0_ k_):=by
 have HO0:=Aside0.mk (show Md.R off N cap pre post 23 w w0.heap.size (fun k_ => (P0_ k_ ∨ w.heap.size ≤ k_)) u9000_ l0 from Md.R_mono ho0 (fun k_ hk => (.inl hk)))
 have HR1:=Aside0.mk hr1
 have HC1:=Aside0.mk hc1
 clear hr1 hc1
 have HK:=Aside0.mk (Kept.refl w (fun k_ => P0_ k_))
 have HW0:=Aside0.mk hB.size
 have HB:=Aside0.mk hB
 clear hB
 have H : (nat_take.l0 k l0 l1 a2 0 0 l1 (l1.length : Int) 0) = some (r1,r2):=h
 clear h
 have H':=Aside0.mk H
 clear H
 go_enter Try.func132,Try.ntmps132
 go_wp2
 go_loopg [7,8,15] k (fun kq v7 v8 v15 w' => ∃ (x0_1 : List Int) (x7_1 : Int) (x8_1 : Int) (x15_1 : Int),v7 = .int .u64 x7_1 ∧ v8 = .int .i64 x8_1 ∧ v15 = .int .i64 x15_1 ∧ Aside0 (nat_take.l0 kq x0_1 l1 a2 x7_1 x8_1 l1 (l1.length : Int) x15_1 = some (r1,r2)) ∧ Aside0 (kq ≤ k) ∧ Aside0 (Md.R off N cap pre post 23 w' w0.heap.size (fun k_ => (P0_ k_ ∨ w.heap.size ≤ k_)) u9000_ x0_1) ∧ Aside0 (Kept w w' (fun k_ => P0_ k_)) ∧ Aside0 (Below w0.heap.size w0 w'))
 case atStart => exact ⟨(l0),(0),(0),(0),(by first|rfl|(simp;done)|(simp [*];done)),(by first|rfl|(simp;done)|(simp [*];done)),(by first|rfl|(simp;done)|(simp [*];done)),H',⟨Nat.le_refl _⟩,⟨by (with_reducible repeat (first|apply Md.R_alloc|apply Md.R_drewN|apply Md.R_drew));exact HO0.out⟩,⟨by repeat (first|(with_reducible first|exact HK.out|apply Kept.alloc|apply Kept.drewN|apply Kept.drew)|exact HK.out)⟩,⟨by repeat (first|(with_reducible first|exact HB.out|apply below_alloc|apply pw_below_drewN|apply below_drew1)|exact HB.out)⟩⟩
 case round =>
  clear H'
  try clear c1
  try clear p2
  obtain ⟨x0_1,x7_1,x8_1,x15_1,rfl,rfl,rfl,HA,HK1,HO_0,HK,HB⟩:=hrel
  cases gk with
  |zero => exact absurd HA.out (by simp [nat_take.l0])
  |succ k1 =>
   have H:=HA.out
   clear HA
   simp only [nat_take.l0] at H
   by_cases c4 : x15_1 < (l1.length : Int)
   ·rw [if_pos c4] at H
    have c4b0 : decide (x15_1 < (l1.length : Int)) = true:=decide_eq_true c4
    clear c4
    by_cases c5 : 0 ≤ x15_1
    ·rw [if_pos c5] at H
     have c5b0 : decide (0 ≤ x15_1) = true:=decide_eq_true c5
     clear c5
     by_cases c6 : x15_1 < (l1.length : Int)
     ·rw [if_pos c6] at H
      have c6b0 : decide (x15_1 < (l1.length : Int)) = true:=decide_eq_true c6
      clear c6
      by_cases c7 : x15_1 < (x0_1.length : Int)
      ·rw [if_pos c7] at H
       have c7b0 : decide (x15_1 < (x0_1.length : Int)) = true:=decide_eq_true c7
       clear c7
       by_cases c8 : (wrap64 ((wrap64 ((wrap64 (rd x0_1 x15_1)) - ((IntKind.u64.wrap (x7_1 + (IntKind.u64.wrap (a2 * (IntKind.u64.wrap (rd l1 x15_1)))))) % 4294967296))) - x8_1)) < 0
       ·rw [if_pos c8] at H
        have c8b0 : decide ((wrap64 ((wrap64 ((wrap64 (rd x0_1 x15_1)) - ((IntKind.u64.wrap (x7_1 + (IntKind.u64.wrap (a2 * (IntKind.u64.wrap (rd l1 x15_1)))))) % 4294967296))) - x8_1)) < 0) = true:=decide_eq_true c8
        clear c8
        obtain ⟨y364,hy364⟩ : ∃ y_ : List Int,y_ = (x0_1.set (x15_1 : Int).toNat ((wrap64 ((wrap64 ((wrap64 ((wrap64 (rd x0_1 x15_1)) - ((IntKind.u64.wrap (x7_1 + (IntKind.u64.wrap (a2 * (IntKind.u64.wrap (rd l1 x15_1)))))) % 4294967296))) - x8_1)) + 4294967296)) % 4294967296)):=⟨_,rfl⟩
        replace H : (nat_take.l0 k1 y364 l1 a2 ((IntKind.u64.wrap (x7_1 + (IntKind.u64.wrap (a2 * (IntKind.u64.wrap (rd l1 x15_1)))))) / 4294967296) 1 l1 (l1.length : Int) (wrap64 (x15_1 + 1))) = some (r1,r2):=by first|(rw [hy364];with_reducible exact H)|(have H2_:=(Option.bind_some _ _).symm.trans H;rw [hy364];with_reducible exact H2_)|(have H2_:=(Option.bind_some _ _).symm.trans H;with_reducible exact H2_)|with_reducible exact H|(rw [hy364];exact H)|exact H
        have Ny364:=Aside0.mk hy364
        clear hy364
        have H':=Aside0.mk H
        clear H
        have p362 : 0 ≤ (x15_1 : Int):=of_decide_eq_true (by first|(with_reducible assumption)|assumption)
        have q362 : x15_1 < (l1.length : Int):=of_decide_eq_true (by first|(with_reducible assumption)|assumption)
        obtain ⟨ad362,e362,hx362_0⟩:=Kd.at_int (Kd.C_kept_now HR1.out HK.out) x15_1 p362 q362
        cases e362
        replace p362:=eq_true p362
        replace q362:=eq_true q362
        obtain ⟨Ao10,co10,eo10⟩:=Md.R_slice HO_0.out
        subst eo10
        have p363 : 0 ≤ (x15_1 : Int):=of_decide_eq_true (by first|(with_reducible assumption)|assumption)
        have q363 : x15_1 < (x0_1.length : Int):=of_decide_eq_true (by first|(with_reducible assumption)|assumption)
        obtain ⟨ad363,e363,hx363_0⟩:=Kd.at_int (Md.R_reads' HO_0.out).2.2 x15_1 p363 q363
        cases e363
        replace p363:=eq_true p363
        replace q363:=eq_true q363
        have p9 : 0 ≤ (x15_1 : Int):=of_decide_eq_true (by first|(with_reducible assumption)|assumption)
        have q9 : (x15_1 : Int) < ((x0_1.length : Int) : Int):=of_decide_eq_true (by first|(with_reducible assumption)|assumption)
        obtain ⟨go9,co9,eo9,gb9,gl9,cl9,HG9⟩:=Md.R_form HO_0.out (by omega)
        (first|cases eo9|(injection eo9 with ea_ en_ ec_;(first|subst ea_|(injection ea_ with ea_;subst ea_));subst ec_;clear en_))
        have GB9:=Aside0.mk gb9
        have GG9:=Aside0.mk HG9
        clear gb9 gl9 HG9
        have HMgo9:=Aside0.mk (show (P0_ go9 ∨ w.heap.size ≤ go9) from (HO_0.out.1 _ rfl))
        (first|simp only [Md.add_off] at hx363_0|skip)
        obtain ⟨hx9_0,hf9_0⟩:=Md.R_celln 0 HO_0.out (x15_1 : Int) p9 q9
        (try simp only [Int.toNat_natCast] at hx9_0 hf9_0)
        replace p9:=eq_true p9
        replace q9:=eq_true q9
        have HP11:=Md.R_putg HO_0.out (x15_1 : Int) (by have h1_:=of_eq_true p9;have h2_:=of_eq_true q9;omega) ((wrap64 ((wrap64 ((wrap64 ((wrap64 (rd x0_1 x15_1)) - ((IntKind.u64.wrap (x7_1 + (IntKind.u64.wrap (a2 * (IntKind.u64.wrap (rd l1 x15_1)))))) % 4294967296))) - x8_1)) + 4294967296)) % 4294967296)
        go_wp2_with (first|((with_reducible refine gate_store (t:=23) (p:=47) rfl ?_);refine store_event (t:=23) (p:=47) (v:=?vo_w12) (w1:=(wr.setCell ⟨go9,off + (x15_1 : Int).toNat,none⟩ (.int .u32 ((wrap64 ((wrap64 ((wrap64 ((wrap64 (rd x0_1 x15_1)) - ((IntKind.u64.wrap (x7_1 + (IntKind.u64.wrap (a2 * (IntKind.u64.wrap (rd l1 x15_1)))))) % 4294967296))) - x8_1)) + 4294967296)) % 4294967296)))) ?hg ?ho ?hn ?hr ?_;(case ho => rfl);(case hg => rfl);(case hn => rfl);(case hr => first|(go_simp;done)|(go_simp;rfl));intro w12 hw;have hg : wr.grownBy w12 (some go9):=(by rw [hw];exact HP11.2);have hp_ : Md.R off N cap pre post 23 w12 w0.heap.size (fun k_ => (P0_ k_ ∨ w.heap.size ≤ k_)) (.slice (some ⟨go9,off,none⟩) x0_1.length co10) y364:=(by rw [hw,Ny364.out];exact HP11.1);clear HP11;have n0_:=Aside0.mk (hp_);have n1_:=Aside0.mk ((by rw [hw];exact below_set (HB.out) GB9.out : Below w0.heap.size w0 w12));have n2_:=Aside0.mk (Kept.of_grown (S:=(fun k_ => P0_ k_)) hg (by repeat (first|(with_reducible first|exact HK.out|apply Kept.alloc|apply Kept.drewN|apply Kept.drew)|exact HK.out)) (fun k_ e_ => (HO_0.out.1 k_ e_)));clear HO_0;clear HB;clear HK;have HO_0:=n0_;have HB:=n1_;have HK:=n2_;clear n0_ n1_ n2_;clear hg hw hp_))
        go_roundg k1
        case measure => have:=HK1.out;omega
        case rel => exact ⟨(y364),((IntKind.u64.wrap (x7_1 + (IntKind.u64.wrap (a2 * (IntKind.u64.wrap (rd l1 x15_1)))))) / 4294967296),(1),(wrap64 (x15_1 + 1)),(by first|rfl|(simp;done)|(simp [*];done)),(by first|rfl|(simp;done)|(simp [*];done)),(by first|rfl|(simp;done)|(simp [*];done)),H',⟨by have:=HK1.out;omega⟩,⟨by (with_reducible repeat (first|apply Md.R_alloc|apply Md.R_drewN|apply Md.R_drew));exact HO_0.out⟩,⟨by repeat (first|(with_reducible first|exact HK.out|apply Kept.alloc|apply Kept.drewN|apply Kept.drew)|exact HK.out)⟩,⟨by repeat (first|(with_reducible first|exact HB.out|apply below_alloc|apply pw_below_drewN|apply below_drew1)|exact HB.out)⟩⟩
       ·rw [if_neg c8] at H
        have c8b0 : decide ((wrap64 ((wrap64 ((wrap64 (rd x0_1 x15_1)) - ((IntKind.u64.wrap (x7_1 + (IntKind.u64.wrap (a2 * (IntKind.u64.wrap (rd l1 x15_1)))))) % 4294967296))) - x8_1)) < 0) = false:=decide_eq_false c8
        clear c8
        obtain ⟨y365,hy365⟩ : ∃ y_ : List Int,y_ = (x0_1.set (x15_1 : Int).toNat ((wrap64 ((wrap64 ((wrap64 (rd x0_1 x15_1)) - ((IntKind.u64.wrap (x7_1 + (IntKind.u64.wrap (a2 * (IntKind.u64.wrap (rd l1 x15_1)))))) % 4294967296))) - x8_1)) % 4294967296)):=⟨_,rfl⟩
        replace H : (nat_take.l0 k1 y365 l1 a2 ((IntKind.u64.wrap (x7_1 + (IntKind.u64.wrap (a2 * (IntKind.u64.wrap (rd l1 x15_1)))))) / 4294967296) 0 l1 (l1.length : Int) (wrap64 (x15_1 + 1))) = some (r1,r2):=by first|(rw [hy365];with_reducible exact H)|(have H2_:=(Option.bind_some _ _).symm.trans H;rw [hy365];with_reducible exact H2_)|(have H2_:=(Option.bind_some _ _).symm.trans H;with_reducible exact H2_)|with_reducible exact H|(rw [hy365];exact H)|exact H
        have Ny365:=Aside0.mk hy365
        clear hy365
        have H':=Aside0.mk H
        clear H
        have p362 : 0 ≤ (x15_1 : Int):=of_decide_eq_true (by first|(with_reducible assumption)|assumption)
        have q362 : x15_1 < (l1.length : Int):=of_decide_eq_true (by first|(with_reducible assumption)|assumption)
        obtain ⟨ad362,e362,hx362_0⟩:=Kd.at_int (Kd.C_kept_now HR1.out HK.out) x15_1 p362 q362
        cases e362
        replace p362:=eq_true p362
        replace q362:=eq_true q362
        obtain ⟨Ao14,co14,eo14⟩:=Md.R_slice HO_0.out
        subst eo14
        have p363 : 0 ≤ (x15_1 : Int):=of_decide_eq_true (by first|(with_reducible assumption)|assumption)
        have q363 : x15_1 < (x0_1.length : Int):=of_decide_eq_true (by first|(with_reducible assumption)|assumption)
        obtain ⟨ad363,e363,hx363_0⟩:=Kd.at_int (Md.R_reads' HO_0.out).2.2 x15_1 p363 q363
        cases e363
        replace p363:=eq_true p363
        replace q363:=eq_true q363
        have p13 : 0 ≤ (x15_1 : Int):=of_decide_eq_true (by first|(with_reducible assumption)|assumption)
        have q13 : (x15_1 : Int) < ((x0_1.length : Int) : Int):=of_decide_eq_true (by first|(with_reducible assumption)|assumption)
        obtain ⟨go13,co13,eo13,gb13,gl13,cl13,HG13⟩:=Md.R_form HO_0.out (by omega)
        (first|cases eo13|(injection eo13 with ea_ en_ ec_;(first|subst ea_|(injection ea_ with ea_;subst ea_));subst ec_;clear en_))
        have GB13:=Aside0.mk gb13
        have GG13:=Aside0.mk HG13
        clear gb13 gl13 HG13
        have HMgo13:=Aside0.mk (show (P0_ go13 ∨ w.heap.size ≤ go13) from (HO_0.out.1 _ rfl))
        (first|simp only [Md.add_off] at hx363_0|skip)
        obtain ⟨hx13_0,hf13_0⟩:=Md.R_celln 0 HO_0.out (x15_1 : Int) p13 q13
        (try simp only [Int.toNat_natCast] at hx13_0 hf13_0)
        replace p13:=eq_true p13
        replace q13:=eq_true q13
        have HP15:=Md.R_putg HO_0.out (x15_1 : Int) (by have h1_:=of_eq_true p13;have h2_:=of_eq_true q13;omega) ((wrap64 ((wrap64 ((wrap64 (rd x0_1 x15_1)) - ((IntKind.u64.wrap (x7_1 + (IntKind.u64.wrap (a2 * (IntKind.u64.wrap (rd l1 x15_1)))))) % 4294967296))) - x8_1)) % 4294967296)
        go_wp2_with (first|((with_reducible refine gate_store (t:=23) (p:=47) rfl ?_);refine store_event (t:=23) (p:=47) (v:=?vo_w16) (w1:=(wr.setCell ⟨go13,off + (x15_1 : Int).toNat,none⟩ (.int .u32 ((wrap64 ((wrap64 ((wrap64 (rd x0_1 x15_1)) - ((IntKind.u64.wrap (x7_1 + (IntKind.u64.wrap (a2 * (IntKind.u64.wrap (rd l1 x15_1)))))) % 4294967296))) - x8_1)) % 4294967296)))) ?hg ?ho ?hn ?hr ?_;(case ho => rfl);(case hg => rfl);(case hn => rfl);(case hr => first|(go_simp;done)|(go_simp;rfl));intro w16 hw;have hg : wr.grownBy w16 (some go13):=(by rw [hw];exact HP15.2);have hp_ : Md.R off N cap pre post 23 w16 w0.heap.size (fun k_ => (P0_ k_ ∨ w.heap.size ≤ k_)) (.slice (some ⟨go13,off,none⟩) x0_1.length co14) y365:=(by rw [hw,Ny365.out];exact HP15.1);clear HP15;have n0_:=Aside0.mk (hp_);have n1_:=Aside0.mk ((by rw [hw];exact below_set (HB.out) GB13.out : Below w0.heap.size w0 w16));have n2_:=Aside0.mk (Kept.of_grown (S:=(fun k_ => P0_ k_)) hg (by repeat (first|(with_reducible first|exact HK.out|apply Kept.alloc|apply Kept.drewN|apply Kept.drew)|exact HK.out)) (fun k_ e_ => (HO_0.out.1 k_ e_)));clear HO_0;clear HB;clear HK;have HO_0:=n0_;have HB:=n1_;have HK:=n2_;clear n0_ n1_ n2_;clear hg hw hp_))
        go_roundg k1
        case measure => have:=HK1.out;omega
        case rel => exact ⟨(y365),((IntKind.u64.wrap (x7_1 + (IntKind.u64.wrap (a2 * (IntKind.u64.wrap (rd l1 x15_1)))))) / 4294967296),(0),(wrap64 (x15_1 + 1)),(by first|rfl|(simp;done)|(simp [*];done)),(by first|rfl|(simp;done)|(simp [*];done)),(by first|rfl|(simp;done)|(simp [*];done)),H',⟨by have:=HK1.out;omega⟩,⟨by (with_reducible repeat (first|apply Md.R_alloc|apply Md.R_drewN|apply Md.R_drew));exact HO_0.out⟩,⟨by repeat (first|(with_reducible first|exact HK.out|apply Kept.alloc|apply Kept.drewN|apply Kept.drew)|exact HK.out)⟩,⟨by repeat (first|(with_reducible first|exact HB.out|apply below_alloc|apply pw_below_drewN|apply below_drew1)|exact HB.out)⟩⟩
      ·rw [if_neg c7] at H
       exact absurd H (by simp)
     ·rw [if_neg c6] at H
      exact absurd H (by simp)
    ·rw [if_neg c5] at H
     exact absurd H (by simp)
   ·rw [if_neg c4] at H
    have c4b0 : decide (x15_1 < (l1.length : Int)) = false:=decide_eq_false c4
    clear c4
    by_cases c17 : 0 ≤ (l1.length : Int)
    ·rw [if_pos c17] at H
     have c17b0 : decide (0 ≤ (l1.length : Int)) = true:=decide_eq_true c17
     have c17b1 : decide (0 ≤ l1.length) = true:=decide_eq_true (by omega)
     clear c17
     by_cases c18 : (l1.length : Int) < (x0_1.length : Int)
     ·rw [if_pos c18] at H
      have c18b0 : decide ((l1.length : Int) < (x0_1.length : Int)) = true:=decide_eq_true c18
      have c18b1 : decide (l1.length < x0_1.length) = true:=decide_eq_true (Int.ofNat_lt.mp c18)
      clear c18
      obtain ⟨y367,hy367⟩ : ∃ y_ : List Int,y_ = (x0_1.set ((l1.length : Int) : Int).toNat ((wrap64 ((wrap64 ((wrap64 (rd x0_1 (l1.length : Int))) - (wrap64 (x7_1)))) - x8_1)) % 4294967296)):=⟨_,rfl⟩
      replace H : (some (decide ((wrap64 ((wrap64 ((wrap64 (rd x0_1 (l1.length : Int))) - (wrap64 (x7_1)))) - x8_1)) < 0),y367)) = some (r1,r2):=by first|(rw [hy367];with_reducible exact H)|(have H2_:=(Option.bind_some _ _).symm.trans H;rw [hy367];with_reducible exact H2_)|(have H2_:=(Option.bind_some _ _).symm.trans H;with_reducible exact H2_)|with_reducible exact H|(rw [hy367];exact H)|exact H
      have Ny367:=Aside0.mk hy367
      clear hy367
      simp only [Option.some.injEq,Prod.mk.injEq] at H
      obtain ⟨rfl,rfl⟩:=H
      obtain ⟨Ao20,co20,eo20⟩:=Md.R_slice HO_0.out
      subst eo20
      have p366 : 0 ≤ ((l1.length : Int) : Int):=of_decide_eq_true (by first|(with_reducible assumption)|assumption)
      have q366 : (l1.length : Int) < (x0_1.length : Int):=of_decide_eq_true (by first|(with_reducible assumption)|assumption)
      obtain ⟨ad366,e366,hx366_0⟩:=Kd.at_int (Md.R_reads' HO_0.out).2.2 (l1.length : Int) p366 q366
      cases e366
      (try simp only [Go.IntWalk.toNatUp] at hx366_0)
      replace p366:=eq_true p366
      replace q366:=eq_true q366
      have p19 : 0 ≤ ((l1.length : Int) : Int):=of_decide_eq_true (by first|(with_reducible assumption)|assumption)
      have q19 : ((l1.length : Int) : Int) < ((x0_1.length : Int) : Int):=of_decide_eq_true (by first|(with_reducible assumption)|assumption)
      obtain ⟨go19,co19,eo19,gb19,gl19,cl19,HG19⟩:=Md.R_form HO_0.out (by omega)
      (first|cases eo19|(injection eo19 with ea_ en_ ec_;(first|subst ea_|(injection ea_ with ea_;subst ea_));subst ec_;clear en_))
      have GB19:=Aside0.mk gb19
      have GG19:=Aside0.mk HG19
      clear gb19 gl19 HG19
      have HMgo19:=Aside0.mk (show (P0_ go19 ∨ w.heap.size ≤ go19) from (HO_0.out.1 _ rfl))
      (first|simp only [Md.add_off] at hx366_0|skip)
      obtain ⟨hx19_0,hf19_0⟩:=Md.R_celln 0 HO_0.out ((l1.length : Int) : Int) p19 q19
      (try simp only [Int.toNat_natCast] at hx19_0 hf19_0)
      replace p19:=eq_true p19
      replace q19:=eq_true q19
      have HP21:=Md.R_putg HO_0.out ((l1.length : Int) : Int) (by have h1_:=of_eq_true p19;have h2_:=of_eq_true q19;omega) ((wrap64 ((wrap64 ((wrap64 (rd x0_1 (l1.length : Int))) - (wrap64 (x7_1)))) - x8_1)) % 4294967296)
      go_wp2_with (first|((with_reducible refine gate_store (t:=23) (p:=65) rfl ?_);refine store_event (t:=23) (p:=65) (v:=?vo_w22) (w1:=(wr.setCell ⟨go19,off + l1.length,none⟩ (.int .u32 ((wrap64 ((wrap64 ((wrap64 (rd x0_1 (l1.length : Int))) - (wrap64 (x7_1)))) - x8_1)) % 4294967296)))) ?hg ?ho ?hn ?hr ?_;(case ho => rfl);(case hg => rfl);(case hn => rfl);(case hr => first|(go_simp;done)|(go_simp;rfl));intro w22 hw;have hg : wr.grownBy w22 (some go19):=(by rw [hw];exact HP21.2);have hp_ : Md.R off N cap pre post 23 w22 w0.heap.size (fun k_ => (P0_ k_ ∨ w.heap.size ≤ k_)) (.slice (some ⟨go19,off,none⟩) x0_1.length co20) y367:=(by rw [hw,Ny367.out];exact HP21.1);clear HP21;have n0_:=Aside0.mk (hp_);have n1_:=Aside0.mk ((by rw [hw];exact below_set (HB.out) GB19.out : Below w0.heap.size w0 w22));have n2_:=Aside0.mk (Kept.of_grown (S:=(fun k_ => P0_ k_)) hg (by repeat (first|(with_reducible first|exact HK.out|apply Kept.alloc|apply Kept.drewN|apply Kept.drew)|exact HK.out)) (fun k_ e_ => (HO_0.out.1 k_ e_)));clear HO_0;clear HB;clear HK;have HO_0:=n0_;have HB:=n1_;have HK:=n2_;clear n0_ n1_ n2_;clear hg hw hp_))
      (first|go_ret|(refine ⟨_,results_tmp rfl _ _ _,?_⟩))
      exact ⟨by first|rfl|(simp [errW_none,errW_some] <;> rfl)|(simp [*,errW_none,errW_some] <;> rfl),by (with_reducible repeat (first|apply Md.R_alloc|apply Md.R_drewN|apply Md.R_drew));exact HO_0.out,by repeat (first|(with_reducible first|exact HB.out|apply below_alloc|apply pw_below_drewN|apply below_drew1)|exact HB.out),by repeat (first|(with_reducible first|exact HK.out|apply Kept.alloc|apply Kept.drewN|apply Kept.drew)|exact HK.out)⟩
     ·rw [if_neg c18] at H
      exact absurd H (by simp)
    ·rw [if_neg c17] at H
     exact absurd H (by simp)
end Go.Proofs.Yteejcpbngnojkaa.P
end
section
namespace Go.Proofs.Yteejcpbngnojkaa.P
open Go.RowKit Go.Proofs.YteejcpbngnojkaaW.PrintWords Go.Proofs.YteejcpbngnojkaaW.PrintLast Go.Proofs.YteejcpbngnojkaaW.PrintMore
attribute [local go_sem] max2_int min2_int max_two min_two max_three min_three max_four min_four
set_option linter.unusedVariables false
set_option linter.unusedSimpArgs false
mutual
def nat_digit.j2 : Nat → List Int → List Int → Int → Int → Option (Int × List Int)
 |0,_,_,_,_ => none
 |k + 1,x0,x1,x5,x7 => (nat_take.f k x0 x1 x7).bind fun bt375 => (if bt375.1 = true then (nat_digit.l1 k bt375.2 x5 (IntKind.u64.wrap (x7 - 1)) 0 x1 (x1.length : Int) 0) else (some ((x7) % 4294967296,bt375.2)))
def nat_digit.l1 : Nat → List Int → Int → Int → Int → List Int → Int → Int → Option (Int × List Int)
 |0,_,_,_,_,_,_,_ => none
 |k + 1,x0,x5,x7,x9,x83,x84,x85 => if x85 < x84 then (if 0 ≤ x85 then (if x85 < (x83.length : Int) then (if x85 < (x0.length : Int) then (nat_digit.l1 k (x0.set (x85 : Int).toNat ((IntKind.u64.wrap (x9 + (IntKind.u64.wrap ((IntKind.u64.wrap (rd x0 x85)) + (IntKind.u64.wrap (rd x83 x85)))))) % 4294967296)) x5 x7 ((IntKind.u64.wrap (x9 + (IntKind.u64.wrap ((IntKind.u64.wrap (rd x0 x85)) + (IntKind.u64.wrap (rd x83 x85)))))) / 4294967296) x83 x84 (wrap64 (x85 + 1))) else (none)) else (none)) else (none)) else (if 0 ≤ x5 then (if x5 < (x0.length : Int) then (some ((x7) % 4294967296,(x0.set (x5 : Int).toNat (((rd x0 x5) + ((x9) % 4294967296)) % 4294967296)))) else (none)) else (none))
def nat_digit.l0 : Nat → List Int → List Int → Int → Int → Int → Option (Int × List Int)
 |0,_,_,_,_,_ => none
 |k + 1,x0,x1,x5,x7,x8 => if x7 ≥ 4294967296 then (nat_digit.j1 k x0 x1 x5 x7 x8 true) else (if 0 ≤ (wrap64 (x5 - 2)) then (if (wrap64 (x5 - 2)) < (x1.length : Int) then (if (wrap64 (x5 - 2)) < (x0.length : Int) then (nat_digit.j1 k x0 x1 x5 x7 x8 (decide ((IntKind.u64.wrap (x7 * (IntKind.u64.wrap (rd x1 (wrap64 (x5 - 2)))))) > (Go.bits .or .u64 (IntKind.u64.wrap (x8 * 4294967296)) (IntKind.u64.wrap (rd x0 (wrap64 (x5 - 2)))))))) else (none)) else (none)) else (none))
def nat_digit.j1 : Nat → List Int → List Int → Int → Int → Int → Bool → Option (Int × List Int)
 |0,_,_,_,_,_,_ => none
 |k + 1,x0,x1,x5,x7,x8,x64 => if x64 = true then (if 0 ≤ (wrap64 (x5 - 1)) then (if (wrap64 (x5 - 1)) < (x1.length : Int) then (if (IntKind.u64.wrap (x8 + (IntKind.u64.wrap (rd x1 (wrap64 (x5 - 1)))))) ≥ 4294967296 then (nat_digit.j2 k x0 x1 x5 (IntKind.u64.wrap (x7 - 1))) else (nat_digit.l0 k x0 x1 x5 (IntKind.u64.wrap (x7 - 1)) (IntKind.u64.wrap (x8 + (IntKind.u64.wrap (rd x1 (wrap64 (x5 - 1)))))))) else (none)) else (none)) else (nat_digit.j2 k x0 x1 x5 x7)
end
def nat_digit.f (k : Nat) (l0 : List Int) (l1 : List Int) : Option (Int × List Int):=if 0 ≤ (l1.length : Int) then (if (l1.length : Int) < (l0.length : Int) then (if 0 ≤ (wrap64 ((l1.length : Int) - 1)) then (if (wrap64 ((l1.length : Int) - 1)) < (l0.length : Int) then (if (wrap64 ((l1.length : Int) - 1)) < (l1.length : Int) then (if (IntKind.u64.wrap (rd l1 (wrap64 ((l1.length : Int) - 1)))) = 0 then (none) else (nat_digit.l0 k l0 l1 (l1.length : Int) (IntKind.u64.wrap (Int.tdiv (Go.bits .or .u64 (IntKind.u64.wrap ((IntKind.u64.wrap (rd l0 (l1.length : Int))) * 4294967296)) (IntKind.u64.wrap (rd l0 (wrap64 ((l1.length : Int) - 1))))) (IntKind.u64.wrap (rd l1 (wrap64 ((l1.length : Int) - 1)))))) (Int.tmod (Go.bits .or .u64 (IntKind.u64.wrap ((IntKind.u64.wrap (rd l0 (l1.length : Int))) * 4294967296)) (IntKind.u64.wrap (rd l0 (wrap64 ((l1.length : Int) - 1))))) (IntKind.u64.wrap (rd l1 (wrap64 ((l1.length : Int) - 1))))))) else (none)) else (none)) else (none)) else (none)) else (none)
theorem nat_digit.mono_l : ∀ k,(∀ y0 y1 y2 y3,LeO (nat_digit.j2 k y0 y1 y2 y3) (nat_digit.j2 (k + 1) y0 y1 y2 y3)) ∧ (∀ y0 y1 y2 y3 y4 y5 y6,LeO (nat_digit.l1 k y0 y1 y2 y3 y4 y5 y6) (nat_digit.l1 (k + 1) y0 y1 y2 y3 y4 y5 y6)) ∧ (∀ y0 y1 y2 y3 y4,LeO (nat_digit.l0 k y0 y1 y2 y3 y4) (nat_digit.l0 (k + 1) y0 y1 y2 y3 y4)) ∧ (∀ y0 y1 y2 y3 y4 y5,LeO (nat_digit.j1 k y0 y1 y2 y3 y4 y5) (nat_digit.j1 (k + 1) y0 y1 y2 y3 y4 y5))
 |0 => ⟨fun _ _ _ _ r h => by simp [nat_digit.j2] at h,fun _ _ _ _ _ _ _ r h => by simp [nat_digit.l1] at h,fun _ _ _ _ _ r h => by simp [nat_digit.l0] at h,fun _ _ _ _ _ _ r h => by simp [nat_digit.j1] at h⟩
 |k + 1 => by
  obtain ⟨ih0,ih1,ih2,ih3⟩:=nat_digit.mono_l k
  refine ⟨?_,?_,?_,?_⟩
  ·intro y0 y1 y2 y3
   unfold nat_digit.j2
   repeat' first
   |(with_reducible exact ih0 _ _ _ _)
   |(with_reducible exact ih1 _ _ _ _ _ _ _)
   |(with_reducible exact ih2 _ _ _ _ _)
   |(with_reducible exact ih3 _ _ _ _ _ _)
   |(with_reducible exact nat_take.mono _ _ _ _)
   |(with_reducible exact LeO.refl _)
   |(with_reducible exact LeO.none _)
   |(with_reducible refine LeO.ite ?_ ?_)
   |(with_reducible refine LeO.bind ?_ (fun _ => ?_))
   |exact ih0 _ _ _ _
   |exact ih1 _ _ _ _ _ _ _
   |exact ih2 _ _ _ _ _
   |exact ih3 _ _ _ _ _ _
   |exact nat_take.mono _ _ _ _
   |exact LeO.none _
   |refine LeO.ite ?_ ?_
   |refine LeO.bind ?_ (fun _ => ?_)
  ·intro y0 y1 y2 y3 y4 y5 y6
   unfold nat_digit.l1
   repeat' first
   |(with_reducible exact ih0 _ _ _ _)
   |(with_reducible exact ih1 _ _ _ _ _ _ _)
   |(with_reducible exact ih2 _ _ _ _ _)
   |(with_reducible exact ih3 _ _ _ _ _ _)
   |(with_reducible exact nat_take.mono _ _ _ _)
   |(with_reducible exact LeO.refl _)
   |(with_reducible exact LeO.none _)
   |(with_reducible refine LeO.ite ?_ ?_)
   |(with_reducible refine LeO.bind ?_ (fun _ => ?_))
   |exact ih0 _ _ _ _
   |exact ih1 _ _ _ _ _ _ _
   |exact ih2 _ _ _ _ _
   |exact ih3 _ _ _ _ _ _
   |exact nat_take.mono _ _ _ _
   |exact LeO.none _
   |refine LeO.ite ?_ ?_
   |refine LeO.bind ?_ (fun _ => ?_)
  ·intro y0 y1 y2 y3 y4
   unfold nat_digit.l0
   repeat' first
   |(with_reducible exact ih0 _ _ _ _)
   |(with_reducible exact ih1 _ _ _ _ _ _ _)
   |(with_reducible exact ih2 _ _ _ _ _)
   |(with_reducible exact ih3 _ _ _ _ _ _)
   |(with_reducible exact nat_take.mono _ _ _ _)
   |(with_reducible exact LeO.refl _)
   |(with_reducible exact LeO.none _)
   |(with_reducible refine LeO.ite ?_ ?_)
   |(with_reducible refine LeO.bind ?_ (fun _ => ?_))
   |exact ih0 _ _ _ _
   |exact ih1 _ _ _ _ _ _ _
   |exact ih2 _ _ _ _ _
   |exact ih3 _ _ _ _ _ _
   |exact nat_take.mono _ _ _ _
   |exact LeO.none _
   |refine LeO.ite ?_ ?_
   |refine LeO.bind ?_ (fun _ => ?_)
  ·intro y0 y1 y2 y3 y4 y5
   unfold nat_digit.j1
   repeat' first
   |(with_reducible exact ih0 _ _ _ _)
   |(with_reducible exact ih1 _ _ _ _ _ _ _)
   |(with_reducible exact ih2 _ _ _ _ _)
   |(with_reducible exact ih3 _ _ _ _ _ _)
   |(with_reducible exact nat_take.mono _ _ _ _)
   |(with_reducible exact LeO.refl _)
   |(with_reducible exact LeO.none _)
   |(with_reducible refine LeO.ite ?_ ?_)
   |(with_reducible refine LeO.bind ?_ (fun _ => ?_))
   |exact ih0 _ _ _ _
   |exact ih1 _ _ _ _ _ _ _
   |exact ih2 _ _ _ _ _
   |exact ih3 _ _ _ _ _ _
   |exact nat_take.mono _ _ _ _
   |exact LeO.none _
   |refine LeO.ite ?_ ?_
   |refine LeO.bind ?_ (fun _ => ?_)
theorem nat_digit.mono : ∀ a0 a1 k,LeO (nat_digit.f k a0 a1) (nat_digit.f (k + 1) a0 a1):=by
 intro a0 a1 k
 obtain ⟨ih0,ih1,ih2,ih3⟩:=nat_digit.mono_l k
 unfold nat_digit.f
 repeat' first
   |(with_reducible exact ih0 _ _ _ _)
   |(with_reducible exact ih1 _ _ _ _ _ _ _)
   |(with_reducible exact ih2 _ _ _ _ _)
   |(with_reducible exact ih3 _ _ _ _ _ _)
   |(with_reducible exact nat_take.mono _ _ _ _)
   |(with_reducible exact LeO.refl _)
   |(with_reducible exact LeO.none _)
   |(with_reducible refine LeO.ite ?_ ?_)
   |(with_reducible refine LeO.bind ?_ (fun _ => ?_))
   |exact ih0 _ _ _ _
   |exact ih1 _ _ _ _ _ _ _
   |exact ih2 _ _ _ _ _
   |exact ih3 _ _ _ _ _ _
   |exact nat_take.mono _ _ _ _
   |exact LeO.none _
   |refine LeO.ite ?_ ?_
   |refine LeO.bind ?_ (fun _ => ?_)
set_option maxHeartbeats 8000000 in
set_option maxRecDepth 100000 in
theorem nat_digit.calls (k : Nat) (off N cap : Nat) (pre post : List Int) (P0_ : Nat → Prop) (u9000_ : Value) (l0 : List Int) (A1 : Option Addr) (c1 : Nat) (l1 : List Int) (r1 : Int) (r2 : List Int) (w0 w : World) (hB : Below w0.heap.size w0 w) (ho0 : Md.R off N cap pre post 23 w w0.heap.size P0_ u9000_ l0) (hr1 : ∀ W_,Kept w W_ (fun k_ => P0_ k_) → Kd.C (Kd.int .u32) W_ A1 l1.length l1) (hc1 : l1.length ≤ c1) (h : nat_digit.f k l0 l1 = some (r1,r2)) :
  Calls Try.prog 109 #[u9000_,.slice A1 l1.length c1] w fun e w' => e = .returned (.int .u32 r1) ∧ Md.R off N cap pre post 23 w' w0.heap.size (fun k_ => (P0_ k_ ∨ w.heap.size ≤ k_)) u9000_ r2 ∧ Below w0.heap.size w0 w' ∧ Kept w w' (fun k_ => P0_ k_):=by
 have HO0:=Aside0.mk (show Md.R off N cap pre post 23 w w0.heap.size (fun k_ => (P0_ k_ ∨ w.heap.size ≤ k_)) u9000_ l0 from Md.R_mono ho0 (fun k_ hk => (.inl hk)))
 have HR1:=Aside0.mk hr1
 have HC1:=Aside0.mk hc1
 clear hr1 hc1
 have HK:=Aside0.mk (Kept.refl w (fun k_ => P0_ k_))
 have HW0:=Aside0.mk hB.size
 have HB:=Aside0.mk hB
 clear hB
 have H : (if 0 ≤ (l1.length : Int) then (if (l1.length : Int) < (l0.length : Int) then (if 0 ≤ (wrap64 ((l1.length : Int) - 1)) then (if (wrap64 ((l1.length : Int) - 1)) < (l0.length : Int) then (if (wrap64 ((l1.length : Int) - 1)) < (l1.length : Int) then (if (IntKind.u64.wrap (rd l1 (wrap64 ((l1.length : Int) - 1)))) = 0 then (none) else (nat_digit.l0 k l0 l1 (l1.length : Int) (IntKind.u64.wrap (Int.tdiv (Go.bits .or .u64 (IntKind.u64.wrap ((IntKind.u64.wrap (rd l0 (l1.length : Int))) * 4294967296)) (IntKind.u64.wrap (rd l0 (wrap64 ((l1.length : Int) - 1))))) (IntKind.u64.wrap (rd l1 (wrap64 ((l1.length : Int) - 1)))))) (Int.tmod (Go.bits .or .u64 (IntKind.u64.wrap ((IntKind.u64.wrap (rd l0 (l1.length : Int))) * 4294967296)) (IntKind.u64.wrap (rd l0 (wrap64 ((l1.length : Int) - 1))))) (IntKind.u64.wrap (rd l1 (wrap64 ((l1.length : Int) - 1))))))) else (none)) else (none)) else (none)) else (none)) else (none)) = some (r1,r2):=h
 clear h
 by_cases c3 : 0 ≤ (l1.length : Int)
 ·rw [if_pos c3] at H
  have c3b0 : decide (0 ≤ (l1.length : Int)) = true:=decide_eq_true c3
  have c3b1 : decide (0 ≤ l1.length) = true:=decide_eq_true (by omega)
  clear c3
  by_cases c4 : (l1.length : Int) < (l0.length : Int)
  ·rw [if_pos c4] at H
   have c4b0 : decide ((l1.length : Int) < (l0.length : Int)) = true:=decide_eq_true c4
   have c4b1 : decide (l1.length < l0.length) = true:=decide_eq_true (Int.ofNat_lt.mp c4)
   clear c4
   obtain ⟨ji5,hji5⟩ : ∃ j_ : Int,(wrap64 ((l1.length : Int) - 1)) = j_:=⟨_,rfl⟩
   replace H : (if 0 ≤ (ji5) then (if (ji5) < (l0.length : Int) then (if (ji5) < (l1.length : Int) then (if (IntKind.u64.wrap (rd l1 (ji5))) = 0 then (none) else (nat_digit.l0 k l0 l1 (l1.length : Int) (IntKind.u64.wrap (Int.tdiv (Go.bits .or .u64 (IntKind.u64.wrap ((IntKind.u64.wrap (rd l0 (l1.length : Int))) * 4294967296)) (IntKind.u64.wrap (rd l0 (ji5)))) (IntKind.u64.wrap (rd l1 (ji5))))) (Int.tmod (Go.bits .or .u64 (IntKind.u64.wrap ((IntKind.u64.wrap (rd l0 (l1.length : Int))) * 4294967296)) (IntKind.u64.wrap (rd l0 (ji5)))) (IntKind.u64.wrap (rd l1 (ji5)))))) else (none)) else (none)) else (none)) = some (r1,r2):=by first|(rw [hji5] at H;exact H)|(simp only [hji5] at H ⊢;exact H)
   have hji5w : (IntKind.i64.wrap ((l1.length : Int) - 1)) = ji5:=(i64_w _).trans hji5
   by_cases c6 : 0 ≤ (ji5)
   ·rw [if_pos c6] at H
    have c6b0 : decide (0 ≤ (ji5)) = true:=decide_eq_true c6
    clear c6
    by_cases c7 : (ji5) < (l0.length : Int)
    ·rw [if_pos c7] at H
     have c7b0 : decide ((ji5) < (l0.length : Int)) = true:=decide_eq_true c7
     clear c7
     by_cases c8 : (ji5) < (l1.length : Int)
     ·rw [if_pos c8] at H
      have c8b0 : decide ((ji5) < (l1.length : Int)) = true:=decide_eq_true c8
      clear c8
      by_cases c9 : (IntKind.u64.wrap (rd l1 (ji5))) = 0
      ·rw [if_pos c9] at H
       exact absurd H (by simp)
      ·rw [if_neg c9] at H
       have c9b0 : ((IntKind.u64.wrap (rd l1 (ji5))) == 0) = false:=beq_eq_false_iff_ne.mpr c9
       have c9b1 : ((IntKind.u64.wrap (rd l1 (ji5))) != 0) = true:=bne_iff_ne.mpr c9
       have HC10:=Aside0.mk H
       clear H
       obtain ⟨Ao11,co11,eo11⟩:=Md.R_slice HO0.out
       subst eo11
       have p368 : 0 ≤ ((l1.length : Int) : Int):=of_decide_eq_true (by first|(with_reducible assumption)|assumption)
       have q368 : (l1.length : Int) < (l0.length : Int):=of_decide_eq_true (by first|(with_reducible assumption)|assumption)
       obtain ⟨ad368,e368,hx368_0⟩:=Kd.at_int (Md.R_reads' HO0.out).2.2 (l1.length : Int) p368 q368
       cases e368
       (try simp only [Go.IntWalk.toNatUp] at hx368_0)
       replace p368:=eq_true p368
       replace q368:=eq_true q368
       have p369 : 0 ≤ ((ji5) : Int):=of_decide_eq_true (by first|(with_reducible assumption)|assumption)
       have q369 : (ji5) < (l0.length : Int):=of_decide_eq_true (by first|(with_reducible assumption)|assumption)
       obtain ⟨ad369,e369,hx369_0⟩:=Kd.at_int (Md.R_reads' HO0.out).2.2 (ji5) p369 q369
       obtain rfl : ad368 = ad369:=(by injection e369)
       replace p369:=eq_true p369
       replace q369:=eq_true q369
       have p370 : 0 ≤ ((ji5) : Int):=of_decide_eq_true (by first|(with_reducible assumption)|assumption)
       have q370 : (ji5) < (l1.length : Int):=of_decide_eq_true (by first|(with_reducible assumption)|assumption)
       obtain ⟨ad370,e370,hx370_0⟩:=Kd.at_int (Kd.C_kept_now HR1.out HK.out) (ji5) p370 q370
       cases e370
       replace p370:=eq_true p370
       replace q370:=eq_true q370
       have p371 : 0 ≤ ((ji5) : Int):=of_decide_eq_true (by first|(with_reducible assumption)|assumption)
       have q371 : (ji5) < (l1.length : Int):=of_decide_eq_true (by first|(with_reducible assumption)|assumption)
       obtain ⟨ad371,e371,hx371_0⟩:=Kd.at_int (Kd.C_kept_now HR1.out HK.out) (ji5) p371 q371
       obtain rfl : ad370 = ad371:=(by injection e371)
       replace p371:=eq_true p371
       replace q371:=eq_true q371
       go_enter Try.func109,Try.ntmps109
       go_upto_block 0 with (fail)
       repeat (go_quiet (fail);go_upto_block 0 with (fail))
       go_cut [7] (fun v7 wc => ∃ (kq : Nat) (x7_9 : Int),v7 = .int .u64 x7_9 ∧ Aside0 (nat_digit.j2 kq l0 l1 (l1.length : Int) x7_9 = some (r1,r2)) ∧ Aside0 (kq ≤ k) ∧ Aside0 (Md.R off N cap pre post 23 wc w0.heap.size (fun k_ => (P0_ k_ ∨ w.heap.size ≤ k_)) (.slice (some ad368) l0.length co11) l0) ∧ Aside0 (Kept w wc (fun k_ => P0_ k_)) ∧ Aside0 (Below w0.heap.size w0 wc))
       case first =>
        have H:=HC10.out
        clear HC10
        have H':=Aside0.mk H
        clear H
        go_wp2
        repeat (go_quiet (fail);try go_wp2)
        go_loopg [7,8] k (fun kq v7 v8 w' => ∃ (x7_1 : Int) (x8_1 : Int),v7 = .int .u64 x7_1 ∧ v8 = .int .u64 x8_1 ∧ Aside0 (nat_digit.l0 kq l0 l1 (l1.length : Int) x7_1 x8_1 = some (r1,r2)) ∧ Aside0 (kq ≤ k) ∧ Aside0 (Md.R off N cap pre post 23 w' w0.heap.size (fun k_ => (P0_ k_ ∨ w.heap.size ≤ k_)) (.slice (some ad368) l0.length co11) l0) ∧ Aside0 (Kept w w' (fun k_ => P0_ k_)) ∧ Aside0 (Below w0.heap.size w0 w'))
        case atStart => exact ⟨(IntKind.u64.wrap (Int.tdiv (Go.bits .or .u64 (IntKind.u64.wrap ((IntKind.u64.wrap (rd l0 (l1.length : Int))) * 4294967296)) (IntKind.u64.wrap (rd l0 (ji5)))) (IntKind.u64.wrap (rd l1 (ji5))))),(Int.tmod (Go.bits .or .u64 (IntKind.u64.wrap ((IntKind.u64.wrap (rd l0 (l1.length : Int))) * 4294967296)) (IntKind.u64.wrap (rd l0 (ji5)))) (IntKind.u64.wrap (rd l1 (ji5)))),(by first|rfl|(simp;done)|(simp only [← hji5] <;> (first|rfl|simp))|(simp [*];done)),(by first|rfl|(simp;done)|(simp only [← hji5] <;> (first|rfl|simp))|(simp [*];done)),H',⟨Nat.le_refl _⟩,⟨by (with_reducible repeat (first|apply Md.R_alloc|apply Md.R_drewN|apply Md.R_drew));exact HO0.out⟩,⟨by repeat (first|(with_reducible first|exact HK.out|apply Kept.alloc|apply Kept.drewN|apply Kept.drew)|exact HK.out)⟩,⟨by repeat (first|(with_reducible first|exact HB.out|apply below_alloc|apply pw_below_drewN|apply below_drew1)|exact HB.out)⟩⟩
        case round =>
         clear H'
         try clear c1
         try clear p2
         try clear c3
         try clear c3b0
         try clear c3b1
         try clear p3
         try clear q3
         try clear hx3
         try clear c4
         try clear c4b0
         try clear c4b1
         try clear c6
         try clear c6b0
         try clear p6
         try clear c7
         try clear c7b0
         try clear c8
         try clear c8b0
         try clear c9
         try clear c9b0
         try clear c9b1
         try clear c10
         try clear hx368_0
         try clear hx369_0
         try clear hx370_0
         try clear hx371_0
         try clear p368
         try clear p369
         try clear p370
         try clear p371
         try clear q368
         try clear q369
         try clear q370
         try clear q371
         obtain ⟨x7_1,x8_1,rfl,rfl,HA,HK1,HO_0,HK,HB⟩:=hrel
         cases gk with
         |zero => exact absurd HA.out (by simp [nat_digit.l0])
         |succ k1 =>
          have H:=HA.out
          clear HA
          simp only [nat_digit.l0] at H
          have HC12:=Aside0.mk H
          clear H
          go_upto_region 4 with (fail)
          repeat (go_quiet (fail);go_upto_region 4 with (fail))
          go_cut [64] (fun v64 wc => ∃ (kq : Nat) (x64_11 : Bool),v64 = .bool x64_11 ∧ Aside0 (nat_digit.j1 kq l0 l1 (l1.length : Int) x7_1 x8_1 x64_11 = some (r1,r2)) ∧ Aside0 (kq ≤ k1) ∧ Aside0 (Md.R off N cap pre post 23 wc w0.heap.size (fun k_ => (P0_ k_ ∨ w.heap.size ≤ k_)) (.slice (some ad368) l0.length co11) l0) ∧ Aside0 (Kept w wc (fun k_ => P0_ k_)) ∧ Aside0 (Below w0.heap.size w0 wc))
          case first =>
           have H:=HC12.out
           clear HC12
           by_cases c13 : x7_1 ≥ 4294967296
           ·rw [if_pos c13] at H
            have c13b0 : decide (4294967296 ≤ x7_1) = true:=decide_eq_true c13
            clear c13
            (first|rw [c13b0]|(simp only [i64_w,i32_w];rw [c13b0])|skip)
            have H':=Aside0.mk H
            clear H
            go_wp2
            repeat (go_quiet (fail);try go_wp2)
            go_meet
            case rel => exact ⟨_,(true),(by first|rfl|(simp;done)|(simp [*];done)),H',⟨by have:=HK1.out;first|omega|exact Nat.le_refl _⟩,⟨by (with_reducible repeat (first|apply Md.R_alloc|apply Md.R_drewN|apply Md.R_drew));exact HO_0.out⟩,⟨by repeat (first|(with_reducible first|exact HK.out|apply Kept.alloc|apply Kept.drewN|apply Kept.drew)|exact HK.out)⟩,⟨by repeat (first|(with_reducible first|exact HB.out|apply below_alloc|apply pw_below_drewN|apply below_drew1)|exact HB.out)⟩⟩
           ·rw [if_neg c13] at H
            have c13b0 : decide (4294967296 ≤ x7_1) = false:=decide_eq_false c13
            clear c13
            (first|rw [c13b0]|(simp only [i64_w,i32_w];rw [c13b0])|skip)
            obtain ⟨ji14,hji14⟩ : ∃ j_ : Int,(wrap64 ((l1.length : Int) - 2)) = j_:=⟨_,rfl⟩
            replace H : (if 0 ≤ (ji14) then (if (ji14) < (l1.length : Int) then (if (ji14) < (l0.length : Int) then (nat_digit.j1 k1 l0 l1 (l1.length : Int) x7_1 x8_1 (decide ((IntKind.u64.wrap (x7_1 * (IntKind.u64.wrap (rd l1 (ji14))))) > (Go.bits .or .u64 (IntKind.u64.wrap (x8_1 * 4294967296)) (IntKind.u64.wrap (rd l0 (ji14))))))) else (none)) else (none)) else (none)) = some (r1,r2):=by first|(rw [hji14] at H;exact H)|(simp only [hji14] at H ⊢;exact H)
            have hji14w : (IntKind.i64.wrap ((l1.length : Int) - 2)) = ji14:=(i64_w _).trans hji14
            by_cases c15 : 0 ≤ (ji14)
            ·rw [if_pos c15] at H
             have c15b0 : decide (0 ≤ (ji14)) = true:=decide_eq_true c15
             clear c15
             by_cases c16 : (ji14) < (l1.length : Int)
             ·rw [if_pos c16] at H
              have c16b0 : decide ((ji14) < (l1.length : Int)) = true:=decide_eq_true c16
              clear c16
              by_cases c17 : (ji14) < (l0.length : Int)
              ·rw [if_pos c17] at H
               have c17b0 : decide ((ji14) < (l0.length : Int)) = true:=decide_eq_true c17
               clear c17
               have H':=Aside0.mk H
               clear H
               have p372 : 0 ≤ ((ji14) : Int):=of_decide_eq_true (by first|(with_reducible assumption)|assumption)
               have q372 : (ji14) < (l1.length : Int):=of_decide_eq_true (by first|(with_reducible assumption)|assumption)
               obtain ⟨ad372,e372,hx372_0⟩:=Kd.at_int (Kd.C_kept_now HR1.out HK.out) (ji14) p372 q372
               obtain rfl : ad370 = ad372:=(by injection e372)
               replace p372:=eq_true p372
               replace q372:=eq_true q372
               have p373 : 0 ≤ ((ji14) : Int):=of_decide_eq_true (by first|(with_reducible assumption)|assumption)
               have q373 : (ji14) < (l0.length : Int):=of_decide_eq_true (by first|(with_reducible assumption)|assumption)
               obtain ⟨ad373,e373,hx373_0⟩:=Kd.at_int (Md.R_reads' HO_0.out).2.2 (ji14) p373 q373
               obtain rfl : ad368 = ad373:=(by injection e373)
               replace p373:=eq_true p373
               replace q373:=eq_true q373
               go_wp2
               repeat (go_quiet (fail);try go_wp2)
               go_meet
               case rel => exact ⟨_,(decide ((IntKind.u64.wrap (x7_1 * (IntKind.u64.wrap (rd l1 (ji14))))) > (Go.bits .or .u64 (IntKind.u64.wrap (x8_1 * 4294967296)) (IntKind.u64.wrap (rd l0 (ji14)))))),(by first|rfl|(simp;done)|(simp only [← hji14] <;> (first|rfl|simp))|(simp [*];done)),H',⟨by have:=HK1.out;first|omega|exact Nat.le_refl _⟩,⟨by (with_reducible repeat (first|apply Md.R_alloc|apply Md.R_drewN|apply Md.R_drew));exact HO_0.out⟩,⟨by repeat (first|(with_reducible first|exact HK.out|apply Kept.alloc|apply Kept.drewN|apply Kept.drew)|exact HK.out)⟩,⟨by repeat (first|(with_reducible first|exact HB.out|apply below_alloc|apply pw_below_drewN|apply below_drew1)|exact HB.out)⟩⟩
              ·rw [if_neg c17] at H
               exact absurd H (by simp)
             ·rw [if_neg c16] at H
              exact absurd H (by simp)
            ·rw [if_neg c15] at H
             exact absurd H (by simp)
          case rest =>
           clear HC12
           try clear c1
           try clear p2
           try clear c3
           try clear c3b0
           try clear c3b1
           try clear p3
           try clear q3
           try clear hx3
           try clear c4
           try clear c4b0
           try clear c4b1
           try clear c6
           try clear c6b0
           try clear p6
           try clear c7
           try clear c7b0
           try clear c8
           try clear c8b0
           try clear c9
           try clear c9b0
           try clear c9b1
           try clear c10
           try clear c13
           try clear c13b0
           try clear c15
           try clear c15b0
           try clear c16
           try clear c16b0
           try clear c17
           try clear c17b0
           try clear hx368_0
           try clear hx369_0
           try clear hx370_0
           try clear hx371_0
           try clear hx372_0
           try clear hx373_0
           try clear p2
           try clear p3
           try clear p368
           try clear p369
           try clear p370
           try clear p371
           try clear p372
           try clear p373
           try clear p6
           try clear q3
           try clear q368
           try clear q369
           try clear q370
           try clear q371
           try clear q372
           try clear q373
           obtain ⟨kq,x64_11,rfl,HA,HJ11,HO_0,HK,HB⟩:=hcut
           cases kq with
           |zero => exact absurd HA.out (by simp [nat_digit.j1])
           |succ kj11 =>
            have H:=HA.out
            clear HA
            simp only [nat_digit.j1] at H
            by_cases c18 : x64_11 = true
            ·subst c18
             have H1 : (if 0 ≤ (wrap64 ((l1.length : Int) - 1)) then (if (wrap64 ((l1.length : Int) - 1)) < (l1.length : Int) then (if (IntKind.u64.wrap (x8_1 + (IntKind.u64.wrap (rd l1 (wrap64 ((l1.length : Int) - 1)))))) ≥ 4294967296 then (nat_digit.j2 kj11 l0 l1 (l1.length : Int) (IntKind.u64.wrap (x7_1 - 1))) else (nat_digit.l0 kj11 l0 l1 (l1.length : Int) (IntKind.u64.wrap (x7_1 - 1)) (IntKind.u64.wrap (x8_1 + (IntKind.u64.wrap (rd l1 (wrap64 ((l1.length : Int) - 1)))))))) else (none)) else (none)) = some (r1,r2):=by rw [if_pos rfl] at H;exact H
             clear H
             have H:=H1
             clear H1
             obtain ⟨ji19,hji19⟩ : ∃ j_ : Int,(wrap64 ((l1.length : Int) - 1)) = j_:=⟨_,rfl⟩
             obtain rfl : ji19 = ji5:=hji19.symm.trans hji5
             replace H : (if 0 ≤ (ji19) then (if (ji19) < (l1.length : Int) then (if (IntKind.u64.wrap (x8_1 + (IntKind.u64.wrap (rd l1 (ji19))))) ≥ 4294967296 then (nat_digit.j2 kj11 l0 l1 (l1.length : Int) (IntKind.u64.wrap (x7_1 - 1))) else (nat_digit.l0 kj11 l0 l1 (l1.length : Int) (IntKind.u64.wrap (x7_1 - 1)) (IntKind.u64.wrap (x8_1 + (IntKind.u64.wrap (rd l1 (ji19))))))) else (none)) else (none)) = some (r1,r2):=by first|(rw [hji19] at H;exact H)|(simp only [hji19] at H ⊢;exact H)
             have hji19w : (IntKind.i64.wrap ((l1.length : Int) - 1)) = ji19:=(i64_w _).trans hji19
             by_cases c20 : 0 ≤ (ji19)
             ·rw [if_pos c20] at H
              have c20b0 : decide (0 ≤ (ji19)) = true:=decide_eq_true c20
              clear c20
              by_cases c21 : (ji19) < (l1.length : Int)
              ·rw [if_pos c21] at H
               have c21b0 : decide ((ji19) < (l1.length : Int)) = true:=decide_eq_true c21
               clear c21
               by_cases c22 : (IntKind.u64.wrap (x8_1 + (IntKind.u64.wrap (rd l1 (ji19))))) ≥ 4294967296
               ·rw [if_pos c22] at H
                have c22b0 : decide (4294967296 ≤ (IntKind.u64.wrap (x8_1 + (IntKind.u64.wrap (rd l1 (ji19)))))) = true:=decide_eq_true c22
                clear c22
                have H':=Aside0.mk H
                clear H
                have p374 : 0 ≤ ((ji19) : Int):=of_decide_eq_true (by first|(with_reducible assumption)|assumption)
                have q374 : (ji19) < (l1.length : Int):=of_decide_eq_true (by first|(with_reducible assumption)|assumption)
                obtain ⟨ad374,e374,hx374_0⟩:=Kd.at_int (Kd.C_kept_now HR1.out HK.out) (ji19) p374 q374
                obtain rfl : ad370 = ad374:=(by injection e374)
                replace p374:=eq_true p374
                replace q374:=eq_true q374
                go_wp2
                repeat (go_quiet (fail);try go_wp2)
                go_meet
                case rel => exact ⟨_,(IntKind.u64.wrap (x7_1 - 1)),(by first|rfl|(simp;done)|(simp [*];done)),H',⟨by have:=HK1.out;have:=HJ11.out;first|omega|exact Nat.le_refl _⟩,⟨by (with_reducible repeat (first|apply Md.R_alloc|apply Md.R_drewN|apply Md.R_drew));exact HO_0.out⟩,⟨by repeat (first|(with_reducible first|exact HK.out|apply Kept.alloc|apply Kept.drewN|apply Kept.drew)|exact HK.out)⟩,⟨by repeat (first|(with_reducible first|exact HB.out|apply below_alloc|apply pw_below_drewN|apply below_drew1)|exact HB.out)⟩⟩
               ·rw [if_neg c22] at H
                have c22b0 : decide (4294967296 ≤ (IntKind.u64.wrap (x8_1 + (IntKind.u64.wrap (rd l1 (ji19)))))) = false:=decide_eq_false c22
                clear c22
                have H':=Aside0.mk H
                clear H
                have p374 : 0 ≤ ((ji19) : Int):=of_decide_eq_true (by first|(with_reducible assumption)|assumption)
                have q374 : (ji19) < (l1.length : Int):=of_decide_eq_true (by first|(with_reducible assumption)|assumption)
                obtain ⟨ad374,e374,hx374_0⟩:=Kd.at_int (Kd.C_kept_now HR1.out HK.out) (ji19) p374 q374
                obtain rfl : ad370 = ad374:=(by injection e374)
                replace p374:=eq_true p374
                replace q374:=eq_true q374
                go_wp2
                repeat (go_quiet (fail);try go_wp2)
                (try simp only [← Md.add_off])
                go_roundg kj11
                case measure => have:=HK1.out;have:=HJ11.out;omega
                case rel => exact ⟨(IntKind.u64.wrap (x7_1 - 1)),(IntKind.u64.wrap (x8_1 + (IntKind.u64.wrap (rd l1 (ji19))))),(by first|rfl|(simp;done)|(simp [*];done)),(by first|rfl|(simp;done)|(simp only [← hji19] <;> (first|rfl|simp))|(simp [*];done)),H',⟨by have:=HK1.out;have:=HJ11.out;omega⟩,⟨by (with_reducible repeat (first|apply Md.R_alloc|apply Md.R_drewN|apply Md.R_drew));exact HO_0.out⟩,⟨by repeat (first|(with_reducible first|exact HK.out|apply Kept.alloc|apply Kept.drewN|apply Kept.drew)|exact HK.out)⟩,⟨by repeat (first|(with_reducible first|exact HB.out|apply below_alloc|apply pw_below_drewN|apply below_drew1)|exact HB.out)⟩⟩
              ·rw [if_neg c21] at H
               exact absurd H (by simp)
             ·rw [if_neg c20] at H
              exact absurd H (by simp)
            ·replace c18:=Bool.eq_false_iff.mpr c18
             subst c18
             have H1 : (nat_digit.j2 kj11 l0 l1 (l1.length : Int) x7_1) = some (r1,r2):=by rw [if_neg (show ¬ (false = true) by decide)] at H;exact H
             clear H
             have H:=H1
             clear H1
             have H':=Aside0.mk H
             clear H
             go_wp2
             repeat (go_quiet (fail);try go_wp2)
             go_meet
             case rel => exact ⟨_,(x7_1),(by first|rfl|(simp;done)|(simp [*];done)),H',⟨by have:=HK1.out;have:=HJ11.out;first|omega|exact Nat.le_refl _⟩,⟨by (with_reducible repeat (first|apply Md.R_alloc|apply Md.R_drewN|apply Md.R_drew));exact HO_0.out⟩,⟨by repeat (first|(with_reducible first|exact HK.out|apply Kept.alloc|apply Kept.drewN|apply Kept.drew)|exact HK.out)⟩,⟨by repeat (first|(with_reducible first|exact HB.out|apply below_alloc|apply pw_below_drewN|apply below_drew1)|exact HB.out)⟩⟩
       case rest =>
        clear HC10
        try clear c1
        try clear c2
        try clear p2
        try clear c3
        try clear c3b0
        try clear c3b1
        try clear p3
        try clear q3
        try clear hx3
        try clear c4
        try clear c4b0
        try clear c4b1
        try clear c6
        try clear c6b0
        try clear p6
        try clear c7
        try clear c7b0
        try clear c8
        try clear c8b0
        try clear c9
        try clear c9b0
        try clear c9b1
        try clear c10
        try clear c13
        try clear c13b0
        try clear c15
        try clear c15b0
        try clear c16
        try clear c16b0
        try clear c17
        try clear c17b0
        try clear c18
        try clear c20
        try clear c20b0
        try clear c21
        try clear c21b0
        try clear c22
        try clear c22b0
        try clear hx368_0
        try clear hx369_0
        try clear hx370_0
        try clear hx371_0
        try clear hx372_0
        try clear hx373_0
        try clear hx374_0
        try clear p2
        try clear p3
        try clear p368
        try clear p369
        try clear p370
        try clear p371
        try clear p372
        try clear p373
        try clear p374
        try clear p6
        try clear q3
        try clear q368
        try clear q369
        try clear q370
        try clear q371
        try clear q372
        try clear q373
        try clear q374
        obtain ⟨kq,x7_9,rfl,HA,HJ9,HO_0,HK,HB⟩:=hcut
        cases kq with
        |zero => exact absurd HA.out (by simp [nat_digit.j2])
        |succ kj9 =>
         have H:=HA.out
         clear HA
         simp only [nat_digit.j2] at H
         replace H:=Option.bind_eq_some_iff.mp H
         obtain ⟨⟨t375,t376⟩,A230,H⟩:=H
         replace H : (if t375 = true then (nat_digit.l1 kj9 t376 (l1.length : Int) (IntKind.u64.wrap (x7_9 - 1)) 0 l1 (l1.length : Int) 0) else (some ((x7_9) % 4294967296,t376))) = some (r1,r2):=H
         have A23:=Aside0.mk A230
         clear A230
         by_cases c24 : t375 = true
         ·subst c24
          have H1 : (nat_digit.l1 kj9 t376 (l1.length : Int) (IntKind.u64.wrap (x7_9 - 1)) 0 l1 (l1.length : Int) 0) = some (r1,r2):=by rw [if_pos rfl] at H;exact H
          clear H
          have H:=H1
          clear H1
          have H':=Aside0.mk H
          clear H
          go_wp2_with (first|(go_at_call 132;(with_reducible refine (nat_take.calls kj9 off N cap pre post (fun k_ => some k_ = (.slice (some ad368) l0.length co11 : Value).ownBlock) (.slice (some ad368) l0.length co11) l0 _ _ l1 x7_9 true t376 w0 _ ?side1 ?side2 ?side3 ?side4 A23.out).mono ?_);(case side1 => repeat (first|(with_reducible first|exact HB.out|apply below_alloc|apply pw_below_drewN|apply below_drew1)|exact HB.out));(case side2 => exact Md.R_tight rfl HO_0.out);(case side3 => exact Kd.C_kept_call HR1.out (by repeat (first|(with_reducible first|exact HK.out|apply Kept.alloc|apply Kept.drewN|apply Kept.drew)|exact HK.out)) (fun k_ hs_ => (fun e_ => (HO_0.out.1 k_ e_.symm)) hs_));(case side4 => exact HC1.out);rintro e w25 ⟨rfl,hy0,hb,hkp⟩;have n0_:=Aside0.mk (Md.R_reok rfl hy0 (fun k_ e_ => HO_0.out.1 k_ e_));have n1_:=Aside0.mk (Kept.then_ (S:=(fun k_ => P0_ k_)) (by repeat (first|(with_reducible first|exact HK.out|apply Kept.alloc|apply Kept.drewN|apply Kept.drew)|exact HK.out)) hkp (fun k_ hs_ => (fun e_ => (HO_0.out.1 k_ e_.symm)) hs_));have n2_:=Aside0.mk (hb);clear HO_0;clear HK;clear HB;have HO_0:=n0_;have HK:=n1_;have HB:=n2_;clear n0_ n1_ n2_;(try clear hb);(try clear hkp);(try clear hy0)))
          repeat (go_quiet (first|(go_at_call 132;(with_reducible refine (nat_take.calls kj9 off N cap pre post (fun k_ => some k_ = (.slice (some ad368) l0.length co11 : Value).ownBlock) (.slice (some ad368) l0.length co11) l0 _ _ l1 x7_9 true t376 w0 _ ?side1 ?side2 ?side3 ?side4 A23.out).mono ?_);(case side1 => repeat (first|(with_reducible first|exact HB.out|apply below_alloc|apply pw_below_drewN|apply below_drew1)|exact HB.out));(case side2 => exact Md.R_tight rfl HO_0.out);(case side3 => exact Kd.C_kept_call HR1.out (by repeat (first|(with_reducible first|exact HK.out|apply Kept.alloc|apply Kept.drewN|apply Kept.drew)|exact HK.out)) (fun k_ hs_ => (fun e_ => (HO_0.out.1 k_ e_.symm)) hs_));(case side4 => exact HC1.out);rintro e w25 ⟨rfl,hy0,hb,hkp⟩;have n0_:=Aside0.mk (Md.R_reok rfl hy0 (fun k_ e_ => HO_0.out.1 k_ e_));have n1_:=Aside0.mk (Kept.then_ (S:=(fun k_ => P0_ k_)) (by repeat (first|(with_reducible first|exact HK.out|apply Kept.alloc|apply Kept.drewN|apply Kept.drew)|exact HK.out)) hkp (fun k_ hs_ => (fun e_ => (HO_0.out.1 k_ e_.symm)) hs_));have n2_:=Aside0.mk (hb);clear HO_0;clear HK;clear HB;have HO_0:=n0_;have HK:=n1_;have HB:=n2_;clear n0_ n1_ n2_;(try clear hb);(try clear hkp);(try clear hy0)));try go_wp2_with (first|(go_at_call 132;(with_reducible refine (nat_take.calls kj9 off N cap pre post (fun k_ => some k_ = (.slice (some ad368) l0.length co11 : Value).ownBlock) (.slice (some ad368) l0.length co11) l0 _ _ l1 x7_9 true t376 w0 _ ?side1 ?side2 ?side3 ?side4 A23.out).mono ?_);(case side1 => repeat (first|(with_reducible first|exact HB.out|apply below_alloc|apply pw_below_drewN|apply below_drew1)|exact HB.out));(case side2 => exact Md.R_tight rfl HO_0.out);(case side3 => exact Kd.C_kept_call HR1.out (by repeat (first|(with_reducible first|exact HK.out|apply Kept.alloc|apply Kept.drewN|apply Kept.drew)|exact HK.out)) (fun k_ hs_ => (fun e_ => (HO_0.out.1 k_ e_.symm)) hs_));(case side4 => exact HC1.out);rintro e w25 ⟨rfl,hy0,hb,hkp⟩;have n0_:=Aside0.mk (Md.R_reok rfl hy0 (fun k_ e_ => HO_0.out.1 k_ e_));have n1_:=Aside0.mk (Kept.then_ (S:=(fun k_ => P0_ k_)) (by repeat (first|(with_reducible first|exact HK.out|apply Kept.alloc|apply Kept.drewN|apply Kept.drew)|exact HK.out)) hkp (fun k_ hs_ => (fun e_ => (HO_0.out.1 k_ e_.symm)) hs_));have n2_:=Aside0.mk (hb);clear HO_0;clear HK;clear HB;have HO_0:=n0_;have HK:=n1_;have HB:=n2_;clear n0_ n1_ n2_;(try clear hb);(try clear hkp);(try clear hy0))))
          go_loopg [9,85] kj9 (fun kq v9 v85 w' => ∃ (x0_2 : List Int) (x9_2 : Int) (x85_2 : Int),v9 = .int .u64 x9_2 ∧ v85 = .int .i64 x85_2 ∧ Aside0 (nat_digit.l1 kq x0_2 (l1.length : Int) (IntKind.u64.wrap (x7_9 - 1)) x9_2 l1 (l1.length : Int) x85_2 = some (r1,r2)) ∧ Aside0 (kq ≤ kj9) ∧ Aside0 (Md.R off N cap pre post 23 w' w0.heap.size (fun k_ => (P0_ k_ ∨ w.heap.size ≤ k_)) (.slice (some ad368) l0.length co11) x0_2) ∧ Aside0 (Kept w w' (fun k_ => P0_ k_)) ∧ Aside0 (Below w0.heap.size w0 w'))
          case atStart => exact ⟨(t376),(0),(0),(by first|rfl|(simp;done)|(simp [*];done)),(by first|rfl|(simp;done)|(simp [*];done)),H',⟨Nat.le_refl _⟩,⟨by (with_reducible repeat (first|apply Md.R_alloc|apply Md.R_drewN|apply Md.R_drew));exact HO_0.out⟩,⟨by repeat (first|(with_reducible first|exact HK.out|apply Kept.alloc|apply Kept.drewN|apply Kept.drew)|exact HK.out)⟩,⟨by repeat (first|(with_reducible first|exact HB.out|apply below_alloc|apply pw_below_drewN|apply below_drew1)|exact HB.out)⟩⟩
          case round =>
           clear H'
           try clear c1
           try clear c2
           try clear p2
           try clear c3
           try clear c3b0
           try clear c3b1
           try clear p3
           try clear q3
           try clear hx3
           try clear c4
           try clear c4b0
           try clear c4b1
           try clear c6
           try clear c6b0
           try clear p6
           try clear c7
           try clear c7b0
           try clear c8
           try clear c8b0
           try clear c9
           try clear c9b0
           try clear c9b1
           try clear c10
           try clear c13
           try clear c13b0
           try clear c15
           try clear c15b0
           try clear c16
           try clear c16b0
           try clear c17
           try clear c17b0
           try clear c18
           try clear c20
           try clear c20b0
           try clear c21
           try clear c21b0
           try clear c22
           try clear c22b0
           try clear c24
           try clear hx368_0
           try clear hx369_0
           try clear hx370_0
           try clear hx371_0
           try clear hx372_0
           try clear hx373_0
           try clear hx374_0
           try clear p2
           try clear p3
           try clear p368
           try clear p369
           try clear p370
           try clear p371
           try clear p372
           try clear p373
           try clear p374
           try clear p6
           try clear q3
           try clear q368
           try clear q369
           try clear q370
           try clear q371
           try clear q372
           try clear q373
           try clear q374
           obtain ⟨x0_2,x9_2,x85_2,rfl,rfl,HA,HK2,HO_0,HK,HB⟩:=hrel
           have hl0_2:=(Md.R_reads' HO_0.out).1
           rw [hl0_2] at HO_0
           (try simp only [hl0_2])
           cases gk with
           |zero => exact absurd HA.out (by simp [nat_digit.l1])
           |succ k2 =>
            have H:=HA.out
            clear HA
            simp only [nat_digit.l1] at H
            by_cases c26 : x85_2 < (l1.length : Int)
            ·rw [if_pos c26] at H
             have c26b0 : decide (x85_2 < (l1.length : Int)) = true:=decide_eq_true c26
             clear c26
             by_cases c27 : 0 ≤ x85_2
             ·rw [if_pos c27] at H
              have c27b0 : decide (0 ≤ x85_2) = true:=decide_eq_true c27
              clear c27
              by_cases c28 : x85_2 < (l1.length : Int)
              ·rw [if_pos c28] at H
               have c28b0 : decide (x85_2 < (l1.length : Int)) = true:=decide_eq_true c28
               clear c28
               by_cases c29 : x85_2 < (x0_2.length : Int)
               ·rw [if_pos c29] at H
                have c29b0 : decide (x85_2 < (x0_2.length : Int)) = true:=decide_eq_true c29
                clear c29
                obtain ⟨y379,hy379⟩ : ∃ y_ : List Int,y_ = (x0_2.set (x85_2 : Int).toNat ((IntKind.u64.wrap (x9_2 + (IntKind.u64.wrap ((IntKind.u64.wrap (rd x0_2 x85_2)) + (IntKind.u64.wrap (rd l1 x85_2)))))) % 4294967296)):=⟨_,rfl⟩
                replace H : (nat_digit.l1 k2 y379 (l1.length : Int) (IntKind.u64.wrap (x7_9 - 1)) ((IntKind.u64.wrap (x9_2 + (IntKind.u64.wrap ((IntKind.u64.wrap (rd x0_2 x85_2)) + (IntKind.u64.wrap (rd l1 x85_2)))))) / 4294967296) l1 (l1.length : Int) (wrap64 (x85_2 + 1))) = some (r1,r2):=by first|(rw [hy379];with_reducible exact H)|(have H2_:=(Option.bind_some _ _).symm.trans H;rw [hy379];with_reducible exact H2_)|(have H2_:=(Option.bind_some _ _).symm.trans H;with_reducible exact H2_)|with_reducible exact H|(rw [hy379];exact H)|exact H
                have Ny379:=Aside0.mk hy379
                clear hy379
                have H':=Aside0.mk H
                clear H
                have p377 : 0 ≤ (x85_2 : Int):=of_decide_eq_true (by first|(with_reducible assumption)|assumption)
                have q377 : x85_2 < (l1.length : Int):=of_decide_eq_true (by first|(with_reducible assumption)|assumption)
                obtain ⟨ad377,e377,hx377_0⟩:=Kd.at_int (Kd.C_kept_now HR1.out HK.out) x85_2 p377 q377
                obtain rfl : ad370 = ad377:=(by injection e377)
                replace p377:=eq_true p377
                replace q377:=eq_true q377
                have p378 : 0 ≤ (x85_2 : Int):=of_decide_eq_true (by first|(with_reducible assumption)|assumption)
                have q378 : x85_2 < (x0_2.length : Int):=of_decide_eq_true (by first|(with_reducible assumption)|assumption)
                obtain ⟨ad378,e378,hx378_0⟩:=Kd.at_int (Md.R_reads' HO_0.out).2.2 x85_2 p378 q378
                obtain rfl : ad368 = ad378:=(by injection e378)
                replace p378:=eq_true p378
                replace q378:=eq_true q378
                have p30 : 0 ≤ (x85_2 : Int):=of_decide_eq_true (by first|(with_reducible assumption)|assumption)
                have q30 : (x85_2 : Int) < ((x0_2.length : Int) : Int):=of_decide_eq_true (by first|(with_reducible assumption)|assumption)
                obtain ⟨go30,co30,eo30,gb30,gl30,cl30,HG30⟩:=Md.R_form HO_0.out (by omega)
                (first|cases eo30|(injection eo30 with ea_ en_ ec_;(first|subst ea_|(injection ea_ with ea_;subst ea_));subst ec_;clear en_))
                have GB30:=Aside0.mk gb30
                have GG30:=Aside0.mk HG30
                clear gb30 gl30 HG30
                have HMgo30:=Aside0.mk (show (P0_ go30 ∨ w.heap.size ≤ go30) from (HO_0.out.1 _ rfl))
                (first|simp only [Md.add_off] at hx368_0|skip)
                (first|simp only [Md.add_off] at hx369_0|skip)
                (first|simp only [Md.add_off] at hx373_0|skip)
                (first|simp only [Md.add_off] at hx378_0|skip)
                obtain ⟨hx30_0,hf30_0⟩:=Md.R_celln 0 HO_0.out (x85_2 : Int) p30 q30
                (try simp only [Int.toNat_natCast] at hx30_0 hf30_0)
                replace p30:=eq_true p30
                replace q30:=eq_true q30
                have HP31:=Md.R_putg HO_0.out (x85_2 : Int) (by have h1_:=of_eq_true p30;have h2_:=of_eq_true q30;omega) ((IntKind.u64.wrap (x9_2 + (IntKind.u64.wrap ((IntKind.u64.wrap (rd x0_2 x85_2)) + (IntKind.u64.wrap (rd l1 x85_2)))))) % 4294967296)
                go_wp2_with (first|((with_reducible refine gate_store (t:=23) (p:=104) rfl ?_);(try (rw [drewN_self wr];generalize hq_ : World.drewN wr _ = wr;have n0_:=Aside0.mk (Md.R_at hq_ HO_0.out);have n1_:=Aside0.mk (kept_at hq_ HK.out);have n2_:=Aside0.mk (below_at hq_ HB.out);clear hq_ HO_0 HK HB;have HO_0:=n0_;have HK:=n1_;have HB:=n2_;clear n0_ n1_ n2_;(try (have HP31:=Md.R_putg HO_0.out (x85_2 : Int) ((IntKind.u64.wrap (x9_2 + (IntKind.u64.wrap ((IntKind.u64.wrap (rd x0_2 x85_2)) + (IntKind.u64.wrap (rd l1 x85_2)))))) % 4294967296)))));refine store_event (t:=23) (p:=104) (v:=?vo_w32) (w1:=(wr.setCell ⟨go30,off + (x85_2 : Int).toNat,none⟩ (.int .u32 ((IntKind.u64.wrap (x9_2 + (IntKind.u64.wrap ((IntKind.u64.wrap (rd x0_2 x85_2)) + (IntKind.u64.wrap (rd l1 x85_2)))))) % 4294967296)))) ?hg ?ho ?hn ?hr ?_;(case ho => rfl);(case hg => rfl);(case hn => rfl);(case hr => first|(go_simp;done)|(go_simp;rfl));intro w32 hw;have hg : wr.grownBy w32 (some go30):=(by rw [hw];exact HP31.2);have hp_ : Md.R off N cap pre post 23 w32 w0.heap.size (fun k_ => (P0_ k_ ∨ w.heap.size ≤ k_)) (.slice (some ⟨go30,off,none⟩) x0_2.length co11) y379:=(by rw [hw,Ny379.out];exact HP31.1);clear HP31;have n0_:=Aside0.mk (hp_);have n1_:=Aside0.mk ((by rw [hw];exact below_set (HB.out) GB30.out : Below w0.heap.size w0 w32));have n2_:=Aside0.mk (Kept.of_grown (S:=(fun k_ => P0_ k_)) hg (by repeat (first|(with_reducible first|exact HK.out|apply Kept.alloc|apply Kept.drewN|apply Kept.drew)|exact HK.out)) (fun k_ e_ => (HO_0.out.1 k_ e_)));clear HO_0;clear HB;clear HK;have HO_0:=n0_;have HB:=n1_;have HK:=n2_;clear n0_ n1_ n2_;clear hg hw hp_))
                repeat (go_quiet (first|((with_reducible refine gate_store (t:=23) (p:=104) rfl ?_);(try (rw [drewN_self wr];generalize hq_ : World.drewN wr _ = wr;have n0_:=Aside0.mk (Md.R_at hq_ HO_0.out);have n1_:=Aside0.mk (kept_at hq_ HK.out);have n2_:=Aside0.mk (below_at hq_ HB.out);clear hq_ HO_0 HK HB;have HO_0:=n0_;have HK:=n1_;have HB:=n2_;clear n0_ n1_ n2_;(try (have HP31:=Md.R_putg HO_0.out (x85_2 : Int) ((IntKind.u64.wrap (x9_2 + (IntKind.u64.wrap ((IntKind.u64.wrap (rd x0_2 x85_2)) + (IntKind.u64.wrap (rd l1 x85_2)))))) % 4294967296)))));refine store_event (t:=23) (p:=104) (v:=?vo_w32) (w1:=(wr.setCell ⟨go30,off + (x85_2 : Int).toNat,none⟩ (.int .u32 ((IntKind.u64.wrap (x9_2 + (IntKind.u64.wrap ((IntKind.u64.wrap (rd x0_2 x85_2)) + (IntKind.u64.wrap (rd l1 x85_2)))))) % 4294967296)))) ?hg ?ho ?hn ?hr ?_;(case ho => rfl);(case hg => rfl);(case hn => rfl);(case hr => first|(go_simp;done)|(go_simp;rfl));intro w32 hw;have hg : wr.grownBy w32 (some go30):=(by rw [hw];exact HP31.2);have hp_ : Md.R off N cap pre post 23 w32 w0.heap.size (fun k_ => (P0_ k_ ∨ w.heap.size ≤ k_)) (.slice (some ⟨go30,off,none⟩) x0_2.length co11) y379:=(by rw [hw,Ny379.out];exact HP31.1);clear HP31;have n0_:=Aside0.mk (hp_);have n1_:=Aside0.mk ((by rw [hw];exact below_set (HB.out) GB30.out : Below w0.heap.size w0 w32));have n2_:=Aside0.mk (Kept.of_grown (S:=(fun k_ => P0_ k_)) hg (by repeat (first|(with_reducible first|exact HK.out|apply Kept.alloc|apply Kept.drewN|apply Kept.drew)|exact HK.out)) (fun k_ e_ => (HO_0.out.1 k_ e_)));clear HO_0;clear HB;clear HK;have HO_0:=n0_;have HB:=n1_;have HK:=n2_;clear n0_ n1_ n2_;clear hg hw hp_));try go_wp2_with (first|((with_reducible refine gate_store (t:=23) (p:=104) rfl ?_);(try (rw [drewN_self wr];generalize hq_ : World.drewN wr _ = wr;have n0_:=Aside0.mk (Md.R_at hq_ HO_0.out);have n1_:=Aside0.mk (kept_at hq_ HK.out);have n2_:=Aside0.mk (below_at hq_ HB.out);clear hq_ HO_0 HK HB;have HO_0:=n0_;have HK:=n1_;have HB:=n2_;clear n0_ n1_ n2_;(try (have HP31:=Md.R_putg HO_0.out (x85_2 : Int) ((IntKind.u64.wrap (x9_2 + (IntKind.u64.wrap ((IntKind.u64.wrap (rd x0_2 x85_2)) + (IntKind.u64.wrap (rd l1 x85_2)))))) % 4294967296)))));refine store_event (t:=23) (p:=104) (v:=?vo_w32) (w1:=(wr.setCell ⟨go30,off + (x85_2 : Int).toNat,none⟩ (.int .u32 ((IntKind.u64.wrap (x9_2 + (IntKind.u64.wrap ((IntKind.u64.wrap (rd x0_2 x85_2)) + (IntKind.u64.wrap (rd l1 x85_2)))))) % 4294967296)))) ?hg ?ho ?hn ?hr ?_;(case ho => rfl);(case hg => rfl);(case hn => rfl);(case hr => first|(go_simp;done)|(go_simp;rfl));intro w32 hw;have hg : wr.grownBy w32 (some go30):=(by rw [hw];exact HP31.2);have hp_ : Md.R off N cap pre post 23 w32 w0.heap.size (fun k_ => (P0_ k_ ∨ w.heap.size ≤ k_)) (.slice (some ⟨go30,off,none⟩) x0_2.length co11) y379:=(by rw [hw,Ny379.out];exact HP31.1);clear HP31;have n0_:=Aside0.mk (hp_);have n1_:=Aside0.mk ((by rw [hw];exact below_set (HB.out) GB30.out : Below w0.heap.size w0 w32));have n2_:=Aside0.mk (Kept.of_grown (S:=(fun k_ => P0_ k_)) hg (by repeat (first|(with_reducible first|exact HK.out|apply Kept.alloc|apply Kept.drewN|apply Kept.drew)|exact HK.out)) (fun k_ e_ => (HO_0.out.1 k_ e_)));clear HO_0;clear HB;clear HK;have HO_0:=n0_;have HB:=n1_;have HK:=n2_;clear n0_ n1_ n2_;clear hg hw hp_)))
                (try simp only [← hl0_2])
                (try simp only [← Md.add_off])
                go_roundg k2
                case measure => have:=HJ9.out;have:=HK2.out;omega
                case rel => exact ⟨(y379),((IntKind.u64.wrap (x9_2 + (IntKind.u64.wrap ((IntKind.u64.wrap (rd x0_2 x85_2)) + (IntKind.u64.wrap (rd l1 x85_2)))))) / 4294967296),(wrap64 (x85_2 + 1)),(by first|rfl|(simp;done)|(simp [*];done)),(by first|rfl|(simp;done)|(simp [*];done)),H',⟨by have:=HJ9.out;have:=HK2.out;omega⟩,⟨by (try simp only [hl0_2]);(with_reducible repeat (first|apply Md.R_alloc|apply Md.R_drewN|apply Md.R_drew));exact HO_0.out⟩,⟨by repeat (first|(with_reducible first|exact HK.out|apply Kept.alloc|apply Kept.drewN|apply Kept.drew)|exact HK.out)⟩,⟨by repeat (first|(with_reducible first|exact HB.out|apply below_alloc|apply pw_below_drewN|apply below_drew1)|exact HB.out)⟩⟩
               ·rw [if_neg c29] at H
                exact absurd H (by simp)
              ·rw [if_neg c28] at H
               exact absurd H (by simp)
             ·rw [if_neg c27] at H
              exact absurd H (by simp)
            ·rw [if_neg c26] at H
             have c26b0 : decide (x85_2 < (l1.length : Int)) = false:=decide_eq_false c26
             clear c26
             by_cases c33 : 0 ≤ (l1.length : Int)
             ·rw [if_pos c33] at H
              have c33b0 : decide (0 ≤ (l1.length : Int)) = true:=decide_eq_true c33
              have c33b1 : decide (0 ≤ l1.length) = true:=decide_eq_true (by omega)
              clear c33
              by_cases c34 : (l1.length : Int) < (x0_2.length : Int)
              ·rw [if_pos c34] at H
               have c34b0 : decide ((l1.length : Int) < (x0_2.length : Int)) = true:=decide_eq_true c34
               have c34b1 : decide (l1.length < x0_2.length) = true:=decide_eq_true (Int.ofNat_lt.mp c34)
               clear c34
               obtain ⟨y381,hy381⟩ : ∃ y_ : List Int,y_ = (x0_2.set ((l1.length : Int) : Int).toNat (((rd x0_2 (l1.length : Int)) + ((x9_2) % 4294967296)) % 4294967296)):=⟨_,rfl⟩
               replace H : (some (((IntKind.u64.wrap (x7_9 - 1))) % 4294967296,y381)) = some (r1,r2):=by first|(rw [hy381];with_reducible exact H)|(have H2_:=(Option.bind_some _ _).symm.trans H;rw [hy381];with_reducible exact H2_)|(have H2_:=(Option.bind_some _ _).symm.trans H;with_reducible exact H2_)|with_reducible exact H|(rw [hy381];exact H)|exact H
               have Ny381:=Aside0.mk hy381
               clear hy381
               simp only [Option.some.injEq,Prod.mk.injEq] at H
               obtain ⟨rfl,rfl⟩:=H
               have p380 : 0 ≤ ((l1.length : Int) : Int):=of_decide_eq_true (by first|(with_reducible assumption)|assumption)
               have q380 : (l1.length : Int) < (x0_2.length : Int):=of_decide_eq_true (by first|(with_reducible assumption)|assumption)
               obtain ⟨ad380,e380,hx380_0⟩:=Kd.at_int (Md.R_reads' HO_0.out).2.2 (l1.length : Int) p380 q380
               obtain rfl : ad368 = ad380:=(by injection e380)
               (try simp only [Go.IntWalk.toNatUp] at hx380_0)
               (try simp only [hl0_2] at p380)
               (try simp only [hl0_2] at q380)
               (try simp only [hl0_2] at hx380_0)
               replace p380:=eq_true p380
               replace q380:=eq_true q380
               have p35 : 0 ≤ ((l1.length : Int) : Int):=of_decide_eq_true (by first|(with_reducible assumption)|assumption)
               have q35 : ((l1.length : Int) : Int) < ((x0_2.length : Int) : Int):=of_decide_eq_true (by first|(with_reducible assumption)|assumption)
               obtain ⟨go35,co35,eo35,gb35,gl35,cl35,HG35⟩:=Md.R_form HO_0.out (by omega)
               (first|cases eo35|(injection eo35 with ea_ en_ ec_;(first|subst ea_|(injection ea_ with ea_;subst ea_));subst ec_;clear en_))
               have GB35:=Aside0.mk gb35
               have GG35:=Aside0.mk HG35
               clear gb35 gl35 HG35
               have HMgo35:=Aside0.mk (show (P0_ go35 ∨ w.heap.size ≤ go35) from (HO_0.out.1 _ rfl))
               (first|simp only [Md.add_off] at hx380_0|skip)
               obtain ⟨hx35_0,hf35_0⟩:=Md.R_celln 0 HO_0.out ((l1.length : Int) : Int) p35 q35
               (try simp only [Int.toNat_natCast] at hx35_0 hf35_0)
               replace p35:=eq_true p35
               replace q35:=eq_true q35
               have HP36:=Md.R_putg HO_0.out ((l1.length : Int) : Int) (by have h1_:=of_eq_true p35;have h2_:=of_eq_true q35;omega) (((rd x0_2 (l1.length : Int)) + ((x9_2) % 4294967296)) % 4294967296)
               go_wp2_with (first|((with_reducible refine gate_store (t:=23) (p:=115) rfl ?_);(try (rw [drewN_self wr];generalize hq_ : World.drewN wr _ = wr;have n0_:=Aside0.mk (Md.R_at hq_ HO_0.out);have n1_:=Aside0.mk (kept_at hq_ HK.out);have n2_:=Aside0.mk (below_at hq_ HB.out);clear hq_ HO_0 HK HB;have HO_0:=n0_;have HK:=n1_;have HB:=n2_;clear n0_ n1_ n2_;(try (have HP36:=Md.R_putg HO_0.out ((l1.length : Int) : Int) (((rd x0_2 (l1.length : Int)) + ((x9_2) % 4294967296)) % 4294967296)))));refine store_event (t:=23) (p:=115) (v:=?vo_w37) (w1:=(wr.setCell ⟨go35,off + l1.length,none⟩ (.int .u32 (((rd x0_2 (l1.length : Int)) + ((x9_2) % 4294967296)) % 4294967296)))) ?hg ?ho ?hn ?hr ?_;(case ho => rfl);(case hg => rfl);(case hn => rfl);(case hr => first|(go_simp;done)|(go_simp;rfl));intro w37 hw;have hg : wr.grownBy w37 (some go35):=(by rw [hw];exact HP36.2);have hp_ : Md.R off N cap pre post 23 w37 w0.heap.size (fun k_ => (P0_ k_ ∨ w.heap.size ≤ k_)) (.slice (some ⟨go35,off,none⟩) x0_2.length co11) y381:=(by rw [hw,Ny381.out];exact HP36.1);clear HP36;have n0_:=Aside0.mk (hp_);have n1_:=Aside0.mk ((by rw [hw];exact below_set (HB.out) GB35.out : Below w0.heap.size w0 w37));have n2_:=Aside0.mk (Kept.of_grown (S:=(fun k_ => P0_ k_)) hg (by repeat (first|(with_reducible first|exact HK.out|apply Kept.alloc|apply Kept.drewN|apply Kept.drew)|exact HK.out)) (fun k_ e_ => (HO_0.out.1 k_ e_)));clear HO_0;clear HB;clear HK;have HO_0:=n0_;have HB:=n1_;have HK:=n2_;clear n0_ n1_ n2_;clear hg hw hp_))
               repeat (go_quiet (first|((with_reducible refine gate_store (t:=23) (p:=115) rfl ?_);(try (rw [drewN_self wr];generalize hq_ : World.drewN wr _ = wr;have n0_:=Aside0.mk (Md.R_at hq_ HO_0.out);have n1_:=Aside0.mk (kept_at hq_ HK.out);have n2_:=Aside0.mk (below_at hq_ HB.out);clear hq_ HO_0 HK HB;have HO_0:=n0_;have HK:=n1_;have HB:=n2_;clear n0_ n1_ n2_;(try (have HP36:=Md.R_putg HO_0.out ((l1.length : Int) : Int) (((rd x0_2 (l1.length : Int)) + ((x9_2) % 4294967296)) % 4294967296)))));refine store_event (t:=23) (p:=115) (v:=?vo_w37) (w1:=(wr.setCell ⟨go35,off + l1.length,none⟩ (.int .u32 (((rd x0_2 (l1.length : Int)) + ((x9_2) % 4294967296)) % 4294967296)))) ?hg ?ho ?hn ?hr ?_;(case ho => rfl);(case hg => rfl);(case hn => rfl);(case hr => first|(go_simp;done)|(go_simp;rfl));intro w37 hw;have hg : wr.grownBy w37 (some go35):=(by rw [hw];exact HP36.2);have hp_ : Md.R off N cap pre post 23 w37 w0.heap.size (fun k_ => (P0_ k_ ∨ w.heap.size ≤ k_)) (.slice (some ⟨go35,off,none⟩) x0_2.length co11) y381:=(by rw [hw,Ny381.out];exact HP36.1);clear HP36;have n0_:=Aside0.mk (hp_);have n1_:=Aside0.mk ((by rw [hw];exact below_set (HB.out) GB35.out : Below w0.heap.size w0 w37));have n2_:=Aside0.mk (Kept.of_grown (S:=(fun k_ => P0_ k_)) hg (by repeat (first|(with_reducible first|exact HK.out|apply Kept.alloc|apply Kept.drewN|apply Kept.drew)|exact HK.out)) (fun k_ e_ => (HO_0.out.1 k_ e_)));clear HO_0;clear HB;clear HK;have HO_0:=n0_;have HB:=n1_;have HK:=n2_;clear n0_ n1_ n2_;clear hg hw hp_));try go_wp2_with (first|((with_reducible refine gate_store (t:=23) (p:=115) rfl ?_);(try (rw [drewN_self wr];generalize hq_ : World.drewN wr _ = wr;have n0_:=Aside0.mk (Md.R_at hq_ HO_0.out);have n1_:=Aside0.mk (kept_at hq_ HK.out);have n2_:=Aside0.mk (below_at hq_ HB.out);clear hq_ HO_0 HK HB;have HO_0:=n0_;have HK:=n1_;have HB:=n2_;clear n0_ n1_ n2_;(try (have HP36:=Md.R_putg HO_0.out ((l1.length : Int) : Int) (((rd x0_2 (l1.length : Int)) + ((x9_2) % 4294967296)) % 4294967296)))));refine store_event (t:=23) (p:=115) (v:=?vo_w37) (w1:=(wr.setCell ⟨go35,off + l1.length,none⟩ (.int .u32 (((rd x0_2 (l1.length : Int)) + ((x9_2) % 4294967296)) % 4294967296)))) ?hg ?ho ?hn ?hr ?_;(case ho => rfl);(case hg => rfl);(case hn => rfl);(case hr => first|(go_simp;done)|(go_simp;rfl));intro w37 hw;have hg : wr.grownBy w37 (some go35):=(by rw [hw];exact HP36.2);have hp_ : Md.R off N cap pre post 23 w37 w0.heap.size (fun k_ => (P0_ k_ ∨ w.heap.size ≤ k_)) (.slice (some ⟨go35,off,none⟩) x0_2.length co11) y381:=(by rw [hw,Ny381.out];exact HP36.1);clear HP36;have n0_:=Aside0.mk (hp_);have n1_:=Aside0.mk ((by rw [hw];exact below_set (HB.out) GB35.out : Below w0.heap.size w0 w37));have n2_:=Aside0.mk (Kept.of_grown (S:=(fun k_ => P0_ k_)) hg (by repeat (first|(with_reducible first|exact HK.out|apply Kept.alloc|apply Kept.drewN|apply Kept.drew)|exact HK.out)) (fun k_ e_ => (HO_0.out.1 k_ e_)));clear HO_0;clear HB;clear HK;have HO_0:=n0_;have HB:=n1_;have HK:=n2_;clear n0_ n1_ n2_;clear hg hw hp_)))
               (first|go_ret|(refine ⟨_,results_tmp rfl _ _ _,?_⟩))
               exact ⟨by first|rfl|(simp [errW_none,errW_some] <;> rfl)|(simp only [← hji5];first|rfl|(simp [errW_none,errW_some] <;> rfl))|(simp [*,errW_none,errW_some] <;> rfl),(by first|exact (by (with_reducible repeat (first|apply Md.R_alloc|apply Md.R_drewN|apply Md.R_drew));exact HO_0.out)|(simp only [hl0_2];exact (by (with_reducible repeat (first|apply Md.R_alloc|apply Md.R_drewN|apply Md.R_drew));exact HO_0.out))),by repeat (first|(with_reducible first|exact HB.out|apply below_alloc|apply pw_below_drewN|apply below_drew1)|exact HB.out),by repeat (first|(with_reducible first|exact HK.out|apply Kept.alloc|apply Kept.drewN|apply Kept.drew)|exact HK.out)⟩
              ·rw [if_neg c34] at H
               exact absurd H (by simp)
             ·rw [if_neg c33] at H
              exact absurd H (by simp)
         ·replace c24:=Bool.eq_false_iff.mpr c24
          subst c24
          have H1 : (some ((x7_9) % 4294967296,t376)) = some (r1,r2):=by rw [if_neg (show ¬ (false = true) by decide)] at H;exact H
          clear H
          have H:=H1
          clear H1
          simp only [Option.some.injEq,Prod.mk.injEq] at H
          obtain ⟨rfl,rfl⟩:=H
          go_wp2_with (first|(go_at_call 132;(with_reducible refine (nat_take.calls kj9 off N cap pre post (fun k_ => some k_ = (.slice (some ad368) l0.length co11 : Value).ownBlock) (.slice (some ad368) l0.length co11) l0 _ _ l1 x7_9 false t376 w0 _ ?side1 ?side2 ?side3 ?side4 A23.out).mono ?_);(case side1 => repeat (first|(with_reducible first|exact HB.out|apply below_alloc|apply pw_below_drewN|apply below_drew1)|exact HB.out));(case side2 => exact Md.R_tight rfl HO_0.out);(case side3 => exact Kd.C_kept_call HR1.out (by repeat (first|(with_reducible first|exact HK.out|apply Kept.alloc|apply Kept.drewN|apply Kept.drew)|exact HK.out)) (fun k_ hs_ => (fun e_ => (HO_0.out.1 k_ e_.symm)) hs_));(case side4 => exact HC1.out);rintro e w38 ⟨rfl,hy0,hb,hkp⟩;have n0_:=Aside0.mk (Md.R_reok rfl hy0 (fun k_ e_ => HO_0.out.1 k_ e_));have n1_:=Aside0.mk (Kept.then_ (S:=(fun k_ => P0_ k_)) (by repeat (first|(with_reducible first|exact HK.out|apply Kept.alloc|apply Kept.drewN|apply Kept.drew)|exact HK.out)) hkp (fun k_ hs_ => (fun e_ => (HO_0.out.1 k_ e_.symm)) hs_));have n2_:=Aside0.mk (hb);clear HO_0;clear HK;clear HB;have HO_0:=n0_;have HK:=n1_;have HB:=n2_;clear n0_ n1_ n2_;(try clear hb);(try clear hkp);(try clear hy0)))
          repeat (go_quiet (first|(go_at_call 132;(with_reducible refine (nat_take.calls kj9 off N cap pre post (fun k_ => some k_ = (.slice (some ad368) l0.length co11 : Value).ownBlock) (.slice (some ad368) l0.length co11) l0 _ _ l1 x7_9 false t376 w0 _ ?side1 ?side2 ?side3 ?side4 A23.out).mono ?_);(case side1 => repeat (first|(with_reducible first|exact HB.out|apply below_alloc|apply pw_below_drewN|apply below_drew1)|exact HB.out));(case side2 => exact Md.R_tight rfl HO_0.out);(case side3 => exact Kd.C_kept_call HR1.out (by repeat (first|(with_reducible first|exact HK.out|apply Kept.alloc|apply Kept.drewN|apply Kept.drew)|exact HK.out)) (fun k_ hs_ => (fun e_ => (HO_0.out.1 k_ e_.symm)) hs_));(case side4 => exact HC1.out);rintro e w38 ⟨rfl,hy0,hb,hkp⟩;have n0_:=Aside0.mk (Md.R_reok rfl hy0 (fun k_ e_ => HO_0.out.1 k_ e_));have n1_:=Aside0.mk (Kept.then_ (S:=(fun k_ => P0_ k_)) (by repeat (first|(with_reducible first|exact HK.out|apply Kept.alloc|apply Kept.drewN|apply Kept.drew)|exact HK.out)) hkp (fun k_ hs_ => (fun e_ => (HO_0.out.1 k_ e_.symm)) hs_));have n2_:=Aside0.mk (hb);clear HO_0;clear HK;clear HB;have HO_0:=n0_;have HK:=n1_;have HB:=n2_;clear n0_ n1_ n2_;(try clear hb);(try clear hkp);(try clear hy0)));try go_wp2_with (first|(go_at_call 132;(with_reducible refine (nat_take.calls kj9 off N cap pre post (fun k_ => some k_ = (.slice (some ad368) l0.length co11 : Value).ownBlock) (.slice (some ad368) l0.length co11) l0 _ _ l1 x7_9 false t376 w0 _ ?side1 ?side2 ?side3 ?side4 A23.out).mono ?_);(case side1 => repeat (first|(with_reducible first|exact HB.out|apply below_alloc|apply pw_below_drewN|apply below_drew1)|exact HB.out));(case side2 => exact Md.R_tight rfl HO_0.out);(case side3 => exact Kd.C_kept_call HR1.out (by repeat (first|(with_reducible first|exact HK.out|apply Kept.alloc|apply Kept.drewN|apply Kept.drew)|exact HK.out)) (fun k_ hs_ => (fun e_ => (HO_0.out.1 k_ e_.symm)) hs_));(case side4 => exact HC1.out);rintro e w38 ⟨rfl,hy0,hb,hkp⟩;have n0_:=Aside0.mk (Md.R_reok rfl hy0 (fun k_ e_ => HO_0.out.1 k_ e_));have n1_:=Aside0.mk (Kept.then_ (S:=(fun k_ => P0_ k_)) (by repeat (first|(with_reducible first|exact HK.out|apply Kept.alloc|apply Kept.drewN|apply Kept.drew)|exact HK.out)) hkp (fun k_ hs_ => (fun e_ => (HO_0.out.1 k_ e_.symm)) hs_));have n2_:=Aside0.mk (hb);clear HO_0;clear HK;clear HB;have HO_0:=n0_;have HK:=n1_;have HB:=n2_;clear n0_ n1_ n2_;(try clear hb);(try clear hkp);(try clear hy0))))
          (first|go_ret|(refine ⟨_,results_tmp rfl _ _ _,?_⟩))
          exact ⟨by first|rfl|(simp [errW_none,errW_some] <;> rfl)|(simp only [← hji5];first|rfl|(simp [errW_none,errW_some] <;> rfl))|(simp [*,errW_none,errW_some] <;> rfl),by (with_reducible repeat (first|apply Md.R_alloc|apply Md.R_drewN|apply Md.R_drew));exact HO_0.out,by repeat (first|(with_reducible first|exact HB.out|apply below_alloc|apply pw_below_drewN|apply below_drew1)|exact HB.out),by repeat (first|(with_reducible first|exact HK.out|apply Kept.alloc|apply Kept.drewN|apply Kept.drew)|exact HK.out)⟩
     ·rw [if_neg c8] at H
      exact absurd H (by simp)
    ·rw [if_neg c7] at H
     exact absurd H (by simp)
   ·rw [if_neg c6] at H
    exact absurd H (by simp)
  ·rw [if_neg c4] at H
   exact absurd H (by simp)
 ·rw [if_neg c3] at H
  exact absurd H (by simp)
end Go.Proofs.Yteejcpbngnojkaa.P
end
section
namespace Go.Proofs.Yteejcpbngnojkaa.P
open Go.RowKit Go.Proofs.YteejcpbngnojkaaW.PrintWords Go.Proofs.YteejcpbngnojkaaW.PrintLast Go.Proofs.YteejcpbngnojkaaW.PrintMore
attribute [local go_sem] max2_int min2_int max_two min_two max_three min_three max_four min_four
set_option linter.unusedVariables false
set_option linter.unusedSimpArgs false
mutual
def nat_Nat_Div.l0 : Nat → Int → List Int → List Int → List Int → Int → Option (List Int × List Int × Int)
 |0,_,_,_,_,_ => none
 |k + 1,x9,x10,x11,x12,x13 => if x13 ≥ 0 then (if x13 + ((x11.length : Int) + 1) ≤ (x10.length : Int) then ((nat_digit.f k ((x10.drop x13.toNat).take (x11.length + 1)) x11).bind fun bt223 => (if x13 < (x12.length : Int) then (nat_Nat_Div.l0 k x9 (x10.take x13.toNat ++ bt223.2 ++ x10.drop (x13.toNat + (x11.length + 1))) x11 (x12.set (x13 : Int).toNat bt223.1) (wrap64 (x13 - 1))) else (none))) else (none)) else (if 0 ≤ (x11.length : Int) then (if ((x11.length : Int) : Int).toNat ≤ 70368744177664 then ((some (List.replicate ((x11.length : Int) : Int).toNat 0 : List Int)).bind fun y226 => (nat_Nat_Div.l1 k x9 x10 x12 y226 (y226.length : Int) 0)) else (none)) else (none))
def nat_Nat_Div.l1 : Nat → Int → List Int → List Int → List Int → Int → Int → Option (List Int × List Int × Int)
 |0,_,_,_,_,_,_ => none
 |k + 1,x9,x10,x12,x14,x95,x96 => if x96 < x95 then (if 0 ≤ (wrap64 (x96 + 1)) then (if (wrap64 (x96 + 1)) < (x10.length : Int) then (if 0 ≤ x96 then (if x96 < (x10.length : Int) then (if 0 ≤ x9 then (if x96 < (x14.length : Int) then (nat_Nat_Div.l1 k x9 x10 x12 (x14.set (x96 : Int).toNat ((shr .u64 (Go.bits .or .u64 (IntKind.u64.wrap ((IntKind.u64.wrap (rd x10 (wrap64 (x96 + 1)))) * 4294967296)) (IntKind.u64.wrap (rd x10 x96))) x9) % 4294967296)) x95 (wrap64 (x96 + 1))) else (none)) else (none)) else (none)) else (none)) else (none)) else (none)) else ((nat_trim.f k x12).bind fun t232 => ((nat_trim.f k x14).bind fun t235 => (some (t232,t235,0))))
end
def nat_Nat_Div.g (k : Nat) (l0_0 : List Int) (l1_0 : List Int) : Option (List Int × List Int × Int):=(nat_Nat_Zero.f l1_0).bind fun t197 => (if t197 = true then (some (([] : List Int),([] : List Int),5)) else ((nat_Nat_Cmp.f k l0_0 l1_0).bind fun t198 => (if t198 < 0 then (some (([] : List Int),l0_0,0)) else (if (l1_0.length : Int) = 1 then (if 0 < (l1_0.length : Int) then ((nat_Nat_small.f k l0_0 (rd l1_0 0)).bind fun bt200 => (some (bt200.1,bt200.2,0))) else (none)) else (if 0 ≤ (wrap64 ((l1_0.length : Int) - 1)) then (if (wrap64 ((l1_0.length : Int) - 1)) < (l1_0.length : Int) then ((bits_LeadingZeros32.f (rd l1_0 (wrap64 ((l1_0.length : Int) - 1)))).bind fun t209 => ((nat_shift.f k l0_0 t209).bind fun t210 => ((nat_shift.f k l1_0 t209).bind fun t213 => (if 0 ≤ (l1_0.length : Int) then (if (l1_0.length : Int) ≤ (t213.length : Int) then ((some (t213.take ((l1_0.length : Int) : Int).toNat : List Int)).bind fun y216 => (if 0 ≤ (wrap64 ((t210.length : Int) - (y216.length : Int))) then (if (wrap64 ((t210.length : Int) - (y216.length : Int)) : Int).toNat ≤ 70368744177664 then ((some (List.replicate (wrap64 ((t210.length : Int) - (y216.length : Int)) : Int).toNat 0 : List Int)).bind fun y220 => (nat_Nat_Div.l0 k t209 t210 y216 y220 (wrap64 ((y220.length : Int) - 1)))) else (none)) else (none))) else (none)) else (none))))) else (none)) else (none))))))
def nat_Nat_Div.T9 : Bool × List (List Nat × List Nat):=(true,[([],[]),([0],[0]),([],[]),([1,2],[1,2]),([],[]),([4],[4]),([],[]),([5,6,3],[5,6]),([],[]),([8],[8]),([9],[9]),([7,10],[7,10]),([3,7,0,1,2,3],[3]),([11,12,0,1,2,3,4,5,6,7,8,9,10,11,12],[11])])
def nat_Nat_Div.B9 : List Nat:=[0,1,0,7,0,16,0,127,0,256,768,2047,255,8191]
theorem nat_Nat_Div.tab9 : rtab .any (opsOf Try.f53 9) = nat_Nat_Div.T9:=by kernel_rfl
theorem nat_Nat_Div.bits9 : waitsOk nat_Nat_Div.T9.2 nat_Nat_Div.B9 = true:=by kernel_rfl
def nat_Nat_Div.T19 : Bool × List (List Nat × List Nat):=(true,[([],[]),([],[]),([],[]),([],[]),([3],[3]),([2,4],[2,4]),([5],[5]),([6],[6]),([7],[7]),([],[]),([],[]),([9,10],[9,10]),([11],[11]),([12],[12]),([8,13],[8,13]),([],[]),([14,15],[14,15]),([16],[16]),([0,1,0,1,2,3,4,5,6,7,8,9,10,11,12,13,14,15,16,17],[0,1]),([18,17,0,1,2,3,4,5,6,7,8,9,10,11,12,13,14,15,16,17],[17,18])])
def nat_Nat_Div.B19 : List Nat:=[0,0,0,0,8,28,60,124,252,0,0,1536,3584,7680,16380,0,65532,131068,262143,524287]
theorem nat_Nat_Div.tab19 : rtab .any (opsOf Try.f53 19) = nat_Nat_Div.T19:=by kernel_rfl
theorem nat_Nat_Div.bits19 : waitsOk nat_Nat_Div.T19.2 nat_Nat_Div.B19 = true:=by kernel_rfl
set_option maxHeartbeats 8000000 in
set_option maxRecDepth 100000 in
theorem nat_Nat_Div.calls_k (k : Nat) (A0_0 : Option Addr) (c0_0 : Nat) (l0_0 : List Int) (A1_0 : Option Addr) (c1_0 : Nat) (l1_0 : List Int) (r1 : List Int) (r2 : List Int) (r3 : Int) (w : World) (hr0_0 : Kd.C (Kd.int .u32) w A0_0 l0_0.length l0_0) (hc0_0 : l0_0.length ≤ c0_0) (hr1_0 : Kd.C (Kd.int .u32) w A1_0 l1_0.length l1_0) (hc1_0 : l1_0.length ≤ c1_0) (hz_ : nat_Nat_Zero.f l1_0 = some false) (hl_ : ∀ t,nat_Nat_Cmp.f k l0_0 l1_0 = some t → ¬ t < 0) (h1_ : ¬ (l1_0.length : Int) = 1) (h : nat_Nat_Div.g k l0_0 l1_0 = some (r1,r2,r3)) :
  Calls Try.prog 53 #[.agg #[.slice A0_0 l0_0.length c0_0],.agg #[.slice A1_0 l1_0.length c1_0]] w fun e w' => ∃ v0_ v1_ : Value,e = .returned (.tuple #[.agg #[v0_],.agg #[v1_],.int .i64 r3]) ∧ Kd.V (Kd.int .u32) 23 w' w.heap.size (fun k_ => (w.heap.size ≤ k_)) v0_ r1 ∧ Kd.V (Kd.int .u32) 23 w' w.heap.size (fun k_ => (w.heap.size ≤ k_)) v1_ r2 ∧ Below w.heap.size w w':=by
 replace hz_:=Aside0.mk hz_
 replace hl_:=Aside0.mk hl_
 replace h1_:=Aside0.mk h1_
 have hu38:=Try.underlying38
 have HR0_0:=Aside0.mk hr0_0
 have HC0_0:=Aside0.mk hc0_0
 clear hr0_0 hc0_0
 have HR1_0:=Aside0.mk hr1_0
 have HC1_0:=Aside0.mk hc1_0
 clear hr1_0 hc1_0
 have HB:=Aside0.mk (Below.refl w.heap.size w)
 have H : ((nat_Nat_Zero.f l1_0).bind fun t197 => (if t197 = true then (some (([] : List Int),([] : List Int),5)) else ((nat_Nat_Cmp.f k l0_0 l1_0).bind fun t198 => (if t198 < 0 then (some (([] : List Int),l0_0,0)) else (if (l1_0.length : Int) = 1 then (if 0 < (l1_0.length : Int) then ((nat_Nat_small.f k l0_0 (rd l1_0 0)).bind fun bt200 => (some (bt200.1,bt200.2,0))) else (none)) else (if 0 ≤ (wrap64 ((l1_0.length : Int) - 1)) then (if (wrap64 ((l1_0.length : Int) - 1)) < (l1_0.length : Int) then ((bits_LeadingZeros32.f (rd l1_0 (wrap64 ((l1_0.length : Int) - 1)))).bind fun t209 => ((nat_shift.f k l0_0 t209).bind fun t210 => ((nat_shift.f k l1_0 t209).bind fun t213 => (if 0 ≤ (l1_0.length : Int) then (if (l1_0.length : Int) ≤ (t213.length : Int) then ((some (t213.take ((l1_0.length : Int) : Int).toNat : List Int)).bind fun y216 => (if 0 ≤ (wrap64 ((t210.length : Int) - (y216.length : Int))) then (if (wrap64 ((t210.length : Int) - (y216.length : Int)) : Int).toNat ≤ 70368744177664 then ((some (List.replicate (wrap64 ((t210.length : Int) - (y216.length : Int)) : Int).toNat 0 : List Int)).bind fun y220 => (nat_Nat_Div.l0 k t209 t210 y216 y220 (wrap64 ((y220.length : Int) - 1)))) else (none)) else (none))) else (none)) else (none))))) else (none)) else (none))))))) = some (r1,r2,r3):=h
 clear h
 replace H:=Option.bind_eq_some_iff.mp H
 obtain ⟨t197,A30,H⟩:=H
 replace H : (if t197 = true then (some (([] : List Int),([] : List Int),5)) else ((nat_Nat_Cmp.f k l0_0 l1_0).bind fun t198 => (if t198 < 0 then (some (([] : List Int),l0_0,0)) else (if (l1_0.length : Int) = 1 then (if 0 < (l1_0.length : Int) then ((nat_Nat_small.f k l0_0 (rd l1_0 0)).bind fun bt200 => (some (bt200.1,bt200.2,0))) else (none)) else (if 0 ≤ (wrap64 ((l1_0.length : Int) - 1)) then (if (wrap64 ((l1_0.length : Int) - 1)) < (l1_0.length : Int) then ((bits_LeadingZeros32.f (rd l1_0 (wrap64 ((l1_0.length : Int) - 1)))).bind fun t209 => ((nat_shift.f k l0_0 t209).bind fun t210 => ((nat_shift.f k l1_0 t209).bind fun t213 => (if 0 ≤ (l1_0.length : Int) then (if (l1_0.length : Int) ≤ (t213.length : Int) then ((some (t213.take ((l1_0.length : Int) : Int).toNat : List Int)).bind fun y216 => (if 0 ≤ (wrap64 ((t210.length : Int) - (y216.length : Int))) then (if (wrap64 ((t210.length : Int) - (y216.length : Int)) : Int).toNat ≤ 70368744177664 then ((some (List.replicate (wrap64 ((t210.length : Int) - (y216.length : Int)) : Int).toNat 0 : List Int)).bind fun y220 => (nat_Nat_Div.l0 k t209 t210 y216 y220 (wrap64 ((y220.length : Int) - 1)))) else (none)) else (none))) else (none)) else (none))))) else (none)) else (none)))))) = some (r1,r2,r3):=H
 have A3:=Aside0.mk A30
 clear A30
 by_cases c4 : t197 = true
 ·subst c4;exact absurd (hz_.out.symm.trans A3.out) (by simp)
 ·replace c4:=Bool.eq_false_iff.mpr c4
  subst c4
  have H1 : ((nat_Nat_Cmp.f k l0_0 l1_0).bind fun t198 => (if t198 < 0 then (some (([] : List Int),l0_0,0)) else (if (l1_0.length : Int) = 1 then (if 0 < (l1_0.length : Int) then ((nat_Nat_small.f k l0_0 (rd l1_0 0)).bind fun bt200 => (some (bt200.1,bt200.2,0))) else (none)) else (if 0 ≤ (wrap64 ((l1_0.length : Int) - 1)) then (if (wrap64 ((l1_0.length : Int) - 1)) < (l1_0.length : Int) then ((bits_LeadingZeros32.f (rd l1_0 (wrap64 ((l1_0.length : Int) - 1)))).bind fun t209 => ((nat_shift.f k l0_0 t209).bind fun t210 => ((nat_shift.f k l1_0 t209).bind fun t213 => (if 0 ≤ (l1_0.length : Int) then (if (l1_0.length : Int) ≤ (t213.length : Int) then ((some (t213.take ((l1_0.length : Int) : Int).toNat : List Int)).bind fun y216 => (if 0 ≤ (wrap64 ((t210.length : Int) - (y216.length : Int))) then (if (wrap64 ((t210.length : Int) - (y216.length : Int)) : Int).toNat ≤ 70368744177664 then ((some (List.replicate (wrap64 ((t210.length : Int) - (y216.length : Int)) : Int).toNat 0 : List Int)).bind fun y220 => (nat_Nat_Div.l0 k t209 t210 y216 y220 (wrap64 ((y220.length : Int) - 1)))) else (none)) else (none))) else (none)) else (none))))) else (none)) else (none))))) = some (r1,r2,r3):=by rw [if_neg (show ¬ (false = true) by decide)] at H;exact H
  clear H
  have H:=H1
  clear H1
  replace H:=Option.bind_eq_some_iff.mp H
  obtain ⟨t198,A190,H⟩:=H
  replace H : (if t198 < 0 then (some (([] : List Int),l0_0,0)) else (if (l1_0.length : Int) = 1 then (if 0 < (l1_0.length : Int) then ((nat_Nat_small.f k l0_0 (rd l1_0 0)).bind fun bt200 => (some (bt200.1,bt200.2,0))) else (none)) else (if 0 ≤ (wrap64 ((l1_0.length : Int) - 1)) then (if (wrap64 ((l1_0.length : Int) - 1)) < (l1_0.length : Int) then ((bits_LeadingZeros32.f (rd l1_0 (wrap64 ((l1_0.length : Int) - 1)))).bind fun t209 => ((nat_shift.f k l0_0 t209).bind fun t210 => ((nat_shift.f k l1_0 t209).bind fun t213 => (if 0 ≤ (l1_0.length : Int) then (if (l1_0.length : Int) ≤ (t213.length : Int) then ((some (t213.take ((l1_0.length : Int) : Int).toNat : List Int)).bind fun y216 => (if 0 ≤ (wrap64 ((t210.length : Int) - (y216.length : Int))) then (if (wrap64 ((t210.length : Int) - (y216.length : Int)) : Int).toNat ≤ 70368744177664 then ((some (List.replicate (wrap64 ((t210.length : Int) - (y216.length : Int)) : Int).toNat 0 : List Int)).bind fun y220 => (nat_Nat_Div.l0 k t209 t210 y216 y220 (wrap64 ((y220.length : Int) - 1)))) else (none)) else (none))) else (none)) else (none))))) else (none)) else (none)))) = some (r1,r2,r3):=H
  have A19:=Aside0.mk A190
  clear A190
  by_cases c20 : t198 < 0
  ·exact absurd c20 (hl_.out _ A19.out)
  ·rw [if_neg c20] at H
   have c20b0 : decide (t198 < 0) = false:=decide_eq_false c20
   clear c20
   by_cases c38 : (l1_0.length : Int) = 1
   ·exact absurd c38 h1_.out
   ·rw [if_neg c38] at H
    have c38b0 : ((l1_0.length : Int) == 1) = false:=beq_eq_false_iff_ne.mpr c38
    have c38b1 : ((l1_0.length : Int) != 1) = true:=bne_iff_ne.mpr c38
    obtain ⟨ji69,hji69⟩ : ∃ j_ : Int,(wrap64 ((l1_0.length : Int) - 1)) = j_:=⟨_,rfl⟩
    replace H : (if 0 ≤ (ji69) then (if (ji69) < (l1_0.length : Int) then ((bits_LeadingZeros32.f (rd l1_0 (ji69))).bind fun t209 => ((nat_shift.f k l0_0 t209).bind fun t210 => ((nat_shift.f k l1_0 t209).bind fun t213 => (if 0 ≤ (l1_0.length : Int) then (if (l1_0.length : Int) ≤ (t213.length : Int) then ((some (t213.take ((l1_0.length : Int) : Int).toNat : List Int)).bind fun y216 => (if 0 ≤ (wrap64 ((t210.length : Int) - (y216.length : Int))) then (if (wrap64 ((t210.length : Int) - (y216.length : Int)) : Int).toNat ≤ 70368744177664 then ((some (List.replicate (wrap64 ((t210.length : Int) - (y216.length : Int)) : Int).toNat 0 : List Int)).bind fun y220 => (nat_Nat_Div.l0 k t209 t210 y216 y220 (wrap64 ((y220.length : Int) - 1)))) else (none)) else (none))) else (none)) else (none))))) else (none)) else (none)) = some (r1,r2,r3):=by first|(rw [hji69] at H;exact H)|(simp only [hji69] at H ⊢;exact H)
    (try rw [hji69] at A3)
    (try rw [hji69] at A19)
    have hji69w : (IntKind.i64.wrap ((l1_0.length : Int) - 1)) = ji69:=(i64_w _).trans hji69
    by_cases c70 : 0 ≤ (ji69)
    ·rw [if_pos c70] at H
     have c70b0 : decide (0 ≤ (ji69)) = true:=decide_eq_true c70
     clear c70
     by_cases c71 : (ji69) < (l1_0.length : Int)
     ·rw [if_pos c71] at H
      have c71b0 : decide ((ji69) < (l1_0.length : Int)) = true:=decide_eq_true c71
      clear c71
      replace H:=Option.bind_eq_some_iff.mp H
      obtain ⟨t209,A720,H⟩:=H
      replace H : ((nat_shift.f k l0_0 t209).bind fun t210 => ((nat_shift.f k l1_0 t209).bind fun t213 => (if 0 ≤ (l1_0.length : Int) then (if (l1_0.length : Int) ≤ (t213.length : Int) then ((some (t213.take ((l1_0.length : Int) : Int).toNat : List Int)).bind fun y216 => (if 0 ≤ (wrap64 ((t210.length : Int) - (y216.length : Int))) then (if (wrap64 ((t210.length : Int) - (y216.length : Int)) : Int).toNat ≤ 70368744177664 then ((some (List.replicate (wrap64 ((t210.length : Int) - (y216.length : Int)) : Int).toNat 0 : List Int)).bind fun y220 => (nat_Nat_Div.l0 k t209 t210 y216 y220 (wrap64 ((y220.length : Int) - 1)))) else (none)) else (none))) else (none)) else (none)))) = some (r1,r2,r3):=H
      have A72:=Aside0.mk A720
      clear A720
      replace H:=Option.bind_eq_some_iff.mp H
      obtain ⟨t210,A730,H⟩:=H
      replace H : ((nat_shift.f k l1_0 t209).bind fun t213 => (if 0 ≤ (l1_0.length : Int) then (if (l1_0.length : Int) ≤ (t213.length : Int) then ((some (t213.take ((l1_0.length : Int) : Int).toNat : List Int)).bind fun y216 => (if 0 ≤ (wrap64 ((t210.length : Int) - (y216.length : Int))) then (if (wrap64 ((t210.length : Int) - (y216.length : Int)) : Int).toNat ≤ 70368744177664 then ((some (List.replicate (wrap64 ((t210.length : Int) - (y216.length : Int)) : Int).toNat 0 : List Int)).bind fun y220 => (nat_Nat_Div.l0 k t209 t210 y216 y220 (wrap64 ((y220.length : Int) - 1)))) else (none)) else (none))) else (none)) else (none))) = some (r1,r2,r3):=H
      have A73:=Aside0.mk A730
      clear A730
      replace H:=Option.bind_eq_some_iff.mp H
      obtain ⟨t213,A740,H⟩:=H
      replace H : (if 0 ≤ (l1_0.length : Int) then (if (l1_0.length : Int) ≤ (t213.length : Int) then ((some (t213.take ((l1_0.length : Int) : Int).toNat : List Int)).bind fun y216 => (if 0 ≤ (wrap64 ((t210.length : Int) - (y216.length : Int))) then (if (wrap64 ((t210.length : Int) - (y216.length : Int)) : Int).toNat ≤ 70368744177664 then ((some (List.replicate (wrap64 ((t210.length : Int) - (y216.length : Int)) : Int).toNat 0 : List Int)).bind fun y220 => (nat_Nat_Div.l0 k t209 t210 y216 y220 (wrap64 ((y220.length : Int) - 1)))) else (none)) else (none))) else (none)) else (none)) = some (r1,r2,r3):=H
      have A74:=Aside0.mk A740
      clear A740
      by_cases c75 : 0 ≤ (l1_0.length : Int)
      ·rw [if_pos c75] at H
       have c75b0:=eq_true c75
       have c75b1 : decide (0 ≤ (l1_0.length : Int)) = true:=decide_eq_true c75
       clear c75
       by_cases c76 : (l1_0.length : Int) ≤ (t213.length : Int)
       ·rw [if_pos c76] at H
        have c76b0:=eq_true c76
        have c76b1 : decide ((l1_0.length : Int) ≤ (t213.length : Int)) = true:=decide_eq_true c76
        clear c76
        obtain ⟨y216,hy216⟩ : ∃ y_ : List Int,y_ = (t213.take ((l1_0.length : Int) : Int).toNat):=⟨_,rfl⟩
        replace H : (if 0 ≤ (wrap64 ((t210.length : Int) - (y216.length : Int))) then (if (wrap64 ((t210.length : Int) - (y216.length : Int)) : Int).toNat ≤ 70368744177664 then ((some (List.replicate (wrap64 ((t210.length : Int) - (y216.length : Int)) : Int).toNat 0 : List Int)).bind fun y220 => (nat_Nat_Div.l0 k t209 t210 y216 y220 (wrap64 ((y220.length : Int) - 1)))) else (none)) else (none)) = some (r1,r2,r3):=by first|(rw [hy216];with_reducible exact H)|(have H2_:=(Option.bind_some _ _).symm.trans H;rw [hy216];with_reducible exact H2_)|(have H2_:=(Option.bind_some _ _).symm.trans H;with_reducible exact H2_)|with_reducible exact H|(rw [hy216];exact H)|exact H
        have Ny216:=Aside0.mk hy216
        clear hy216
        obtain ⟨ji77,hji77⟩ : ∃ j_ : Int,(wrap64 ((t210.length : Int) - (y216.length : Int))) = j_:=⟨_,rfl⟩
        replace H : (if 0 ≤ (ji77) then (if (ji77 : Int).toNat ≤ 70368744177664 then ((some (List.replicate (ji77 : Int).toNat 0 : List Int)).bind fun y220 => (nat_Nat_Div.l0 k t209 t210 y216 y220 (wrap64 ((y220.length : Int) - 1)))) else (none)) else (none)) = some (r1,r2,r3):=by first|(rw [hji77] at H;exact H)|(simp only [hji77] at H ⊢;exact H)
        (try rw [hji77] at A3)
        (try rw [hji77] at A19)
        (try rw [hji77] at A72)
        (try rw [hji77] at A73)
        (try rw [hji77] at A74)
        have hji77w : (IntKind.i64.wrap ((t210.length : Int) - (y216.length : Int))) = ji77:=(i64_w _).trans hji77
        by_cases c78 : 0 ≤ (ji77)
        ·rw [if_pos c78] at H
         have c78b0:=eq_true c78
         have c78b1 : decide (0 ≤ (ji77)) = true:=decide_eq_true c78
         clear c78
         by_cases c79 : (ji77 : Int).toNat ≤ 70368744177664
         ·rw [if_pos c79] at H
          have c79b0:=eq_true c79
          have c79b1 : decide ((ji77 : Int).toNat ≤ 70368744177664) = true:=decide_eq_true c79
          clear c79
          obtain ⟨y220,hy220⟩ : ∃ y_ : List Int,y_ = (List.replicate (ji77 : Int).toNat 0):=⟨_,rfl⟩
          replace H : (nat_Nat_Div.l0 k t209 t210 y216 y220 (wrap64 ((y220.length : Int) - 1))) = some (r1,r2,r3):=by first|(rw [hy220];with_reducible exact H)|(have H2_:=(Option.bind_some _ _).symm.trans H;rw [hy220];with_reducible exact H2_)|(have H2_:=(Option.bind_some _ _).symm.trans H;with_reducible exact H2_)|with_reducible exact H|(rw [hy220];exact H)|exact H
          have Ny220:=Aside0.mk hy220
          clear hy220
          have H':=Aside0.mk H
          clear H
          go_enter Try.func53,Try.ntmps53
          try go_wp2_with (first|((with_reducible refine gate_dst (N:=2) rfl ?_);refine box_event ?hg (N:=2) ?hd (cs:=#[.slice A0_0 l0_0.length c0_0]) (t:=38) ?hr ?_;(case hd => rfl);(case hg => rfl);(case hr => first|(go_simp;done)|(go_simp;rfl));intro gb193 hg w80 hbox hb;have n0_:=Aside0.mk (below_step (by repeat (first|(with_reducible first|exact HB.out|apply below_alloc|apply pw_below_drewN|apply below_drew1)|exact HB.out)) hb);have n1_:=Aside0.mk (hbox);have n2_:=Aside0.mk ((by rw [hg];exact (below_size (by repeat (first|(with_reducible first|exact HB.out|apply below_alloc|apply pw_below_drewN|apply below_drew1)|exact HB.out))) : w.heap.size ≤ gb193));have n3_:=Aside0.mk ((by rw [hg];exact (below_size (by repeat (first|(with_reducible first|exact HB.out|apply below_alloc|apply pw_below_drewN|apply below_drew1)|exact HB.out))) : w.heap.size ≤ gb193));clear HB;have HB:=n0_;have BK193:=n1_;have GW193:=n2_;have GE193:=n3_;clear n0_ n1_ n2_ n3_;clear hb hbox hg)|((with_reducible refine gate_dst (N:=3) rfl ?_);refine box_event ?hg (N:=3) ?hd (cs:=#[.slice A1_0 l1_0.length c1_0]) (t:=38) ?hr ?_;(case hd => rfl);(case hg => rfl);(case hr => first|(go_simp;done)|(go_simp;rfl));intro gb194 hg w81 hbox hb;have n0_:=Aside0.mk (blk_below (g:=gb193) (o:=.cells #[.slice A0_0 l0_0.length c0_0] 38 (0,0)) (by (with_reducible repeat (first|refine blk_drewN ?_ _|refine blk_drew ?_|refine blk_alloc ?_ _));exact BK193.out) hb);have n1_:=Aside0.mk (below_step (by repeat (first|(with_reducible first|exact HB.out|apply below_alloc|apply pw_below_drewN|apply below_drew1|refine below_set ?_ GE193.out)|exact HB.out)) hb);have n2_:=Aside0.mk (hbox);have n3_:=Aside0.mk ((by rw [hg];exact (below_size (by repeat (first|(with_reducible first|exact HB.out|apply below_alloc|apply pw_below_drewN|apply below_drew1|refine below_set ?_ GE193.out)|exact HB.out))) : w.heap.size ≤ gb194));have n4_:=Aside0.mk ((by rw [hg];exact (below_size (by repeat (first|(with_reducible first|exact HB.out|apply below_alloc|apply pw_below_drewN|apply below_drew1|refine below_set ?_ GE193.out)|exact HB.out))) : w.heap.size ≤ gb194));have n5_:=Aside0.mk ((by rw [hg];exact Nat.ne_of_lt (blk_lt (g:=gb193) (o:=.cells #[.slice A0_0 l0_0.length c0_0] 38 (0,0)) (by (with_reducible repeat (first|refine blk_drewN ?_ _|refine blk_drew ?_|refine blk_alloc ?_ _));exact BK193.out)) : gb193 ≠ gb194));have n6_:=Aside0.mk ((by rw [hg];exact Nat.ne_of_gt (blk_lt (g:=gb193) (o:=.cells #[.slice A0_0 l0_0.length c0_0] 38 (0,0)) (by (with_reducible repeat (first|refine blk_drewN ?_ _|refine blk_drew ?_|refine blk_alloc ?_ _));exact BK193.out)) : gb194 ≠ gb193));clear BK193;clear HB;have BK193:=n0_;have HB:=n1_;have BK194:=n2_;have GW194:=n3_;have GE194:=n4_;have NB193_194:=n5_;have NB194_193:=n6_;clear n0_ n1_ n2_ n3_ n4_ n5_ n6_;clear hb hbox hg)|((with_reducible refine gate_dst (N:=4) rfl ?_);refine box_event ?hg (N:=4) ?hd (cs:=#[.slice none 0 0]) (t:=38) ?hr ?_;(case hd => rfl);(case hg => rfl);(case hr => first|(go_simp;done)|(go_simp;rfl));intro gb195 hg w82 hbox hb;have n0_:=Aside0.mk (blk_below (g:=gb193) (o:=.cells #[.slice A0_0 l0_0.length c0_0] 38 (0,0)) (by (with_reducible repeat (first|refine blk_drewN ?_ _|refine blk_drew ?_|refine blk_alloc ?_ _));exact BK193.out) hb);have n1_:=Aside0.mk (blk_below (g:=gb194) (o:=.cells #[.slice A1_0 l1_0.length c1_0] 38 (0,0)) (by (with_reducible repeat (first|refine blk_drewN ?_ _|refine blk_drew ?_|refine blk_alloc ?_ _));exact BK194.out) hb);have n2_:=Aside0.mk (below_step (by repeat (first|(with_reducible first|exact HB.out|apply below_alloc|apply pw_below_drewN|apply below_drew1|refine below_set ?_ GE193.out|refine below_set ?_ GE194.out)|exact HB.out)) hb);have n3_:=Aside0.mk (hbox);have n4_:=Aside0.mk ((by rw [hg];exact (below_size (by repeat (first|(with_reducible first|exact HB.out|apply below_alloc|apply pw_below_drewN|apply below_drew1|refine below_set ?_ GE193.out|refine below_set ?_ GE194.out)|exact HB.out))) : w.heap.size ≤ gb195));have n5_:=Aside0.mk ((by rw [hg];exact (below_size (by repeat (first|(with_reducible first|exact HB.out|apply below_alloc|apply pw_below_drewN|apply below_drew1|refine below_set ?_ GE193.out|refine below_set ?_ GE194.out)|exact HB.out))) : w.heap.size ≤ gb195));have n6_:=Aside0.mk ((by rw [hg];exact Nat.ne_of_lt (blk_lt (g:=gb193) (o:=.cells #[.slice A0_0 l0_0.length c0_0] 38 (0,0)) (by (with_reducible repeat (first|refine blk_drewN ?_ _|refine blk_drew ?_|refine blk_alloc ?_ _));exact BK193.out)) : gb193 ≠ gb195));have n7_:=Aside0.mk ((by rw [hg];exact Nat.ne_of_gt (blk_lt (g:=gb193) (o:=.cells #[.slice A0_0 l0_0.length c0_0] 38 (0,0)) (by (with_reducible repeat (first|refine blk_drewN ?_ _|refine blk_drew ?_|refine blk_alloc ?_ _));exact BK193.out)) : gb195 ≠ gb193));have n8_:=Aside0.mk ((by rw [hg];exact Nat.ne_of_lt (blk_lt (g:=gb194) (o:=.cells #[.slice A1_0 l1_0.length c1_0] 38 (0,0)) (by (with_reducible repeat (first|refine blk_drewN ?_ _|refine blk_drew ?_|refine blk_alloc ?_ _));exact BK194.out)) : gb194 ≠ gb195));have n9_:=Aside0.mk ((by rw [hg];exact Nat.ne_of_gt (blk_lt (g:=gb194) (o:=.cells #[.slice A1_0 l1_0.length c1_0] 38 (0,0)) (by (with_reducible repeat (first|refine blk_drewN ?_ _|refine blk_drew ?_|refine blk_alloc ?_ _));exact BK194.out)) : gb195 ≠ gb194));clear BK193;clear BK194;clear HB;have BK193:=n0_;have BK194:=n1_;have HB:=n2_;have BK195:=n3_;have GW195:=n4_;have GE195:=n5_;have NB193_195:=n6_;have NB195_193:=n7_;have NB194_195:=n8_;have NB195_194:=n9_;clear n0_ n1_ n2_ n3_ n4_ n5_ n6_ n7_ n8_ n9_;clear hb hbox hg)|((with_reducible refine gate_dst (N:=5) rfl ?_);refine box_event ?hg (N:=5) ?hd (cs:=#[.slice none 0 0]) (t:=38) ?hr ?_;(case hd => rfl);(case hg => rfl);(case hr => first|(go_simp;done)|(go_simp;rfl));intro gb196 hg w83 hbox hb;have n0_:=Aside0.mk (blk_below (g:=gb193) (o:=.cells #[.slice A0_0 l0_0.length c0_0] 38 (0,0)) (by (with_reducible repeat (first|refine blk_drewN ?_ _|refine blk_drew ?_|refine blk_alloc ?_ _));exact BK193.out) hb);have n1_:=Aside0.mk (blk_below (g:=gb194) (o:=.cells #[.slice A1_0 l1_0.length c1_0] 38 (0,0)) (by (with_reducible repeat (first|refine blk_drewN ?_ _|refine blk_drew ?_|refine blk_alloc ?_ _));exact BK194.out) hb);have n2_:=Aside0.mk (blk_below (g:=gb195) (o:=.cells #[.slice none 0 0] 38 (0,0)) (by (with_reducible repeat (first|refine blk_drewN ?_ _|refine blk_drew ?_|refine blk_alloc ?_ _));exact BK195.out) hb);have n3_:=Aside0.mk (below_step (by repeat (first|(with_reducible first|exact HB.out|apply below_alloc|apply pw_below_drewN|apply below_drew1|refine below_set ?_ GE193.out|refine below_set ?_ GE194.out|refine below_set ?_ GE195.out)|exact HB.out)) hb);have n4_:=Aside0.mk (hbox);have n5_:=Aside0.mk ((by rw [hg];exact (below_size (by repeat (first|(with_reducible first|exact HB.out|apply below_alloc|apply pw_below_drewN|apply below_drew1|refine below_set ?_ GE193.out|refine below_set ?_ GE194.out|refine below_set ?_ GE195.out)|exact HB.out))) : w.heap.size ≤ gb196));have n6_:=Aside0.mk ((by rw [hg];exact (below_size (by repeat (first|(with_reducible first|exact HB.out|apply below_alloc|apply pw_below_drewN|apply below_drew1|refine below_set ?_ GE193.out|refine below_set ?_ GE194.out|refine below_set ?_ GE195.out)|exact HB.out))) : w.heap.size ≤ gb196));have n7_:=Aside0.mk ((by rw [hg];exact Nat.ne_of_lt (blk_lt (g:=gb193) (o:=.cells #[.slice A0_0 l0_0.length c0_0] 38 (0,0)) (by (with_reducible repeat (first|refine blk_drewN ?_ _|refine blk_drew ?_|refine blk_alloc ?_ _));exact BK193.out)) : gb193 ≠ gb196));have n8_:=Aside0.mk ((by rw [hg];exact Nat.ne_of_gt (blk_lt (g:=gb193) (o:=.cells #[.slice A0_0 l0_0.length c0_0] 38 (0,0)) (by (with_reducible repeat (first|refine blk_drewN ?_ _|refine blk_drew ?_|refine blk_alloc ?_ _));exact BK193.out)) : gb196 ≠ gb193));have n9_:=Aside0.mk ((by rw [hg];exact Nat.ne_of_lt (blk_lt (g:=gb194) (o:=.cells #[.slice A1_0 l1_0.length c1_0] 38 (0,0)) (by (with_reducible repeat (first|refine blk_drewN ?_ _|refine blk_drew ?_|refine blk_alloc ?_ _));exact BK194.out)) : gb194 ≠ gb196));have n10_:=Aside0.mk ((by rw [hg];exact Nat.ne_of_gt (blk_lt (g:=gb194) (o:=.cells #[.slice A1_0 l1_0.length c1_0] 38 (0,0)) (by (with_reducible repeat (first|refine blk_drewN ?_ _|refine blk_drew ?_|refine blk_alloc ?_ _));exact BK194.out)) : gb196 ≠ gb194));have n11_:=Aside0.mk ((by rw [hg];exact Nat.ne_of_lt (blk_lt (g:=gb195) (o:=.cells #[.slice none 0 0] 38 (0,0)) (by (with_reducible repeat (first|refine blk_drewN ?_ _|refine blk_drew ?_|refine blk_alloc ?_ _));exact BK195.out)) : gb195 ≠ gb196));have n12_:=Aside0.mk ((by rw [hg];exact Nat.ne_of_gt (blk_lt (g:=gb195) (o:=.cells #[.slice none 0 0] 38 (0,0)) (by (with_reducible repeat (first|refine blk_drewN ?_ _|refine blk_drew ?_|refine blk_alloc ?_ _));exact BK195.out)) : gb196 ≠ gb195));clear BK193;clear BK194;clear BK195;clear HB;have BK193:=n0_;have BK194:=n1_;have BK195:=n2_;have HB:=n3_;have BK196:=n4_;have GW196:=n5_;have GE196:=n6_;have NB193_196:=n7_;have NB196_193:=n8_;have NB194_196:=n9_;have NB196_194:=n10_;have NB195_196:=n11_;have NB196_195:=n12_;clear n0_ n1_ n2_ n3_ n4_ n5_ n6_ n7_ n8_ n9_ n10_ n11_ n12_;clear hb hbox hg;have hnb84:=NB194_193.out;have hnc84:=NB193_194.out;have hnb85:=NB194_195.out;have hnc85:=NB195_194.out;have hnb86:=NB194_196.out;have hnc86:=NB196_194.out;have hcz87_0 : w83.cell? ⟨gb194,0,none⟩ = some (.slice A1_0 l1_0.length c1_0):=(blk_cell BK194.out 0).trans rfl;have hfz87_0:=blk_frozen BK194.out 0)|((with_reducible refine gate_callee (f:=44) rfl ?_);refine goesL_ (some 18) rfl rfl Try.func44 (by kernel_rfl) rfl #[.agg #[.slice A1_0 l1_0.length c1_0]] rfl (by (try simp only [List.map_toArray,List.map_cons,List.map_nil]);first|done|rfl|(simp only [List.length_drop,List.length_take];rfl)) ?_;(with_reducible refine (nat_Nat_Zero.calls _ _ l1_0 false _ ?side1 ?side2 A3.out).mono ?_);(case side1 => repeat (first|exact (Kd.C_below HR1_0.out HB.out)|(with_reducible refine Kd.C_alloc ?_ _)|(with_reducible refine Kd.C_drewN ?_ _)|(with_reducible refine Kd.C_drew ?_)));(case side2 => exact HC1_0.out);rintro e w88 ⟨rfl,hb⟩;refine ⟨_,rfl,?_⟩;have n0_:=Aside0.mk (blk_below (g:=gb193) (o:=.cells #[.slice A0_0 l0_0.length c0_0] 38 (0,0)) (by (with_reducible repeat (first|refine blk_drewN ?_ _|refine blk_drew ?_|refine blk_alloc ?_ _));exact BK193.out) hb);have n1_:=Aside0.mk (blk_below (g:=gb194) (o:=.cells #[.slice A1_0 l1_0.length c1_0] 38 (0,0)) (by (with_reducible repeat (first|refine blk_drewN ?_ _|refine blk_drew ?_|refine blk_alloc ?_ _));exact BK194.out) hb);have n2_:=Aside0.mk (blk_below (g:=gb195) (o:=.cells #[.slice none 0 0] 38 (0,0)) (by (with_reducible repeat (first|refine blk_drewN ?_ _|refine blk_drew ?_|refine blk_alloc ?_ _));exact BK195.out) hb);have n3_:=Aside0.mk (blk_below (g:=gb196) (o:=.cells #[.slice none 0 0] 38 (0,0)) (by (with_reducible repeat (first|refine blk_drewN ?_ _|refine blk_drew ?_|refine blk_alloc ?_ _));exact BK196.out) hb);have n4_:=Aside0.mk (below_step (by repeat (first|(with_reducible first|exact HB.out|apply below_alloc|apply pw_below_drewN|apply below_drew1|refine below_set ?_ GE193.out|refine below_set ?_ GE194.out|refine below_set ?_ GE195.out|refine below_set ?_ GE196.out)|exact HB.out)) hb);clear BK193;clear BK194;clear BK195;clear BK196;clear HB;have BK193:=n0_;have BK194:=n1_;have BK195:=n2_;have BK196:=n3_;have HB:=n4_;clear n0_ n1_ n2_ n3_ n4_;(try clear hb);(try clear hb2);(try clear hk);(try clear hi);have hnb89:=NB193_195.out;have hnc89:=NB195_193.out;have hnb90:=NB193_196.out;have hnc90:=NB196_193.out;have hcz91_0 : w88.cell? ⟨gb193,0,none⟩ = some (.slice A0_0 l0_0.length c0_0):=(blk_cell BK193.out 0).trans rfl;have hfz91_0:=blk_frozen BK193.out 0;have hcz92_0 : w88.cell? ⟨gb194,0,none⟩ = some (.slice A1_0 l1_0.length c1_0):=(blk_cell BK194.out 0).trans rfl;have hfz92_0:=blk_frozen BK194.out 0)|((with_reducible refine gate_callee (f:=45) rfl ?_);refine goesL_ (some 24) rfl rfl Try.func45 (by kernel_rfl) rfl #[.agg #[.slice A0_0 l0_0.length c0_0],.agg #[.slice A1_0 l1_0.length c1_0]] rfl (by (try simp only [List.map_toArray,List.map_cons,List.map_nil]);first|done|rfl|(simp only [List.length_drop,List.length_take];rfl)) ?_;(with_reducible refine (nat_Nat_Cmp.calls k _ _ l0_0 _ _ l1_0 t198 _ ?side1 ?side2 ?side3 ?side4 A19.out).mono ?_);(case side1 => repeat (first|exact (Kd.C_below HR0_0.out HB.out)|(with_reducible refine Kd.C_alloc ?_ _)|(with_reducible refine Kd.C_drewN ?_ _)|(with_reducible refine Kd.C_drew ?_)));(case side2 => exact HC0_0.out);(case side3 => repeat (first|exact (Kd.C_below HR1_0.out HB.out)|(with_reducible refine Kd.C_alloc ?_ _)|(with_reducible refine Kd.C_drewN ?_ _)|(with_reducible refine Kd.C_drew ?_)));(case side4 => exact HC1_0.out);rintro e w93 ⟨rfl,hb⟩;refine ⟨_,rfl,?_⟩;have n0_:=Aside0.mk (blk_below (g:=gb193) (o:=.cells #[.slice A0_0 l0_0.length c0_0] 38 (0,0)) (by (with_reducible repeat (first|refine blk_drewN ?_ _|refine blk_drew ?_|refine blk_alloc ?_ _));exact BK193.out) hb);have n1_:=Aside0.mk (blk_below (g:=gb194) (o:=.cells #[.slice A1_0 l1_0.length c1_0] 38 (0,0)) (by (with_reducible repeat (first|refine blk_drewN ?_ _|refine blk_drew ?_|refine blk_alloc ?_ _));exact BK194.out) hb);have n2_:=Aside0.mk (blk_below (g:=gb195) (o:=.cells #[.slice none 0 0] 38 (0,0)) (by (with_reducible repeat (first|refine blk_drewN ?_ _|refine blk_drew ?_|refine blk_alloc ?_ _));exact BK195.out) hb);have n3_:=Aside0.mk (blk_below (g:=gb196) (o:=.cells #[.slice none 0 0] 38 (0,0)) (by (with_reducible repeat (first|refine blk_drewN ?_ _|refine blk_drew ?_|refine blk_alloc ?_ _));exact BK196.out) hb);have n4_:=Aside0.mk (below_step (by repeat (first|(with_reducible first|exact HB.out|apply below_alloc|apply pw_below_drewN|apply below_drew1|refine below_set ?_ GE193.out|refine below_set ?_ GE194.out|refine below_set ?_ GE195.out|refine below_set ?_ GE196.out)|exact HB.out)) hb);clear BK193;clear BK194;clear BK195;clear BK196;clear HB;have BK193:=n0_;have BK194:=n1_;have BK195:=n2_;have BK196:=n3_;have HB:=n4_;clear n0_ n1_ n2_ n3_ n4_;(try clear hb);(try clear hb2);(try clear hk);(try clear hi);have hcz94_0 : w93.cell? ⟨gb194,0,none⟩ = some (.slice A1_0 l1_0.length c1_0):=(blk_cell BK194.out 0).trans rfl;have hfz94_0:=blk_frozen BK194.out 0;have p208 : 0 ≤ ((ji69) : Int):=of_decide_eq_true (by first|(with_reducible assumption)|assumption);have q208 : (ji69) < (l1_0.length : Int):=of_decide_eq_true (by first|(with_reducible assumption)|assumption);obtain ⟨ad208,e208,hx208_0⟩:=Kd.at_int HR1_0.out (ji69) p208 q208;cases e208;replace hx208_0:=(HB.out.cell (World.block_lt_of_cell? w _ hx208_0)).trans hx208_0;replace p208:=eq_true p208;replace q208:=eq_true q208)|((with_reducible refine gate_callee (f:=107) rfl ?_);refine goesL_ (some 52) rfl rfl Try.func107 (by kernel_rfl) rfl #[.int .u32 (rd l1_0 (ji69))] rfl (by (try simp only [List.map_toArray,List.map_cons,List.map_nil]);first|done|(simp only [hji69];rfl)|rfl|(simp only [List.length_drop,List.length_take];rfl)) ?_;(with_reducible refine (bits_LeadingZeros32.calls (rd l1_0 (ji69)) t209 _ A72.out).mono ?_);rintro e w' ⟨rfl,⟨nd,rfl⟩⟩;refine ⟨_,rfl,?_⟩))
          (try (rw [drewN_self w93];generalize hq_ : World.drewN w93 _ = w93;have n0_ : Aside0 (w93.heap[gb193]? = some (.cells #[.slice A0_0 l0_0.length c0_0] 38 (0,0))):=⟨by rw [← hq_];exact (by (with_reducible repeat (first|refine blk_drewN ?_ _|refine blk_drew ?_|refine blk_alloc ?_ _));exact BK193.out)⟩;have n1_ : Aside0 (w93.heap[gb194]? = some (.cells #[.slice (some ad208) l1_0.length c1_0] 38 (0,0))):=⟨by rw [← hq_];exact (by (with_reducible repeat (first|refine blk_drewN ?_ _|refine blk_drew ?_|refine blk_alloc ?_ _));exact BK194.out)⟩;have n2_ : Aside0 (w93.heap[gb195]? = some (.cells #[.slice none 0 0] 38 (0,0))):=⟨by rw [← hq_];exact (by (with_reducible repeat (first|refine blk_drewN ?_ _|refine blk_drew ?_|refine blk_alloc ?_ _));exact BK195.out)⟩;have n3_ : Aside0 (w93.heap[gb196]? = some (.cells #[.slice none 0 0] 38 (0,0))):=⟨by rw [← hq_];exact (by (with_reducible repeat (first|refine blk_drewN ?_ _|refine blk_drew ?_|refine blk_alloc ?_ _));exact BK196.out)⟩;have n4_ : Aside0 (Below w.heap.size w w93):=⟨by rw [← hq_];exact (by repeat (first|(with_reducible first|exact HB.out|apply below_alloc|apply pw_below_drewN|apply below_drew1|refine below_set ?_ GE193.out|refine below_set ?_ GE194.out|refine below_set ?_ GE195.out|refine below_set ?_ GE196.out)|exact HB.out))⟩;clear BK193 BK194 BK195 BK196 HB hq_;have BK193:=n0_;have BK194:=n1_;have BK195:=n2_;have BK196:=n3_;have HB:=n4_;clear n0_ n1_ n2_ n3_ n4_))
          have n0_:=Aside0.mk (blk_drew BK193.out)
          have n1_:=Aside0.mk (blk_drew BK194.out)
          have n2_:=Aside0.mk (blk_drew BK195.out)
          have n3_:=Aside0.mk (blk_drew BK196.out)
          have n4_:=Aside0.mk (below_drew1 HB.out)
          clear BK193
          clear BK194
          clear BK195
          clear BK196
          clear HB
          have BK193:=n0_
          have BK194:=n1_
          have BK195:=n2_
          have BK196:=n3_
          have HB:=n4_
          clear n0_ n1_ n2_ n3_ n4_
          refine start_ (n:=14) (S:=fun w' => w'.cell? ⟨gb193,0,none⟩ = some (.slice A0_0 l0_0.length c0_0) ∧ w'.cell? ⟨gb194,0,none⟩ = some (.slice (some ad208) l1_0.length c1_0)) (ds:=[]) #[false,false,false,false,false,false,false,false,false,false,false,false,false,false] (by kernel_rfl) rfl rfl ⟨(blk_cell BK193.out 0).trans rfl,(blk_cell BK194.out 0).trans rfl⟩ (fun hHeld => ?_);refine with_tabW nat_Nat_Div.tab9 nat_Nat_Div.bits9 (fun HT_ HW_ => ?_)
          generalize w93.drew = w95 at BK193 BK194 BK195 BK196 HB hHeld ⊢
          refine pure_ (i:=0) (N:=some 53) (v:=?_) (a':=?_) #[true,false,false,false,false,false,false,false,false,false,false,false,false,false] rfl rfl (any_of HT_.out (by kernel_rfl)) (fun _ _ _ h => h) (Or.inl ⟨by rfl,?_⟩) ?_ ?_
          rotate_left
          ·intro w'
           go_simp
           with_reducible rfl
          rotate_left
          ·simp only [Act.put,List.setIfInBounds_toArray,List.set_cons_zero,List.set_cons_succ,i64_w,i32_w]
           rfl
          refine pure_ (i:=2) (N:=some 55) (v:=?_) (a':=?_) #[true,false,true,false,false,false,false,false,false,false,false,false,false,false] rfl rfl (any_of HT_.out (by kernel_rfl)) (fun _ _ _ h => h) (Or.inl ⟨by rfl,?_⟩) ?_ ?_
          rotate_left
          ·intro w'
           go_simp
           with_reducible rfl
          rotate_left
          ·simp only [Act.put,List.setIfInBounds_toArray,List.set_cons_zero,List.set_cons_succ,i64_w,i32_w]
           rfl
          refine pure_ (i:=4) (N:=some 57) (v:=?_) (a':=?_) #[true,false,true,false,true,false,false,false,false,false,false,false,false,false] rfl rfl (any_of HT_.out (by kernel_rfl)) (fun _ _ _ h => h) (Or.inl ⟨by rfl,?_⟩) ?_ ?_
          rotate_left
          ·intro w'
           go_simp
           with_reducible rfl
          rotate_left
          ·simp only [Act.put,List.setIfInBounds_toArray,List.set_cons_zero,List.set_cons_succ,i64_w,i32_w]
           rfl
          refine pure_ (i:=6) (N:=some 59) (v:=?_) (a':=?_) #[true,false,true,false,true,false,true,false,false,false,false,false,false,false] rfl rfl (any_of HT_.out (by kernel_rfl)) (fun _ _ _ h => h) (Or.inl ⟨by rfl,?_⟩) ?_ ?_
          rotate_left
          ·intro w'
           go_simp
           with_reducible rfl
          rotate_left
          ·simp only [Act.put,List.setIfInBounds_toArray,List.set_cons_zero,List.set_cons_succ,i64_w,i32_w]
           rfl
          refine pure_ (i:=8) (N:=some 61) (v:=?_) (a':=?_) #[true,false,true,false,true,false,true,false,true,false,false,false,false,false] rfl rfl (any_of HT_.out (by kernel_rfl)) (fun _ _ _ h => h) (Or.inl ⟨by rfl,?_⟩) ?_ ?_
          rotate_left
          ·intro w'
           go_simp
           with_reducible rfl
          rotate_left
          ·simp only [Act.put,List.setIfInBounds_toArray,List.set_cons_zero,List.set_cons_succ,i64_w,i32_w]
           rfl
          refine take_ (i:=1) (N:=some 54) (v:=?_) (a':=?_) #[true,true,true,false,true,false,true,false,true,false,false,false,false,false] rfl rfl (take_ofW HT_.out HW_.out (by kernel_rfl)) (fun _ _ _ h => h) (Or.inl ⟨by rfl,?_⟩) hHeld ?_ ?_
          rotate_left
          ·rintro w' ⟨s0,s1⟩
           go_simp
           with_reducible rfl
          rotate_left
          ·simp only [Act.put,List.setIfInBounds_toArray,List.set_cons_zero,List.set_cons_succ,i64_w,i32_w]
           rfl
          refine take_ (i:=5) (N:=some 58) (v:=?_) (a':=?_) #[true,true,true,false,true,true,true,false,true,false,false,false,false,false] rfl rfl (take_ofW HT_.out HW_.out (by kernel_rfl)) (fun _ _ _ h => h) (Or.inl ⟨by rfl,?_⟩) hHeld ?_ ?_
          rotate_left
          ·rintro w' ⟨s0,s1⟩
           go_simp
           with_reducible rfl
          rotate_left
          ·simp only [Act.put,List.setIfInBounds_toArray,List.set_cons_zero,List.set_cons_succ,i64_w,i32_w]
           rfl
          refine take_ (i:=9) (N:=some 62) (v:=?_) (a':=?_) #[true,true,true,false,true,true,true,false,true,true,false,false,false,false] rfl rfl (take_ofW HT_.out HW_.out (by kernel_rfl)) (fun _ _ _ h => h) (Or.inl ⟨by rfl,?_⟩) hHeld ?_ ?_
          rotate_left
          ·rintro w' ⟨s0,s1⟩
           go_simp
           with_reducible rfl
          rotate_left
          ·simp only [Act.put,List.setIfInBounds_toArray,List.set_cons_zero,List.set_cons_succ,i64_w,i32_w]
           rfl
          refine pure_ (i:=10) (N:=some 63) (v:=?_) (a':=?_) #[true,true,true,false,true,true,true,false,true,true,true,false,false,false] rfl rfl (any_of HT_.out (by kernel_rfl)) (fun _ _ _ h => h) (Or.inl ⟨by rfl,?_⟩) ?_ ?_
          rotate_left
          ·intro w'
           go_simp
           with_reducible rfl
          rotate_left
          ·simp only [Act.put,List.setIfInBounds_toArray,List.set_cons_zero,List.set_cons_succ,i64_w,i32_w]
           rfl
          refine one_ (i:=3) (N:=some 56) #[true,true,true,true,true,true,true,false,true,true,true,false,false,false] rfl rfl (one_of HT_.out (by kernel_rfl)) (by decide) (fun K hK => ?_)
          refine goes_ Try.func108 (by kernel_rfl) rfl #[.slice A0_0 l0_0.length c0_0,.int .i64 t209] (by rfl) rfl rfl (by (try simp only [List.map_toArray,List.map_cons,List.map_nil]);first|done|rfl|(simp only [List.length_drop,List.length_take];rfl)) ?_
          with_reducible refine (nat_shift.calls k _ _ l0_0 t209 t210 _ ?side1 ?side2 A73.out).mono ?_
          (case side1 => repeat (first|exact (Kd.C_below HR0_0.out HB.out)|(with_reducible refine Kd.C_alloc ?_ _)|(with_reducible refine Kd.C_drewN ?_ _)|(with_reducible refine Kd.C_drew ?_)))
          (case side2 => exact HC0_0.out)
          rintro e w96 ⟨v211,rfl,ho0,hb⟩
          refine ⟨_,rfl,?_⟩
          have n0_:=Aside0.mk (Kd.R_lower (Kd.R_newM (M:=fun k_ => (w.heap.size ≤ k_)) ho0 (below_size (by repeat (first|(with_reducible first|exact HB.out|apply below_alloc|apply pw_below_drewN|apply below_drew1|refine below_set ?_ GE193.out|refine below_set ?_ GE194.out|refine below_set ?_ GE195.out|refine below_set ?_ GE196.out)|exact HB.out))) (fun k_ h_ => h_)) (below_size (by repeat (first|(with_reducible first|exact HB.out|apply below_alloc|apply pw_below_drewN|apply below_drew1|refine below_set ?_ GE193.out|refine below_set ?_ GE194.out|refine below_set ?_ GE195.out|refine below_set ?_ GE196.out)|exact HB.out))))
          have n1_:=Aside0.mk (blk_below (g:=gb193) (o:=.cells #[.slice A0_0 l0_0.length c0_0] 38 (0,0)) (by (with_reducible repeat (first|refine blk_drewN ?_ _|refine blk_drew ?_|refine blk_alloc ?_ _));exact BK193.out) hb)
          have n2_:=Aside0.mk (blk_below (g:=gb194) (o:=.cells #[.slice (some ad208) l1_0.length c1_0] 38 (0,0)) (by (with_reducible repeat (first|refine blk_drewN ?_ _|refine blk_drew ?_|refine blk_alloc ?_ _));exact BK194.out) hb)
          have n3_:=Aside0.mk (blk_below (g:=gb195) (o:=.cells #[.slice none 0 0] 38 (0,0)) (by (with_reducible repeat (first|refine blk_drewN ?_ _|refine blk_drew ?_|refine blk_alloc ?_ _));exact BK195.out) hb)
          have n4_:=Aside0.mk (blk_below (g:=gb196) (o:=.cells #[.slice none 0 0] 38 (0,0)) (by (with_reducible repeat (first|refine blk_drewN ?_ _|refine blk_drew ?_|refine blk_alloc ?_ _));exact BK196.out) hb)
          have n5_:=Aside0.mk (below_step (by repeat (first|(with_reducible first|exact HB.out|apply below_alloc|apply pw_below_drewN|apply below_drew1|refine below_set ?_ GE193.out|refine below_set ?_ GE194.out|refine below_set ?_ GE195.out|refine below_set ?_ GE196.out)|exact HB.out)) hb)
          clear BK193
          clear BK194
          clear BK195
          clear BK196
          clear HB
          have HO212:=n0_
          have BK193:=n1_
          have BK194:=n2_
          have BK195:=n3_
          have BK196:=n4_
          have HB:=n5_
          clear n0_ n1_ n2_ n3_ n4_ n5_
          (try clear hb)
          (try clear hb2)
          (try clear hk)
          (try clear hi)
          (try clear ho0)
          refine hK.out _ _ ⟨(blk_cell BK193.out 0).trans rfl,(blk_cell BK194.out 0).trans rfl⟩ (fun hHeld => ?_)
          clear hK K
          refine norm_ (a':=?_) ?_ ?_
          rotate_left
          ·show Act.put _ (some 56) _ = _
           simp only [Act.put,List.setIfInBounds_toArray,List.set_cons_zero,List.set_cons_succ,i64_w,i32_w]
           rfl
          refine one_ (i:=7) (N:=some 60) #[true,true,true,true,true,true,true,true,true,true,true,false,false,false] rfl rfl (one_of HT_.out (by kernel_rfl)) (by decide) (fun K hK => ?_)
          refine goes_ Try.func108 (by kernel_rfl) rfl #[.slice (some ad208) l1_0.length c1_0,.int .i64 t209] (by rfl) rfl rfl (by (try simp only [List.map_toArray,List.map_cons,List.map_nil]);first|done|rfl|(simp only [List.length_drop,List.length_take];rfl)) ?_
          with_reducible refine (nat_shift.calls k _ _ l1_0 t209 t213 _ ?side1 ?side2 A74.out).mono ?_
          (case side1 => repeat (first|exact (Kd.C_below HR1_0.out HB.out)|(with_reducible refine Kd.C_alloc ?_ _)|(with_reducible refine Kd.C_drewN ?_ _)|(with_reducible refine Kd.C_drew ?_)))
          (case side2 => exact HC1_0.out)
          rintro e w97 ⟨v214,rfl,ho0,hb⟩
          refine ⟨_,rfl,?_⟩
          have n0_:=Aside0.mk (Kd.R_elder' (by (with_reducible repeat (first|apply Kd.R_alloc|apply Kd.R_drewN|apply Kd.R_drew));exact HO212.out) (Kd.R_base ho0) hb)
          have n1_:=Aside0.mk (Kd.R_lower (Kd.R_new' (Kd.R_newM (M:=fun k_ => (w.heap.size ≤ k_)) ho0 (below_size (by repeat (first|(with_reducible first|exact HB.out|apply below_alloc|apply pw_below_drewN|apply below_drew1|refine below_set ?_ GE193.out|refine below_set ?_ GE194.out|refine below_set ?_ GE195.out|refine below_set ?_ GE196.out)|exact HB.out))) (fun k_ h_ => h_)) (Kd.R_lt (by (with_reducible repeat (first|apply Kd.R_alloc|apply Kd.R_drewN|apply Kd.R_drew));exact HO212.out))) (below_size (by repeat (first|(with_reducible first|exact HB.out|apply below_alloc|apply pw_below_drewN|apply below_drew1|refine below_set ?_ GE193.out|refine below_set ?_ GE194.out|refine below_set ?_ GE195.out|refine below_set ?_ GE196.out)|exact HB.out))))
          have n2_:=Aside0.mk (blk_below (g:=gb193) (o:=.cells #[.slice A0_0 l0_0.length c0_0] 38 (0,0)) (by (with_reducible repeat (first|refine blk_drewN ?_ _|refine blk_drew ?_|refine blk_alloc ?_ _));exact BK193.out) hb)
          have n3_:=Aside0.mk (blk_below (g:=gb194) (o:=.cells #[.slice (some ad208) l1_0.length c1_0] 38 (0,0)) (by (with_reducible repeat (first|refine blk_drewN ?_ _|refine blk_drew ?_|refine blk_alloc ?_ _));exact BK194.out) hb)
          have n4_:=Aside0.mk (blk_below (g:=gb195) (o:=.cells #[.slice none 0 0] 38 (0,0)) (by (with_reducible repeat (first|refine blk_drewN ?_ _|refine blk_drew ?_|refine blk_alloc ?_ _));exact BK195.out) hb)
          have n5_:=Aside0.mk (blk_below (g:=gb196) (o:=.cells #[.slice none 0 0] 38 (0,0)) (by (with_reducible repeat (first|refine blk_drewN ?_ _|refine blk_drew ?_|refine blk_alloc ?_ _));exact BK196.out) hb)
          have n6_:=Aside0.mk (below_step (by repeat (first|(with_reducible first|exact HB.out|apply below_alloc|apply pw_below_drewN|apply below_drew1|refine below_set ?_ GE193.out|refine below_set ?_ GE194.out|refine below_set ?_ GE195.out|refine below_set ?_ GE196.out)|exact HB.out)) hb)
          clear HO212
          clear BK193
          clear BK194
          clear BK195
          clear BK196
          clear HB
          have HO212:=n0_
          have HO215:=n1_
          have BK193:=n2_
          have BK194:=n3_
          have BK195:=n4_
          have BK196:=n5_
          have HB:=n6_
          clear n0_ n1_ n2_ n3_ n4_ n5_ n6_
          (try clear hb)
          (try clear hb2)
          (try clear hk)
          (try clear hi)
          (try clear ho0)
          obtain ⟨Ao99,co99,eo99⟩:=Kd.R_slice HO215.out
          (first|subst eo99|(injection eo99 with f1_ f2_ f3_;have f4_:=f1_.symm;have f5_:=f3_.symm;clear f1_ f2_ f3_;subst f4_;subst f5_))
          have q98 : ((l1_0.length : Int) : Int) ≤ ((t213.length : Int) : Int):=of_decide_eq_true (by first|(with_reducible assumption)|assumption)
          obtain ⟨i098,hi098,_,hsz98,_⟩:=info_parts info23
          have hroom98 : t213.length ≤ co99:=(Kd.R_reads' HO215.out).2.1
          have hC98 : Kd.C (Kd.int .u32) _ Ao99 t213.length t213:=(Kd.R_reads' HO215.out).2.2
          have hcut98:=cut_to (P:=Try.prog) 36 23 .i64 Try.underlying36 hi098 Ao99 t213.length co99 (l1_0.length : Int) (of_decide_eq_true (by first|(with_reducible assumption)|assumption)) q98 hroom98
          have hr98:=Kd.C_take (m:=((l1_0.length : Int) : Int).toNat) hC98 (by omega)
          have hy98 : y216.length = ((l1_0.length : Int) : Int).toNat:=(by rw [Ny216.out,List.length_take];omega)
          rw [← Ny216.out] at hr98
          rw [← hy98] at hcut98
          have HR219:=Aside0.mk hr98
          have HC219:=Aside0.mk (show y216.length ≤ co99 from by omega)
          clear hr98 hC98 hroom98 hi098 hsz98
          have KY98:=Aside0.mk hy98
          clear hy98
          have KL98:=Aside0.mk (show ((l1_0.length : Int) : Int).toNat ≤ t213.length from by omega)
          replace q98:=eq_true q98
          refine hK.out _ _ ⟨(blk_cell BK193.out 0).trans rfl,(blk_cell BK194.out 0).trans rfl⟩ (fun hHeld => ?_)
          clear hK K
          refine norm_ (a':=?_) ?_ ?_
          rotate_left
          ·show Act.put _ (some 60) _ = _
           simp only [Act.put,List.setIfInBounds_toArray,List.set_cons_zero,List.set_cons_succ,i64_w,i32_w]
           rfl
          refine pure_ (i:=11) (N:=some 64) (v:=?_) (a':=?_) #[true,true,true,true,true,true,true,true,true,true,true,true,false,false] rfl rfl (any_of HT_.out (by kernel_rfl)) (fun _ _ _ h => h) (Or.inl ⟨by rfl,?_⟩) ?_ ?_
          rotate_left
          ·intro w'
           go_simp
           with_reducible rfl
          rotate_left
          ·simp only [Act.put,List.setIfInBounds_toArray,List.set_cons_zero,List.set_cons_succ,i64_w,i32_w]
           rfl
          refine pure_ (i:=12) (N:=some 10) (v:=?_) (a':=?_) #[true,true,true,true,true,true,true,true,true,true,true,true,true,false] rfl rfl (any_of HT_.out (by kernel_rfl)) (fun _ _ _ h => h) (Or.inl ⟨by rfl,?_⟩) ?_ ?_
          rotate_left
          ·intro w'
           go_simp
           with_reducible rfl
          rotate_left
          ·simp only [Act.put,List.setIfInBounds_toArray,List.set_cons_zero,List.set_cons_succ,i64_w,i32_w]
           rfl
          refine pure_ (i:=13) (N:=some 11) (v:=?_) (a':=?_) #[true,true,true,true,true,true,true,true,true,true,true,true,true,true] rfl rfl (any_of HT_.out (by kernel_rfl)) (fun _ _ _ h => h) (Or.inl ⟨by rfl,?_⟩) ?_ ?_
          rotate_left
          ·intro w'
           go_simp
           with_reducible rfl
          rotate_left
          ·simp only [Act.put,List.setIfInBounds_toArray,List.set_cons_zero,List.set_cons_succ,i64_w,i32_w]
           rfl
          refine done_ (done_of HT_.out (by kernel_rfl)) ?_
          obtain ⟨Ao100,co100,eo100⟩:=Kd.R_slice HO212.out
          subst eo100
          try go_wp2_with (first|((with_reducible refine gate_dst (N:=70) rfl ?_);refine Kd.R_make (Kd.int .u32) _ 23 rfl (N:=70) rfl 36 _ _ rfl ji77 rfl rfl Try.underlying36 (.int .u32 0) 4 info23 rfl (by decide) (by omega) 0 (ok:=fun _ => True) (okp:=fun _ => True) rfl (fun _ hk => hk) trivial (of_decide_eq_true (by first|(with_reducible assumption)|assumption)) (Nat.le_trans (Nat.mul_le_mul_right _ (of_decide_eq_true (by first|(with_reducible assumption)|assumption) : ji77.toNat ≤ 70368744177664)) (by omega)) (Below.refl _ _) (Nat.le_refl _) ?_;intro v221 w101 ho102 hb hg_ hnew_;clear hg_ hnew_;(first|rw [← Ny220.out] at ho102|(simp only [Int.reduceToNat] at ho102;rw [← Ny220.out] at ho102));have n0_:=Aside0.mk (Kd.R_elder' (by (with_reducible repeat (first|apply Kd.R_alloc|apply Kd.R_drewN|apply Kd.R_drew));exact HO212.out) (Kd.R_base ho102) hb);have n1_:=Aside0.mk (Kd.R_elder' (by (with_reducible repeat (first|apply Kd.R_alloc|apply Kd.R_drewN|apply Kd.R_drew));exact HO215.out) (Kd.R_base ho102) hb);have n2_:=Aside0.mk (Kd.R_lower (Kd.R_new' (Kd.R_new' (Kd.R_newM (M:=fun k_ => (w.heap.size ≤ k_)) ho102 (below_size (by repeat (first|(with_reducible first|exact HB.out|apply below_alloc|apply pw_below_drewN|apply below_drew1|refine below_set ?_ GE193.out|refine below_set ?_ GE194.out|refine below_set ?_ GE195.out|refine below_set ?_ GE196.out)|exact HB.out))) (fun k_ h_ => h_)) (Kd.R_lt (by (with_reducible repeat (first|apply Kd.R_alloc|apply Kd.R_drewN|apply Kd.R_drew));exact HO212.out))) (Kd.R_lt (by (with_reducible repeat (first|apply Kd.R_alloc|apply Kd.R_drewN|apply Kd.R_drew));exact HO215.out))) (below_size (by repeat (first|(with_reducible first|exact HB.out|apply below_alloc|apply pw_below_drewN|apply below_drew1|refine below_set ?_ GE193.out|refine below_set ?_ GE194.out|refine below_set ?_ GE195.out|refine below_set ?_ GE196.out)|exact HB.out))));have n3_:=Aside0.mk (blk_below (g:=gb193) (o:=.cells #[.slice A0_0 l0_0.length c0_0] 38 (0,0)) (by (with_reducible repeat (first|refine blk_drewN ?_ _|refine blk_drew ?_|refine blk_alloc ?_ _));exact BK193.out) hb);have n4_:=Aside0.mk (blk_below (g:=gb194) (o:=.cells #[.slice (some ad208) l1_0.length c1_0] 38 (0,0)) (by (with_reducible repeat (first|refine blk_drewN ?_ _|refine blk_drew ?_|refine blk_alloc ?_ _));exact BK194.out) hb);have n5_:=Aside0.mk (blk_below (g:=gb195) (o:=.cells #[.slice none 0 0] 38 (0,0)) (by (with_reducible repeat (first|refine blk_drewN ?_ _|refine blk_drew ?_|refine blk_alloc ?_ _));exact BK195.out) hb);have n6_:=Aside0.mk (blk_below (g:=gb196) (o:=.cells #[.slice none 0 0] 38 (0,0)) (by (with_reducible repeat (first|refine blk_drewN ?_ _|refine blk_drew ?_|refine blk_alloc ?_ _));exact BK196.out) hb);have n7_:=Aside0.mk (Kd.C_below (by repeat (first|(with_reducible exact HR219.out)|(with_reducible refine Kd.C_alloc ?_ _)|(with_reducible refine Kd.C_drewN ?_ _)|(with_reducible refine Kd.C_drew ?_)|exact HR219.out)) hb);have n8_:=Aside0.mk (below_step (by repeat (first|(with_reducible first|exact HB.out|apply below_alloc|apply pw_below_drewN|apply below_drew1|refine below_set ?_ GE193.out|refine below_set ?_ GE194.out|refine below_set ?_ GE195.out|refine below_set ?_ GE196.out)|exact HB.out)) hb);clear HO212;clear HO215;clear BK193;clear BK194;clear BK195;clear BK196;clear HR219;clear HB;have HO212:=n0_;have HO215:=n1_;have HO222:=n2_;have BK193:=n3_;have BK194:=n4_;have BK195:=n5_;have BK196:=n6_;have HR219:=n7_;have HB:=n8_;clear n0_ n1_ n2_ n3_ n4_ n5_ n6_ n7_ n8_;clear hb ho102;obtain ⟨Ao103,co103,eo103⟩:=Kd.R_slice HO222.out;subst eo103))
          go_loopg [13] k (fun kq v13 w' => ∃ (x10_1 : List Int) (x12_1 : List Int) (x13_1 : Int),v13 = .int .i64 x13_1 ∧ Aside0 (nat_Nat_Div.l0 kq t209 x10_1 y216 x12_1 x13_1 = some (r1,r2,r3)) ∧ Aside0 (kq ≤ k) ∧ Aside0 (Kd.V (Kd.int .u32) 23 w' w.heap.size (fun k_ => some k_ ≠ (.slice Ao100 t210.length co100 : Value).ownBlock ∧ some k_ ≠ (.slice Ao103 y220.length co103 : Value).ownBlock) (.slice Ao99 y216.length co99) y216) ∧ Aside0 (Kd.R (Kd.int .u32) 23 w' w.heap.size (fun k_ => (w.heap.size ≤ k_) ∧ some k_ ≠ ((.slice Ao103 y220.length co103) : Value).ownBlock) (.slice Ao100 t210.length co100) x10_1) ∧ Aside0 (Kd.R (Kd.int .u32) 23 w' w.heap.size (fun k_ => (w.heap.size ≤ k_) ∧ some k_ ≠ ((.slice Ao100 t210.length co100) : Value).ownBlock) (.slice Ao103 y220.length co103) x12_1) ∧ Aside0 (w'.heap[gb193]? = some (.cells #[(.slice A0_0 l0_0.length c0_0)] 38 (0,0))) ∧ Aside0 (w'.heap[gb194]? = some (.cells #[(.slice (some ad208) l1_0.length c1_0)] 38 (0,0))) ∧ Aside0 (w'.heap[gb195]? = some (.cells #[(.slice none 0 0)] 38 (0,0))) ∧ Aside0 (w'.heap[gb196]? = some (.cells #[(.slice none 0 0)] 38 (0,0))) ∧ Aside0 (Below w.heap.size w w'))
          case atStart => exact ⟨(t210),(y220),(wrap64 ((y220.length : Int) - 1)),(by first|rfl|(simp;done)|(simp [*];done)),H',⟨Nat.le_refl _⟩,⟨by (with_reducible repeat (first|apply Kd.V_alloc|apply Kd.V_drewN|apply Kd.V_drew));exact Kd.V_mono (Md.V_take_of_R HO215.out l1_0.length (by have:=of_decide_eq_true c76b1;omega) (by have:=Ny216.out;rwa [Int.toNat_natCast] at this)) (fun _ hk => ⟨hk.1.2,hk.2⟩)⟩,⟨by (with_reducible repeat (first|apply Kd.R_alloc|apply Kd.R_drewN|apply Kd.R_drew));exact Kd.R_mono HO212.out (fun _ hk => ⟨hk.1.1.1,hk.2⟩)⟩,⟨by (with_reducible repeat (first|apply Kd.R_alloc|apply Kd.R_drewN|apply Kd.R_drew));exact Kd.R_mono HO222.out (fun _ hk => ⟨hk.1.1.1,hk.1.2⟩)⟩,⟨by (with_reducible repeat (first|refine blk_drewN ?_ _|refine blk_drew ?_|refine blk_alloc ?_ _));exact BK193.out⟩,⟨by (with_reducible repeat (first|refine blk_drewN ?_ _|refine blk_drew ?_|refine blk_alloc ?_ _));exact BK194.out⟩,⟨by (with_reducible repeat (first|refine blk_drewN ?_ _|refine blk_drew ?_|refine blk_alloc ?_ _));exact BK195.out⟩,⟨by (with_reducible repeat (first|refine blk_drewN ?_ _|refine blk_drew ?_|refine blk_alloc ?_ _));exact BK196.out⟩,⟨by repeat (first|(with_reducible first|exact HB.out|apply below_alloc|apply pw_below_drewN|apply below_drew1|refine below_set ?_ GE193.out|refine below_set ?_ GE194.out|refine below_set ?_ GE195.out|refine below_set ?_ GE196.out)|exact HB.out)⟩⟩
          case round =>
           clear H'
           try clear c1
           try clear p2
           try clear q2
           try clear hx2
           try clear c3
           try clear c4
           try clear c5
           try clear p6
           try clear c7
           try clear c8
           try clear c9
           try clear q9
           try clear c10
           try clear p20
           try clear q20
           try clear hx20
           try clear c38
           try clear c38b0
           try clear c38b1
           try clear c39
           try clear c44
           try clear c45
           try clear c53
           try clear p64
           try clear c70
           try clear c70b0
           try clear c71
           try clear c71b0
           try clear c75
           try clear c75b0
           try clear c75b1
           try clear c76
           try clear c76b0
           try clear c76b1
           try clear c78
           try clear c78b0
           try clear c78b1
           try clear c79
           try clear c79b0
           try clear c79b1
           try clear c84
           try clear c85
           try clear c86
           try clear c89
           try clear c90
           try clear q98
           try clear hcz87_0
           try clear hcz91_0
           try clear hcz92_0
           try clear hcz94_0
           try clear hfz87_0
           try clear hfz91_0
           try clear hfz92_0
           try clear hfz94_0
           try clear hx208_0
           try clear p208
           try clear q208
           try clear q98
           obtain ⟨x10_1,x12_1,x13_1,rfl,HA,HK1,HV,HO_10,HO_12,BK193,BK194,BK195,BK196,HB⟩:=hrel
           have hl10_1:=(Kd.R_reads' HO_10.out).1
           rw [hl10_1] at HO_10
           (try simp only [hl10_1])
           (try simp only [hl10_1] at BK193)
           (try simp only [hl10_1] at BK194)
           (try simp only [hl10_1] at BK195)
           (try simp only [hl10_1] at BK196)
           (try simp only [hl10_1] at HO_12)
           have hl12_1:=(Kd.R_reads' HO_12.out).1
           rw [hl12_1] at HO_12
           (try simp only [hl12_1])
           (try simp only [hl12_1] at BK193)
           (try simp only [hl12_1] at BK194)
           (try simp only [hl12_1] at BK195)
           (try simp only [hl12_1] at BK196)
           (try simp only [hl12_1] at HO_10)
           cases gk with
           |zero => exact absurd HA.out (by simp [nat_Nat_Div.l0])
           |succ k1 =>
            have H:=HA.out
            clear HA
            simp only [nat_Nat_Div.l0] at H
            by_cases c104 : x13_1 ≥ 0
            ·rw [if_pos c104] at H
             have c104b0 : decide (0 ≤ x13_1) = true:=decide_eq_true c104
             have c106b0 : decide (0 ≤ x13_1) = true:=decide_eq_true c104
             by_cases c105 : x13_1 + ((y216.length : Int) + 1) ≤ (x10_1.length : Int)
             ·rw [if_pos c105] at H
              replace H:=Option.bind_eq_some_iff.mp H
              obtain ⟨⟨t223,t224⟩,A1050,H⟩:=H
              replace H : (if x13_1 < (x12_1.length : Int) then (nat_Nat_Div.l0 k1 t209 (x10_1.take x13_1.toNat ++ t224 ++ x10_1.drop (x13_1.toNat + (y216.length + 1))) y216 (x12_1.set (x13_1 : Int).toNat t223) (wrap64 (x13_1 - 1))) else (none)) = some (r1,r2,r3):=H
              have A105:=Aside0.mk A1050
              clear A1050
              by_cases c107 : x13_1 < (x12_1.length : Int)
              ·rw [if_pos c107] at H
               have c107b0 : decide (x13_1 < (x12_1.length : Int)) = true:=decide_eq_true c107
               clear c107
               obtain ⟨y225,hy225⟩ : ∃ y_ : List Int,y_ = (x12_1.set (x13_1 : Int).toNat t223):=⟨_,rfl⟩
               obtain ⟨yu,hyu⟩ : ∃ y_ : List Int,y_ = (x10_1.take x13_1.toNat ++ t224 ++ x10_1.drop (x13_1.toNat + (y216.length + 1))):=⟨_,rfl⟩
               replace H : (nat_Nat_Div.l0 k1 t209 yu y216 y225 (wrap64 (x13_1 - 1))) = some (r1,r2,r3):=by rw [hy225,hyu];exact H
               have Ny225:=Aside0.mk hy225
               have Nyu:=Aside0.mk hyu
               clear hy225 hyu
               have H':=Aside0.mk H
               clear H
               have Hmax : (x10_1.length : Int) ≤ 9223372036854775807:=(by have:=(Kd.R_reads' HO_10.out).2.2.2.1;omega)
               have Hpc:=Aside0.mk (show x13_1.toNat + (y216.length + 1) ≤ x10_1.length by omega)
               obtain ⟨goU,coU,eoU,gbU,glU,clU,HGU⟩:=Kd.R_form HO_10.out (by omega)
               (first|cases eoU|(injection eoU with ea_ en_ ec_;(first|subst ea_|(injection ea_ with ea_;subst ea_));subst ec_;clear en_))
               have Hcap:=(Kd.R_reads' HO_10.out).2.1
               obtain ⟨ja,hja⟩ : ∃ j_ : Int,(wrap64 (x13_1 + (y216.length : Int))) = j_:=⟨_,rfl⟩
               obtain ⟨jb,hjb⟩ : ∃ j_ : Int,(wrap64 (ja + 1)) = j_:=⟨_,rfl⟩
               have hja1 : ja = x13_1 + (y216.length : Int):=by rw [← hja];unfold wrap64;omega
               have hjb1 : jb = x13_1 + (y216.length : Int) + 1:=by rw [← hjb,hja1];unfold wrap64;omega
               have hjaw : (IntKind.i64.wrap (x13_1 + (y216.length : Int))) = ja:=(i64_w _).trans hja
               have hjbw : (IntKind.i64.wrap (ja + 1)) = jb:=(i64_w _).trans hjb
               have hpc_ : ∀ W : World,(Instr.slice 36 (.slice (some ⟨goU,0,none⟩) x10_1.length co100) (some (.int .i64 x13_1)) (some (.int .i64 jb)) none).run Try.prog W = .ok (.slice (some ⟨goU,x13_1.toNat,none⟩) (y216.length + 1) (co100 - x13_1.toNat)) W:=(by obtain ⟨i_,hi_,hsz_⟩:=Option.map_eq_some_iff.1 info23;exact fun W => Md.run_piece 36 Try.underlying36 hi_ (by simp only [Prod.mk.injEq] at hsz_;exact hsz_.2.1) goU _ _ x13_1 jb (by omega) (by omega) (by omega) (y216.length + 1) (by omega) W)
               clear hja1 hjb1 Hmax Hcap gbU glU HGU c104 c105
               go_wp2_with (first|(go_at_call 109;(with_reducible refine (nat_digit.calls k1 x13_1.toNat x10_1.length co100 (x10_1.take x13_1.toNat) (x10_1.drop (x13_1.toNat + (y216.length + 1))) (fun k_ => some k_ = (.slice (some ⟨goU,0,none⟩) x10_1.length co100 : Value).ownBlock) (.slice (some ⟨goU,x13_1.toNat,none⟩) (y216.length + 1) (co100 - x13_1.toNat)) ((x10_1.drop x13_1.toNat).take (y216.length + 1)) _ _ y216 t223 t224 w _ ?side1 ?side2 ?side3 ?side4 A105.out).mono ?_);(case side1 => repeat (first|(with_reducible first|exact HB.out|apply below_alloc|apply pw_below_drewN|apply below_drew1|refine below_set ?_ GE193.out|refine below_set ?_ GE194.out|refine below_set ?_ GE195.out|refine below_set ?_ GE196.out)|exact HB.out));(case side2 => exact Md.R_tight (E:=[]) rfl (Md.R_piece HO_10.out _ _ Hpc.out));(case side3 => exact Kd.C_kept_ownV HV.out (fun k_ hk_ hs_ => hk_.1 hs_));(case side4 => exact HC219.out);rintro e w109 ⟨rfl,hy0,hb,hkp⟩;have n0_:=Aside0.mk (by rw [Nyu.out];exact Kd.R_reok rfl (Md.R_back hy0).2 (fun k_ e_ => HO_10.out.1 k_ e_) : Kd.R (Kd.int .u32) 23 _ w.heap.size (fun k_ => (w.heap.size ≤ k_) ∧ some k_ ≠ (.slice Ao103 x12_1.length co103 : Value).ownBlock) (.slice (some ⟨goU,0,none⟩) x10_1.length co100) yu);have n1_:=Aside0.mk (Kd.R_mono (ok':=fun k_ => (w.heap.size ≤ k_) ∧ some k_ ≠ (.slice (some ⟨goU,0,none⟩) x10_1.length co100 : Value).ownBlock) (Kd.R_keptB (HO_12.out) hkp (fun k_ hk_ hs_ => (hk_.2) hs_)) (fun k_ hk_ => ⟨hk_.1.1,hk_.1.2⟩));have n2_:=Aside0.mk (blk_kept (by (with_reducible repeat (first|refine blk_drewN ?_ _|refine blk_drew ?_|refine blk_alloc ?_ _));exact BK193.out) hkp (fun hs_ => (fun e_ => (Kd.R_ne HO_10.out BK193.out (by decide)) e_) hs_));have n3_:=Aside0.mk (blk_kept (by (with_reducible repeat (first|refine blk_drewN ?_ _|refine blk_drew ?_|refine blk_alloc ?_ _));exact BK194.out) hkp (fun hs_ => (fun e_ => (Kd.R_ne HO_10.out BK194.out (by decide)) e_) hs_));have n4_:=Aside0.mk (blk_kept (by (with_reducible repeat (first|refine blk_drewN ?_ _|refine blk_drew ?_|refine blk_alloc ?_ _));exact BK195.out) hkp (fun hs_ => (fun e_ => (Kd.R_ne HO_10.out BK195.out (by decide)) e_) hs_));have n5_:=Aside0.mk (blk_kept (by (with_reducible repeat (first|refine blk_drewN ?_ _|refine blk_drew ?_|refine blk_alloc ?_ _));exact BK196.out) hkp (fun hs_ => (fun e_ => (Kd.R_ne HO_10.out BK196.out (by decide)) e_) hs_));have n6_:=Aside0.mk (hb);have nV_:=Aside0.mk (Kd.V_kept HV.out hkp (fun k_ hk_ hs_ => hk_.1 hs_));clear HV;have HV:=nV_;clear nV_;clear HO_10;clear HO_12;clear BK193;clear BK194;clear BK195;clear BK196;clear HB;have HO_10:=n0_;have HO_12:=n1_;have BK193:=n2_;have BK194:=n3_;have BK195:=n4_;have BK196:=n5_;have HB:=n6_;clear n0_ n1_ n2_ n3_ n4_ n5_ n6_;(try clear hb);(try clear hkp);(try clear hy0);have p108 : 0 ≤ (x13_1 : Int):=of_decide_eq_true (by first|(with_reducible assumption)|assumption);have q108 : (x13_1 : Int) < ((x12_1.length : Int) : Int):=of_decide_eq_true (by first|(with_reducible assumption)|assumption);obtain ⟨go108,co108,eo108,gb108,gl108,cl108,HG108⟩:=Kd.R_form HO_12.out (by omega);(first|cases eo108|(injection eo108 with ea_ en_ ec_;(first|subst ea_|(injection ea_ with ea_;subst ea_));subst ec_;clear en_));have GB108:=Aside0.mk gb108;have GG108:=Aside0.mk HG108;clear gb108 gl108 HG108;obtain ⟨hx108_0,hf108_0⟩:=Kd.R_celln 0 HO_12.out (x13_1 : Int) p108 q108;replace p108:=eq_true p108;replace q108:=eq_true q108;obtain ⟨hy110_,hz110_⟩:=Kd.R_celln 0 HO_12.out (x13_1 : Int) (of_decide_eq_true (by first|(with_reducible assumption)|assumption)) (of_decide_eq_true (by first|(with_reducible assumption)|assumption));have HP110:=Kd.R_putg HO_12.out (x13_1 : Int) t223)|((with_reducible refine gate_store (t:=23) (p:=90) rfl ?_);refine store_event (t:=23) (p:=90) (v:=?vo_w111) (w1:=(w109.setCell ⟨go108,(x13_1 : Int).toNat,none⟩ (.int .u32 t223))) ?hg ?ho ?hn ?hr ?_;(case ho => rfl);(case hg => rfl);(case hn => rfl);(case hr => first|(go_simp;done)|(go_simp;rfl));intro w111 hw;have hg : w109.grownBy w111 (some go108):=(by rw [hw];exact HP110.2);have hp_ : Kd.R (Kd.int .u32) 23 w111 w.heap.size (fun k_ => (w.heap.size ≤ k_) ∧ some k_ ≠ (.slice (some ⟨goU,0,none⟩) x10_1.length co100 : Value).ownBlock) (.slice (some ⟨go108,0,none⟩) x12_1.length co103) y225:=(by rw [hw,Ny225.out];exact HP110.1);clear HP110;have n0_:=Aside0.mk (Kd.R_after (v:=(.slice (some ⟨go108,0,none⟩) x12_1.length co103)) (v1:=(.slice (some ⟨go108,0,none⟩) x12_1.length co103)) (ok:=(fun k_ => (w.heap.size ≤ k_))) (by (with_reducible repeat (first|apply Kd.R_alloc|apply Kd.R_drewN|apply Kd.R_drew));exact HO_10.out) hg (.inl rfl));have n1_:=Aside0.mk (hp_);have n2_:=Aside0.mk (blk_grown (g:=gb193) (o:=.cells #[.slice A0_0 l0_0.length c0_0] 38 (0,0)) (by (with_reducible repeat (first|refine blk_drewN ?_ _|refine blk_drew ?_|refine blk_alloc ?_ _));exact BK193.out) hg (Kd.R_ne HO_12.out BK193.out (by decide)));have n3_:=Aside0.mk (blk_grown (g:=gb194) (o:=.cells #[.slice (some ad208) l1_0.length c1_0] 38 (0,0)) (by (with_reducible repeat (first|refine blk_drewN ?_ _|refine blk_drew ?_|refine blk_alloc ?_ _));exact BK194.out) hg (Kd.R_ne HO_12.out BK194.out (by decide)));have n4_:=Aside0.mk (blk_grown (g:=gb195) (o:=.cells #[.slice none 0 0] 38 (0,0)) (by (with_reducible repeat (first|refine blk_drewN ?_ _|refine blk_drew ?_|refine blk_alloc ?_ _));exact BK195.out) hg (Kd.R_ne HO_12.out BK195.out (by decide)));have n5_:=Aside0.mk (blk_grown (g:=gb196) (o:=.cells #[.slice none 0 0] 38 (0,0)) (by (with_reducible repeat (first|refine blk_drewN ?_ _|refine blk_drew ?_|refine blk_alloc ?_ _));exact BK196.out) hg (Kd.R_ne HO_12.out BK196.out (by decide)));have n6_:=Aside0.mk ((by rw [hw];exact below_set (HB.out) GB108.out : Below w.heap.size w w111));have nV_:=Aside0.mk (Kd.V_grown HV.out hg (fun k_ hk_ e_ => hk_.2 e_));clear HV;have HV:=nV_;clear nV_;clear HO_10;clear HO_12;clear BK193;clear BK194;clear BK195;clear BK196;clear HB;have HO_10:=n0_;have HO_12:=n1_;have BK193:=n2_;have BK194:=n3_;have BK195:=n4_;have BK196:=n5_;have HB:=n6_;clear n0_ n1_ n2_ n3_ n4_ n5_ n6_;clear hg hw hp_))
               (try simp only [← hl10_1,← hl12_1])
               go_roundg k1
               case measure => have:=HK1.out;omega
               case rel => exact ⟨(yu),(y225),(wrap64 (x13_1 - 1)),(by first|rfl|(simp;done)|(simp [*];done)),H',⟨by have:=HK1.out;omega⟩,⟨HV.out⟩,⟨by (try simp only [hl10_1]);(try simp only [hl12_1]);(with_reducible repeat (first|apply Kd.R_alloc|apply Kd.R_drewN|apply Kd.R_drew));exact HO_10.out⟩,⟨by (try simp only [hl10_1]);(try simp only [hl12_1]);(with_reducible repeat (first|apply Kd.R_alloc|apply Kd.R_drewN|apply Kd.R_drew));exact HO_12.out⟩,⟨by (try simp only [hl10_1]);(try simp only [hl12_1]);(with_reducible repeat (first|refine blk_drewN ?_ _|refine blk_drew ?_|refine blk_alloc ?_ _));exact BK193.out⟩,⟨by (try simp only [hl10_1]);(try simp only [hl12_1]);(with_reducible repeat (first|refine blk_drewN ?_ _|refine blk_drew ?_|refine blk_alloc ?_ _));exact BK194.out⟩,⟨by (try simp only [hl10_1]);(try simp only [hl12_1]);(with_reducible repeat (first|refine blk_drewN ?_ _|refine blk_drew ?_|refine blk_alloc ?_ _));exact BK195.out⟩,⟨by (try simp only [hl10_1]);(try simp only [hl12_1]);(with_reducible repeat (first|refine blk_drewN ?_ _|refine blk_drew ?_|refine blk_alloc ?_ _));exact BK196.out⟩,⟨by repeat (first|(with_reducible first|exact HB.out|apply below_alloc|apply pw_below_drewN|apply below_drew1|refine below_set ?_ GE193.out|refine below_set ?_ GE194.out|refine below_set ?_ GE195.out|refine below_set ?_ GE196.out)|exact HB.out)⟩⟩
              ·rw [if_neg c107] at H
               exact absurd H (by simp)
             ·rw [if_neg c105] at H
              exact absurd H (by simp)
            ·rw [if_neg c104] at H
             have c104b0 : decide (0 ≤ x13_1) = false:=decide_eq_false c104
             clear c104
             by_cases c112 : 0 ≤ (y216.length : Int)
             ·rw [if_pos c112] at H
              have c112b0:=eq_true c112
              have c112b1 : decide (0 ≤ (y216.length : Int)) = true:=decide_eq_true c112
              clear c112
              by_cases c113 : ((y216.length : Int) : Int).toNat ≤ 70368744177664
              ·rw [if_pos c113] at H
               have c113b0:=eq_true c113
               have c113b1 : decide (((y216.length : Int) : Int).toNat ≤ 70368744177664) = true:=decide_eq_true c113
               clear c113
               obtain ⟨y226,hy226⟩ : ∃ y_ : List Int,y_ = (List.replicate ((y216.length : Int) : Int).toNat 0):=⟨_,rfl⟩
               replace H : (nat_Nat_Div.l1 k1 t209 x10_1 x12_1 y226 (y226.length : Int) 0) = some (r1,r2,r3):=by first|(rw [hy226];with_reducible exact H)|(have H2_:=(Option.bind_some _ _).symm.trans H;rw [hy226];with_reducible exact H2_)|(have H2_:=(Option.bind_some _ _).symm.trans H;with_reducible exact H2_)|with_reducible exact H|(rw [hy226];exact H)|exact H
               have Ny226:=Aside0.mk hy226
               clear hy226
               have H':=Aside0.mk H
               clear H
               go_wp2_with (first|((with_reducible refine gate_dst (N:=93) rfl ?_);refine Kd.R_make (Kd.int .u32) _ 23 rfl (N:=93) rfl 36 _ _ rfl (y216.length : Int) rfl rfl Try.underlying36 (.int .u32 0) 4 info23 rfl (by decide) (by omega) 0 (ok:=fun _ => True) (okp:=fun _ => True) rfl (fun _ hk => hk) trivial (of_decide_eq_true (by first|(with_reducible assumption)|assumption)) (Nat.le_trans (Nat.mul_le_mul_right _ (of_decide_eq_true (by first|(with_reducible assumption)|assumption) : (y216.length : Int).toNat ≤ 70368744177664)) (by omega)) (Below.refl _ _) (Nat.le_refl _) ?_;intro v227 w114 ho115 hb hg_ hnew_;clear hg_ hnew_;(first|rw [← Ny226.out] at ho115|(simp only [Int.reduceToNat] at ho115;rw [← Ny226.out] at ho115));have n0_:=Aside0.mk (Kd.R_elder' (by (with_reducible repeat (first|apply Kd.R_alloc|apply Kd.R_drewN|apply Kd.R_drew));exact HO_10.out) (Kd.R_base ho115) hb);have n1_:=Aside0.mk (Kd.R_elder' (by (with_reducible repeat (first|apply Kd.R_alloc|apply Kd.R_drewN|apply Kd.R_drew));exact HO_12.out) (Kd.R_base ho115) hb);have n2_:=Aside0.mk (Kd.R_lower (Kd.R_new' (Kd.R_new' (Kd.R_newM (M:=fun k_ => (w.heap.size ≤ k_)) ho115 (below_size (by repeat (first|(with_reducible first|exact HB.out|apply below_alloc|apply pw_below_drewN|apply below_drew1|refine below_set ?_ GE193.out|refine below_set ?_ GE194.out|refine below_set ?_ GE195.out|refine below_set ?_ GE196.out)|exact HB.out))) (fun k_ h_ => h_)) (Kd.R_lt (by (with_reducible repeat (first|apply Kd.R_alloc|apply Kd.R_drewN|apply Kd.R_drew));exact HO_10.out))) (Kd.R_lt (by (with_reducible repeat (first|apply Kd.R_alloc|apply Kd.R_drewN|apply Kd.R_drew));exact HO_12.out))) (below_size (by repeat (first|(with_reducible first|exact HB.out|apply below_alloc|apply pw_below_drewN|apply below_drew1|refine below_set ?_ GE193.out|refine below_set ?_ GE194.out|refine below_set ?_ GE195.out|refine below_set ?_ GE196.out)|exact HB.out))));have n3_:=Aside0.mk (blk_below (g:=gb193) (o:=.cells #[.slice A0_0 l0_0.length c0_0] 38 (0,0)) (by (with_reducible repeat (first|refine blk_drewN ?_ _|refine blk_drew ?_|refine blk_alloc ?_ _));exact BK193.out) hb);have n4_:=Aside0.mk (blk_below (g:=gb194) (o:=.cells #[.slice (some ad208) l1_0.length c1_0] 38 (0,0)) (by (with_reducible repeat (first|refine blk_drewN ?_ _|refine blk_drew ?_|refine blk_alloc ?_ _));exact BK194.out) hb);have n5_:=Aside0.mk (blk_below (g:=gb195) (o:=.cells #[.slice none 0 0] 38 (0,0)) (by (with_reducible repeat (first|refine blk_drewN ?_ _|refine blk_drew ?_|refine blk_alloc ?_ _));exact BK195.out) hb);have n6_:=Aside0.mk (blk_below (g:=gb196) (o:=.cells #[.slice none 0 0] 38 (0,0)) (by (with_reducible repeat (first|refine blk_drewN ?_ _|refine blk_drew ?_|refine blk_alloc ?_ _));exact BK196.out) hb);have n7_:=Aside0.mk (below_step (by repeat (first|(with_reducible first|exact HB.out|apply below_alloc|apply pw_below_drewN|apply below_drew1|refine below_set ?_ GE193.out|refine below_set ?_ GE194.out|refine below_set ?_ GE195.out|refine below_set ?_ GE196.out)|exact HB.out)) hb);clear HO_10;clear HO_12;clear BK193;clear BK194;clear BK195;clear BK196;clear HB;have HO_10:=n0_;have HO_12:=n1_;have HO228:=n2_;have BK193:=n3_;have BK194:=n4_;have BK195:=n5_;have BK196:=n6_;have HB:=n7_;clear n0_ n1_ n2_ n3_ n4_ n5_ n6_ n7_;clear hb ho115;obtain ⟨Ao116,co116,eo116⟩:=Kd.R_slice HO228.out;subst eo116))
               go_loopg [96] k1 (fun kq v96 w' => ∃ (x14_2 : List Int) (x96_2 : Int),v96 = .int .i64 x96_2 ∧ Aside0 (nat_Nat_Div.l1 kq t209 x10_1 x12_1 x14_2 (y226.length : Int) x96_2 = some (r1,r2,r3)) ∧ Aside0 (kq ≤ k1) ∧ Aside0 (Kd.R (Kd.int .u32) 23 w' w.heap.size (fun k_ => (w.heap.size ≤ k_) ∧ some k_ ≠ ((.slice Ao103 x12_1.length co103) : Value).ownBlock ∧ some k_ ≠ ((.slice Ao116 y226.length co116) : Value).ownBlock) (.slice Ao100 x10_1.length co100) x10_1) ∧ Aside0 (Kd.R (Kd.int .u32) 23 w' w.heap.size (fun k_ => (w.heap.size ≤ k_) ∧ some k_ ≠ ((.slice Ao100 x10_1.length co100) : Value).ownBlock ∧ some k_ ≠ ((.slice Ao116 y226.length co116) : Value).ownBlock) (.slice Ao103 x12_1.length co103) x12_1) ∧ Aside0 (Kd.R (Kd.int .u32) 23 w' w.heap.size (fun k_ => (w.heap.size ≤ k_) ∧ some k_ ≠ ((.slice Ao100 x10_1.length co100) : Value).ownBlock ∧ some k_ ≠ ((.slice Ao103 x12_1.length co103) : Value).ownBlock) (.slice Ao116 y226.length co116) x14_2) ∧ Aside0 (w'.heap[gb193]? = some (.cells #[(.slice A0_0 l0_0.length c0_0)] 38 (0,0))) ∧ Aside0 (w'.heap[gb194]? = some (.cells #[(.slice (some ad208) l1_0.length c1_0)] 38 (0,0))) ∧ Aside0 (w'.heap[gb195]? = some (.cells #[(.slice none 0 0)] 38 (0,0))) ∧ Aside0 (w'.heap[gb196]? = some (.cells #[(.slice none 0 0)] 38 (0,0))) ∧ Aside0 (Below w.heap.size w w'))
               case atStart => exact ⟨(y226),(0),(by first|rfl|(simp;done)|(simp [*];done)),H',⟨Nat.le_refl _⟩,⟨by (try simp only [hl10_1]);(try simp only [hl12_1]);(with_reducible repeat (first|apply Kd.R_alloc|apply Kd.R_drewN|apply Kd.R_drew));exact Kd.R_mono HO_10.out (fun _ hk => ⟨hk.1.1,⟨hk.1.2,hk.2⟩⟩)⟩,⟨by (try simp only [hl10_1]);(try simp only [hl12_1]);(with_reducible repeat (first|apply Kd.R_alloc|apply Kd.R_drewN|apply Kd.R_drew));exact Kd.R_mono HO_12.out (fun _ hk => ⟨hk.1.1,⟨hk.1.2,hk.2⟩⟩)⟩,⟨by (try simp only [hl10_1]);(try simp only [hl12_1]);(with_reducible repeat (first|apply Kd.R_alloc|apply Kd.R_drewN|apply Kd.R_drew));exact Kd.R_mono HO228.out (fun _ hk => ⟨hk.1.1.1,⟨hk.1.2,hk.2⟩⟩)⟩,⟨by (try simp only [hl10_1]);(try simp only [hl12_1]);(with_reducible repeat (first|refine blk_drewN ?_ _|refine blk_drew ?_|refine blk_alloc ?_ _));exact BK193.out⟩,⟨by (try simp only [hl10_1]);(try simp only [hl12_1]);(with_reducible repeat (first|refine blk_drewN ?_ _|refine blk_drew ?_|refine blk_alloc ?_ _));exact BK194.out⟩,⟨by (try simp only [hl10_1]);(try simp only [hl12_1]);(with_reducible repeat (first|refine blk_drewN ?_ _|refine blk_drew ?_|refine blk_alloc ?_ _));exact BK195.out⟩,⟨by (try simp only [hl10_1]);(try simp only [hl12_1]);(with_reducible repeat (first|refine blk_drewN ?_ _|refine blk_drew ?_|refine blk_alloc ?_ _));exact BK196.out⟩,⟨by repeat (first|(with_reducible first|exact HB.out|apply below_alloc|apply pw_below_drewN|apply below_drew1|refine below_set ?_ GE193.out|refine below_set ?_ GE194.out|refine below_set ?_ GE195.out|refine below_set ?_ GE196.out)|exact HB.out)⟩⟩
               case round =>
                clear H'
                try clear c1
                try clear p1
                try clear q1
                try clear hx1
                try clear p2
                try clear q2
                try clear hx2
                try clear c3
                try clear c4
                try clear c5
                try clear p6
                try clear c7
                try clear c8
                try clear c9
                try clear q9
                try clear c10
                try clear p10
                try clear q10
                try clear hx10
                try clear hf10
                try clear c11
                try clear p20
                try clear q20
                try clear hx20
                try clear c38
                try clear c38b0
                try clear c38b1
                try clear c39
                try clear c44
                try clear c45
                try clear c53
                try clear p64
                try clear c70
                try clear c70b0
                try clear c71
                try clear c71b0
                try clear c75
                try clear c75b0
                try clear c75b1
                try clear c76
                try clear c76b0
                try clear c76b1
                try clear c78
                try clear c78b0
                try clear c78b1
                try clear c79
                try clear c79b0
                try clear c79b1
                try clear c84
                try clear c85
                try clear c86
                try clear c89
                try clear c90
                try clear q98
                try clear c104
                try clear c104b0
                try clear c106
                try clear c106b0
                try clear c107
                try clear c107b0
                try clear c108
                try clear p108
                try clear q108
                try clear hx108
                try clear hf108
                try clear c109
                try clear c112
                try clear c112b0
                try clear c112b1
                try clear c113
                try clear c113b0
                try clear c113b1
                try clear hcz87_0
                try clear hcz91_0
                try clear hcz92_0
                try clear hcz94_0
                try clear hfz87_0
                try clear hfz91_0
                try clear hfz92_0
                try clear hfz94_0
                try clear hx108_0
                try clear hx208_0
                try clear p108
                try clear p2
                try clear p20
                try clear p208
                try clear p6
                try clear p64
                try clear q108
                try clear q2
                try clear q20
                try clear q208
                try clear q9
                try clear q98
                obtain ⟨x14_2,x96_2,rfl,HA,HK2,HO_10,HO_12,HO_14,BK193,BK194,BK195,BK196,HB⟩:=hrel
                have hl14_2:=(Kd.R_reads' HO_14.out).1
                rw [hl14_2] at HO_14
                (try simp only [hl14_2])
                (try simp only [hl14_2] at BK193)
                (try simp only [hl14_2] at BK194)
                (try simp only [hl14_2] at BK195)
                (try simp only [hl14_2] at BK196)
                (try simp only [hl14_2] at HO_10)
                (try simp only [hl14_2] at HO_12)
                cases gk with
                |zero => exact absurd HA.out (by simp [nat_Nat_Div.l1])
                |succ k2 =>
                 have H:=HA.out
                 clear HA
                 simp only [nat_Nat_Div.l1] at H
                 by_cases c117 : x96_2 < (y226.length : Int)
                 ·rw [if_pos c117] at H
                  have c117b0 : decide (x96_2 < (y226.length : Int)) = true:=decide_eq_true c117
                  (try rw [hl14_2] at c117b0)
                  clear c117
                  obtain ⟨ji118,hji118⟩ : ∃ j_ : Int,(wrap64 (x96_2 + 1)) = j_:=⟨_,rfl⟩
                  replace H : (if 0 ≤ (ji118) then (if (ji118) < (x10_1.length : Int) then (if 0 ≤ x96_2 then (if x96_2 < (x10_1.length : Int) then (if 0 ≤ t209 then (if x96_2 < (x14_2.length : Int) then (nat_Nat_Div.l1 k2 t209 x10_1 x12_1 (x14_2.set (x96_2 : Int).toNat ((shr .u64 (Go.bits .or .u64 (IntKind.u64.wrap ((IntKind.u64.wrap (rd x10_1 (ji118))) * 4294967296)) (IntKind.u64.wrap (rd x10_1 x96_2))) t209) % 4294967296)) (y226.length : Int) ji118) else (none)) else (none)) else (none)) else (none)) else (none)) else (none)) = some (r1,r2,r3):=by first|(rw [hji118] at H;exact H)|(simp only [hji118] at H ⊢;exact H)
                  have hji118w : (IntKind.i64.wrap (x96_2 + 1)) = ji118:=(i64_w _).trans hji118
                  by_cases c119 : 0 ≤ (ji118)
                  ·rw [if_pos c119] at H
                   have c119b0 : decide (0 ≤ (ji118)) = true:=decide_eq_true c119
                   clear c119
                   by_cases c120 : (ji118) < (x10_1.length : Int)
                   ·rw [if_pos c120] at H
                    have c120b0 : decide ((ji118) < (x10_1.length : Int)) = true:=decide_eq_true c120
                    clear c120
                    by_cases c121 : 0 ≤ x96_2
                    ·rw [if_pos c121] at H
                     have c121b0 : decide (0 ≤ x96_2) = true:=decide_eq_true c121
                     clear c121
                     by_cases c122 : x96_2 < (x10_1.length : Int)
                     ·rw [if_pos c122] at H
                      have c122b0 : decide (x96_2 < (x10_1.length : Int)) = true:=decide_eq_true c122
                      clear c122
                      by_cases c123 : 0 ≤ t209
                      ·rw [if_pos c123] at H
                       have c123b0:=eq_true c123
                       have c123b1 : decide (0 ≤ t209) = true:=decide_eq_true c123
                       clear c123
                       obtain ⟨ji124,hji124⟩ : ∃ j_ : Int,(shr .u64 (Go.bits .or .u64 (IntKind.u64.wrap ((IntKind.u64.wrap (rd x10_1 (ji118))) * 4294967296)) (IntKind.u64.wrap (rd x10_1 x96_2))) t209) = j_:=⟨_,rfl⟩
                       replace H : (if x96_2 < (x14_2.length : Int) then (nat_Nat_Div.l1 k2 t209 x10_1 x12_1 (x14_2.set (x96_2 : Int).toNat ((ji124) % 4294967296)) (y226.length : Int) ji118) else (none)) = some (r1,r2,r3):=by first|(rw [hji124] at H;exact H)|(simp only [hji124] at H ⊢;exact H)
                       have hji124_ : ((Go.bits .or .u64 (IntKind.u64.wrap ((IntKind.u64.wrap (rd x10_1 (ji118))) * 4294967296)) (IntKind.u64.wrap (rd x10_1 x96_2))) / 2 ^ min t209.toNat 64) = ji124:=hji124
                       have hji124z : t209 ≤ 64 → ((Go.bits .or .u64 (IntKind.u64.wrap ((IntKind.u64.wrap (rd x10_1 (ji118))) * 4294967296)) (IntKind.u64.wrap (rd x10_1 x96_2))) / 2 ^ t209.toNat) = ji124:=shr_small hji124
                       by_cases c125 : x96_2 < (x14_2.length : Int)
                       ·rw [if_pos c125] at H
                        have c125b0 : decide (x96_2 < (x14_2.length : Int)) = true:=decide_eq_true c125
                        clear c125
                        obtain ⟨y231,hy231⟩ : ∃ y_ : List Int,y_ = (x14_2.set (x96_2 : Int).toNat ((ji124) % 4294967296)):=⟨_,rfl⟩
                        replace H : (nat_Nat_Div.l1 k2 t209 x10_1 x12_1 y231 (y226.length : Int) ji118) = some (r1,r2,r3):=by first|(rw [hy231];with_reducible exact H)|(have H2_:=(Option.bind_some _ _).symm.trans H;rw [hy231];with_reducible exact H2_)|(have H2_:=(Option.bind_some _ _).symm.trans H;with_reducible exact H2_)|with_reducible exact H|(rw [hy231];exact H)|exact H
                        have Ny231:=Aside0.mk hy231
                        clear hy231
                        have H':=Aside0.mk H
                        clear H
                        try go_wp2
                        have n0_:=Aside0.mk (Kd.R_drew HO_10.out)
                        have n1_:=Aside0.mk (Kd.R_drew HO_12.out)
                        have n2_:=Aside0.mk (Kd.R_drew HO_14.out)
                        have n3_:=Aside0.mk (blk_drew BK193.out)
                        have n4_:=Aside0.mk (blk_drew BK194.out)
                        have n5_:=Aside0.mk (blk_drew BK195.out)
                        have n6_:=Aside0.mk (blk_drew BK196.out)
                        have n7_:=Aside0.mk (below_drew1 HB.out)
                        clear HO_10
                        clear HO_12
                        clear HO_14
                        clear BK193
                        clear BK194
                        clear BK195
                        clear BK196
                        clear HB
                        have HO_10:=n0_
                        have HO_12:=n1_
                        have HO_14:=n2_
                        have BK193:=n3_
                        have BK194:=n4_
                        have BK195:=n5_
                        have BK196:=n6_
                        have HB:=n7_
                        clear n0_ n1_ n2_ n3_ n4_ n5_ n6_ n7_
                        have p229 : 0 ≤ ((ji118) : Int):=of_decide_eq_true (by first|(with_reducible assumption)|assumption)
                        have q229 : (ji118) < (x10_1.length : Int):=of_decide_eq_true (by first|(with_reducible assumption)|assumption)
                        obtain ⟨ad229,e229,hx229_0⟩:=Kd.at_int (Kd.R_reads' HO_10.out).2.2 (ji118) p229 q229
                        cases e229
                        replace p229:=eq_true p229
                        replace q229:=eq_true q229
                        have p230 : 0 ≤ (x96_2 : Int):=of_decide_eq_true (by first|(with_reducible assumption)|assumption)
                        have q230 : x96_2 < (x10_1.length : Int):=of_decide_eq_true (by first|(with_reducible assumption)|assumption)
                        obtain ⟨ad230,e230,hx230_0⟩:=Kd.at_int (Kd.R_reads' HO_10.out).2.2 x96_2 p230 q230
                        obtain rfl : ad229 = ad230:=(by injection e230)
                        replace p230:=eq_true p230
                        replace q230:=eq_true q230
                        have p126 : 0 ≤ (x96_2 : Int):=of_decide_eq_true (by first|(with_reducible assumption)|assumption)
                        have q126 : (x96_2 : Int) < ((x14_2.length : Int) : Int):=of_decide_eq_true (by first|(with_reducible assumption)|assumption)
                        obtain ⟨go126,co126,eo126,gb126,gl126,cl126,HG126⟩:=Kd.R_form HO_14.out (by omega)
                        (first|cases eo126|(injection eo126 with ea_ en_ ec_;(first|subst ea_|(injection ea_ with ea_;subst ea_));subst ec_;clear en_))
                        have GB126:=Aside0.mk gb126
                        have GG126:=Aside0.mk HG126
                        clear gb126 gl126 HG126
                        obtain ⟨hx126_0,hf126_0⟩:=Kd.R_celln 0 HO_14.out (x96_2 : Int) p126 q126
                        replace p126:=eq_true p126
                        replace q126:=eq_true q126
                        have HP128:=Kd.R_putn HO_14.out (x96_2 : Int) ((ji124) % 4294967296)
                        rw [← Ny231.out] at HP128
                        have HQ128:=Aside0.mk HP128
                        clear HP128
                        refine start_ (n:=20) (S:=fun w' => w'.cell? (ad229.add ((ji118)).toNat) = some (.int .u32 (rd x10_1 (ji118))) ∧ w'.cell? (ad229.add (x96_2).toNat) = some (.int .u32 (rd x10_1 x96_2))) (ds:=[19]) #[false,false,false,false,false,false,false,false,false,false,false,false,false,false,false,false,false,false,false,false] (by kernel_rfl) rfl rfl ⟨hx229_0,hx230_0⟩ (fun hHeld => ?_);refine with_tabW nat_Nat_Div.tab19 nat_Nat_Div.bits19 (fun HT_ HW_ => ?_)
                        generalize wr.drew = w127 at HO_10 HO_12 HO_14 BK193 BK194 BK195 BK196 HB GG126 HQ128 hf126_0 hx126_0 hx229_0 hx230_0 hHeld ⊢
                        refine pure_ (i:=0) (N:=some 99) (v:=?_) (a':=?_) #[true,false,false,false,false,false,false,false,false,false,false,false,false,false,false,false,false,false,false,false] rfl rfl (any_of HT_.out (by kernel_rfl)) (fun _ _ _ h => h) (Or.inl ⟨by rfl,?_⟩) ?_ ?_
                        rotate_left
                        ·intro w'
                         go_simp
                         with_reducible rfl
                        rotate_left
                        ·simp only [Act.put,List.setIfInBounds_toArray,List.set_cons_zero,List.set_cons_succ,i64_w,i32_w]
                         rfl
                        refine pure_ (i:=1) (N:=some 100) (v:=?_) (a':=?_) #[true,true,false,false,false,false,false,false,false,false,false,false,false,false,false,false,false,false,false,false] rfl rfl (any_of HT_.out (by kernel_rfl)) (fun _ _ _ h => h) (Or.inl ⟨by rfl,?_⟩) ?_ ?_
                        rotate_left
                        ·intro w'
                         go_simp
                         with_reducible rfl
                        rotate_left
                        ·simp only [Act.put,List.setIfInBounds_toArray,List.set_cons_zero,List.set_cons_succ,i64_w,i32_w]
                         rfl
                        refine pure_ (i:=2) (N:=some 101) (v:=?_) (a':=?_) #[true,true,true,false,false,false,false,false,false,false,false,false,false,false,false,false,false,false,false,false] rfl rfl (any_of HT_.out (by kernel_rfl)) (fun _ _ _ h => h) (Or.inl ⟨by rfl,?_⟩) ?_ ?_
                        rotate_left
                        ·intro w'
                         go_simp
                         with_reducible rfl
                        rotate_left
                        ·simp only [Act.put,List.setIfInBounds_toArray,List.set_cons_zero,List.set_cons_succ,i64_w,i32_w]
                         rfl
                        refine pure_ (i:=3) (N:=some 102) (v:=?_) (a':=?_) #[true,true,true,true,false,false,false,false,false,false,false,false,false,false,false,false,false,false,false,false] rfl rfl (any_of HT_.out (by kernel_rfl)) (fun _ _ _ h => h) (Or.inl ⟨by rfl,?_⟩) ?_ ?_
                        rotate_left
                        ·intro w'
                         go_simp
                         with_reducible rfl
                        rotate_left
                        ·simp only [Act.put,List.setIfInBounds_toArray,List.set_cons_zero,List.set_cons_succ,i64_w,i32_w]
                         rfl
                        refine pure_ (i:=4) (N:=some 103) (v:=?_) (a':=?_) #[true,true,true,true,true,false,false,false,false,false,false,false,false,false,false,false,false,false,false,false] rfl rfl (any_of HT_.out (by kernel_rfl)) (fun _ _ _ h => h) (Or.inl ⟨by rfl,?_⟩) ?_ ?_
                        rotate_left
                        ·intro w'
                         go_simp
                         with_reducible rfl
                        rotate_left
                        ·simp only [Act.put,List.setIfInBounds_toArray,List.set_cons_zero,List.set_cons_succ,i64_w,i32_w]
                         rfl
                        refine pure_ (i:=5) (N:=some 104) (v:=?_) (a':=?_) #[true,true,true,true,true,true,false,false,false,false,false,false,false,false,false,false,false,false,false,false] rfl rfl (any_of HT_.out (by kernel_rfl)) (fun _ _ _ h => h) (Or.inl ⟨by rfl,?_⟩) ?_ ?_
                        rotate_left
                        ·intro w'
                         go_simp
                         with_reducible rfl
                        rotate_left
                        ·simp only [Act.put,List.setIfInBounds_toArray,List.set_cons_zero,List.set_cons_succ,i64_w,i32_w]
                         rfl
                        refine pure_ (i:=9) (N:=some 108) (v:=?_) (a':=?_) #[true,true,true,true,true,true,false,false,false,true,false,false,false,false,false,false,false,false,false,false] rfl rfl (any_of HT_.out (by kernel_rfl)) (fun _ _ _ h => h) (Or.inl ⟨by rfl,?_⟩) ?_ ?_
                        rotate_left
                        ·intro w'
                         go_simp
                         with_reducible rfl
                        rotate_left
                        ·simp only [Act.put,List.setIfInBounds_toArray,List.set_cons_zero,List.set_cons_succ,i64_w,i32_w]
                         rfl
                        refine pure_ (i:=10) (N:=some 109) (v:=?_) (a':=?_) #[true,true,true,true,true,true,false,false,false,true,true,false,false,false,false,false,false,false,false,false] rfl rfl (any_of HT_.out (by kernel_rfl)) (fun _ _ _ h => h) (Or.inl ⟨by rfl,?_⟩) ?_ ?_
                        rotate_left
                        ·intro w'
                         go_simp
                         with_reducible rfl
                        rotate_left
                        ·simp only [Act.put,List.setIfInBounds_toArray,List.set_cons_zero,List.set_cons_succ,i64_w,i32_w]
                         rfl
                        refine pure_ (i:=11) (N:=some 110) (v:=?_) (a':=?_) #[true,true,true,true,true,true,false,false,false,true,true,true,false,false,false,false,false,false,false,false] rfl rfl (any_of HT_.out (by kernel_rfl)) (fun _ _ _ h => h) (Or.inl ⟨by rfl,?_⟩) ?_ ?_
                        rotate_left
                        ·intro w'
                         go_simp
                         with_reducible rfl
                        rotate_left
                        ·simp only [Act.put,List.setIfInBounds_toArray,List.set_cons_zero,List.set_cons_succ,i64_w,i32_w]
                         rfl
                        refine pure_ (i:=15) (N:=some 114) (v:=?_) (a':=?_) #[true,true,true,true,true,true,false,false,false,true,true,true,false,false,false,true,false,false,false,false] rfl rfl (any_of HT_.out (by kernel_rfl)) (fun _ _ _ h => h) (Or.inl ⟨by rfl,?_⟩) ?_ ?_
                        rotate_left
                        ·intro w'
                         go_simp
                         with_reducible rfl
                        rotate_left
                        ·simp only [Act.put,List.setIfInBounds_toArray,List.set_cons_zero,List.set_cons_succ,i64_w,i32_w]
                         rfl
                        refine take_ (i:=6) (N:=some 105) (v:=?_) (a':=?_) #[true,true,true,true,true,true,true,false,false,true,true,true,false,false,false,true,false,false,false,false] rfl rfl (take_ofW HT_.out HW_.out (by kernel_rfl)) (fun _ _ _ h => h) (Or.inl ⟨by rfl,?_⟩) hHeld ?_ ?_
                        rotate_left
                        ·rintro w' ⟨s0,s1⟩
                         go_simp
                         with_reducible rfl
                        rotate_left
                        ·simp only [Act.put,List.setIfInBounds_toArray,List.set_cons_zero,List.set_cons_succ,i64_w,i32_w]
                         rfl
                        refine pure_ (i:=7) (N:=some 106) (v:=?_) (a':=?_) #[true,true,true,true,true,true,true,true,false,true,true,true,false,false,false,true,false,false,false,false] rfl rfl (any_of HT_.out (by kernel_rfl)) (fun _ _ _ h => h) (Or.inl ⟨by rfl,?_⟩) ?_ ?_
                        rotate_left
                        ·intro w'
                         go_simp
                         with_reducible rfl
                        rotate_left
                        ·simp only [Act.put,List.setIfInBounds_toArray,List.set_cons_zero,List.set_cons_succ,i64_w,i32_w]
                         rfl
                        refine pure_ (i:=8) (N:=some 107) (v:=?_) (a':=?_) #[true,true,true,true,true,true,true,true,true,true,true,true,false,false,false,true,false,false,false,false] rfl rfl (any_of HT_.out (by kernel_rfl)) (fun _ _ _ h => h) (Or.inl ⟨by rfl,?_⟩) ?_ ?_
                        rotate_left
                        ·intro w'
                         go_simp
                         with_reducible rfl
                        rotate_left
                        ·simp only [Act.put,List.setIfInBounds_toArray,List.set_cons_zero,List.set_cons_succ,i64_w,i32_w]
                         rfl
                        refine take_ (i:=12) (N:=some 111) (v:=?_) (a':=?_) #[true,true,true,true,true,true,true,true,true,true,true,true,true,false,false,true,false,false,false,false] rfl rfl (take_ofW HT_.out HW_.out (by kernel_rfl)) (fun _ _ _ h => h) (Or.inl ⟨by rfl,?_⟩) hHeld ?_ ?_
                        rotate_left
                        ·rintro w' ⟨s0,s1⟩
                         go_simp
                         with_reducible rfl
                        rotate_left
                        ·simp only [Act.put,List.setIfInBounds_toArray,List.set_cons_zero,List.set_cons_succ,i64_w,i32_w]
                         rfl
                        refine pure_ (i:=13) (N:=some 112) (v:=?_) (a':=?_) #[true,true,true,true,true,true,true,true,true,true,true,true,true,true,false,true,false,false,false,false] rfl rfl (any_of HT_.out (by kernel_rfl)) (fun _ _ _ h => h) (Or.inl ⟨by rfl,?_⟩) ?_ ?_
                        rotate_left
                        ·intro w'
                         go_simp
                         with_reducible rfl
                        rotate_left
                        ·simp only [Act.put,List.setIfInBounds_toArray,List.set_cons_zero,List.set_cons_succ,i64_w,i32_w]
                         rfl
                        refine pure_ (i:=14) (N:=some 113) (v:=?_) (a':=?_) #[true,true,true,true,true,true,true,true,true,true,true,true,true,true,true,true,false,false,false,false] rfl rfl (any_of HT_.out (by kernel_rfl)) (fun _ _ _ h => h) (Or.inl ⟨by rfl,?_⟩) ?_ ?_
                        rotate_left
                        ·intro w'
                         go_simp
                         with_reducible rfl
                        rotate_left
                        ·simp only [Act.put,List.setIfInBounds_toArray,List.set_cons_zero,List.set_cons_succ,i64_w,i32_w]
                         rfl
                        refine pure_ (i:=16) (N:=some 115) (v:=?_) (a':=?_) #[true,true,true,true,true,true,true,true,true,true,true,true,true,true,true,true,true,false,false,false] rfl rfl (any_of HT_.out (by kernel_rfl)) (fun _ _ _ h => h) (Or.inl ⟨by rfl,?_⟩) ?_ ?_
                        rotate_left
                        ·intro w'
                         go_simp
                         with_reducible rfl
                        rotate_left
                        ·simp only [Act.put,List.setIfInBounds_toArray,List.set_cons_zero,List.set_cons_succ,i64_w,i32_w]
                         rfl
                        refine pure_ (i:=17) (N:=some 116) (v:=?_) (a':=?_) #[true,true,true,true,true,true,true,true,true,true,true,true,true,true,true,true,true,true,false,false] rfl rfl (any_of HT_.out (by kernel_rfl)) (fun _ _ _ h => h) (Or.inl ⟨by rfl,?_⟩) ?_ ?_
                        rotate_left
                        ·intro w'
                         go_simp
                         with_reducible rfl
                        rotate_left
                        ·simp only [Act.put,List.setIfInBounds_toArray,List.set_cons_zero,List.set_cons_succ,i64_w,i32_w]
                         rfl
                        refine pure_ (i:=18) (N:=some 117) (v:=?_) (a':=?_) #[true,true,true,true,true,true,true,true,true,true,true,true,true,true,true,true,true,true,true,false] rfl rfl (any_of HT_.out (by kernel_rfl)) (fun _ _ _ h => h) (Or.inl ⟨by rfl,?_⟩) ?_ ?_
                        rotate_left
                        ·intro w'
                         go_simp
                         with_reducible rfl
                        rotate_left
                        ·simp only [Act.put,List.setIfInBounds_toArray,List.set_cons_zero,List.set_cons_succ,i64_w,i32_w]
                         rfl
                        refine last_ (i:=19) (N:=none) #[true,true,true,true,true,true,true,true,true,true,true,true,true,true,true,true,true,true,true,true] rfl rfl (one_of HT_.out (by kernel_rfl)) (by decide) (fun K hK => ?_)
                        refine skip_ (w1:=?_) (by rfl) rfl ?_ ?_
                        rotate_left
                        ·go_simp
                         rfl
                        refine hK.out _ _ ?_
                        clear hK K
                        refine done_ (done_of HT_.out (by kernel_rfl)) ?_
                        try go_wp2
                        (try simp only [← hl14_2])
                        go_roundg k2
                        case measure => have:=HK1.out;have:=HK2.out;omega
                        case rel => exact ⟨(y231),(ji118),(by first|rfl|(simp;done)|(simp only [← hji118] <;> (first|rfl|simp))|(simp [*];done)),H',⟨by have:=HK1.out;have:=HK2.out;omega⟩,⟨by (try simp only [hl10_1]);(try simp only [hl12_1]);(try simp only [hl14_2]);(with_reducible repeat (first|apply Kd.R_alloc|apply Kd.R_drewN|apply Kd.R_drew));exact Kd.R_mono (Kd.R_far (p:=⟨go126,(x96_2 : Int).toNat,none⟩) (Kd.R_mono HO_10.out (fun k_ hk => (⟨hk,fun e_ => hk.2.2 (by rw [e_];rfl)⟩ : _ ∧ k_ ≠ go126))) (fun _ hk => hk.2) (.int .u32 ((ji124) % 4294967296))) (fun _ hk => ⟨hk.1.1,⟨hk.1.2.1,hk.1.2.2⟩⟩)⟩,⟨by (try simp only [hl10_1]);(try simp only [hl12_1]);(try simp only [hl14_2]);(with_reducible repeat (first|apply Kd.R_alloc|apply Kd.R_drewN|apply Kd.R_drew));exact Kd.R_mono (Kd.R_far (p:=⟨go126,(x96_2 : Int).toNat,none⟩) (Kd.R_mono HO_12.out (fun k_ hk => (⟨hk,fun e_ => hk.2.2 (by rw [e_];rfl)⟩ : _ ∧ k_ ≠ go126))) (fun _ hk => hk.2) (.int .u32 ((ji124) % 4294967296))) (fun _ hk => ⟨hk.1.1,⟨hk.1.2.1,hk.1.2.2⟩⟩)⟩,⟨by (try simp only [hl10_1]);(try simp only [hl12_1]);(try simp only [hl14_2]);(with_reducible repeat (first|apply Kd.R_alloc|apply Kd.R_drewN|apply Kd.R_drew));exact HQ128.out⟩,⟨by (try simp only [hl10_1]);(try simp only [hl12_1]);(try simp only [hl14_2]);(with_reducible repeat (first|refine blk_drewN ?_ _|refine blk_drew ?_|refine blk_alloc ?_ _));refine blk_far ?_ (by have h_:=Kd.R_ne HO_14.out BK193.out (by decide);intro e_;exact h_ (by rw [e_];rfl)) _;(with_reducible repeat (first|refine blk_drewN ?_ _|refine blk_drew ?_|refine blk_alloc ?_ _));exact BK193.out⟩,⟨by (try simp only [hl10_1]);(try simp only [hl12_1]);(try simp only [hl14_2]);(with_reducible repeat (first|refine blk_drewN ?_ _|refine blk_drew ?_|refine blk_alloc ?_ _));refine blk_far ?_ (by have h_:=Kd.R_ne HO_14.out BK194.out (by decide);intro e_;exact h_ (by rw [e_];rfl)) _;(with_reducible repeat (first|refine blk_drewN ?_ _|refine blk_drew ?_|refine blk_alloc ?_ _));exact BK194.out⟩,⟨by (try simp only [hl10_1]);(try simp only [hl12_1]);(try simp only [hl14_2]);(with_reducible repeat (first|refine blk_drewN ?_ _|refine blk_drew ?_|refine blk_alloc ?_ _));refine blk_far ?_ (by have h_:=Kd.R_ne HO_14.out BK195.out (by decide);intro e_;exact h_ (by rw [e_];rfl)) _;(with_reducible repeat (first|refine blk_drewN ?_ _|refine blk_drew ?_|refine blk_alloc ?_ _));exact BK195.out⟩,⟨by (try simp only [hl10_1]);(try simp only [hl12_1]);(try simp only [hl14_2]);(with_reducible repeat (first|refine blk_drewN ?_ _|refine blk_drew ?_|refine blk_alloc ?_ _));refine blk_far ?_ (by have h_:=Kd.R_ne HO_14.out BK196.out (by decide);intro e_;exact h_ (by rw [e_];rfl)) _;(with_reducible repeat (first|refine blk_drewN ?_ _|refine blk_drew ?_|refine blk_alloc ?_ _));exact BK196.out⟩,⟨by repeat (first|(with_reducible first|exact HB.out|apply below_alloc|apply pw_below_drewN|apply below_drew1|refine below_set ?_ GB126.out|refine below_set ?_ GE193.out|refine below_set ?_ GE194.out|refine below_set ?_ GE195.out|refine below_set ?_ GE196.out)|exact HB.out)⟩⟩
                       ·rw [if_neg c125] at H
                        exact absurd H (by simp)
                      ·rw [if_neg c123] at H
                       exact absurd H (by simp)
                     ·rw [if_neg c122] at H
                      exact absurd H (by simp)
                    ·rw [if_neg c121] at H
                     exact absurd H (by simp)
                   ·rw [if_neg c120] at H
                    exact absurd H (by simp)
                  ·rw [if_neg c119] at H
                   exact absurd H (by simp)
                 ·rw [if_neg c117] at H
                  have c117b0 : decide (x96_2 < (y226.length : Int)) = false:=decide_eq_false c117
                  (try rw [hl14_2] at c117b0)
                  clear c117
                  replace H:=Option.bind_eq_some_iff.mp H
                  obtain ⟨t232,A1290,H⟩:=H
                  replace H : ((nat_trim.f k2 x14_2).bind fun t235 => (some (t232,t235,0))) = some (r1,r2,r3):=H
                  have A129:=Aside0.mk A1290
                  clear A1290
                  replace H:=Option.bind_eq_some_iff.mp H
                  obtain ⟨t235,A1300,H⟩:=H
                  replace H : (some (t232,t235,0)) = some (r1,r2,r3):=H
                  have A130:=Aside0.mk A1300
                  clear A1300
                  simp only [Option.some.injEq,Prod.mk.injEq] at H
                  obtain ⟨rfl,rfl,rfl⟩:=H
                  go_wp2_with (first|((with_reducible refine gate_callee (f:=100) rfl ?_);refine goesL_ (some 120) rfl rfl Try.func100 (by kernel_rfl) rfl #[.slice Ao103 x12_1.length co103] rfl (by (try simp only [List.map_toArray,List.map_cons,List.map_nil]);first|done|rfl|(simp only [List.length_drop,List.length_take];rfl)) ?_;(with_reducible refine (nat_trim.calls k2 (fun k_ => some k_ = (.slice Ao103 x12_1.length co103 : Value).ownBlock) _ _ x12_1 t232 _ ?side1 A129.out).mono ?_);(case side1 => exact Kd.R_V (Kd.R_tight rfl (Kd.R_types (Kd.R_types (Kd.R_types (Kd.R_types (HO_12.out) BK193.out (by decide)) BK194.out (by decide)) BK195.out (by decide)) BK196.out (by decide))));rintro e w131 ⟨v233,rfl,ho0,hb⟩;refine ⟨_,rfl,?_⟩;have n0_:=Aside0.mk (Kd.R_below (by (with_reducible repeat (first|apply Kd.R_alloc|apply Kd.R_drewN|apply Kd.R_drew));exact HO_10.out) hb);have n1_:=Aside0.mk (Kd.R_below (by (with_reducible repeat (first|apply Kd.R_alloc|apply Kd.R_drewN|apply Kd.R_drew));exact HO_12.out) hb);have n2_:=Aside0.mk (Kd.R_below (by (with_reducible repeat (first|apply Kd.R_alloc|apply Kd.R_drewN|apply Kd.R_drew));exact HO_14.out) hb);have n3_:=Aside0.mk (Kd.V_lower (Kd.V_mono (ok':=fun k_ => (w.heap.size ≤ k_) ∧ some k_ ≠ (.slice Ao100 x10_1.length co100 : Value).ownBlock ∧ some k_ ≠ (.slice Ao116 x14_2.length co116 : Value).ownBlock ∧ k_ ≠ gb193 ∧ k_ ≠ gb194 ∧ k_ ≠ gb195 ∧ k_ ≠ gb196) ho0 (fun k_ hk_ => ⟨Or.elim hk_ (fun hs_ => ((Kd.R_types (Kd.R_types (Kd.R_types (Kd.R_types (HO_12.out) BK193.out (by decide)) BK194.out (by decide)) BK195.out (by decide)) BK196.out (by decide)).1 k_ hs_.symm).1.1.1.1.1) (fun hn_ => (Nat.le_trans (below_size (by repeat (first|(with_reducible first|exact HB.out|apply below_alloc|apply pw_below_drewN|apply below_drew1|refine below_set ?_ GE193.out|refine below_set ?_ GE194.out|refine below_set ?_ GE195.out|refine below_set ?_ GE196.out)|exact HB.out))) hn_)),Or.elim hk_ (fun hs_ => ((Kd.R_types (Kd.R_types (Kd.R_types (Kd.R_types (HO_12.out) BK193.out (by decide)) BK194.out (by decide)) BK195.out (by decide)) BK196.out (by decide)).1 k_ hs_.symm).1.1.1.1.2.1) (fun hn_ => (Kd.fresh' (Kd.R_lt (by (with_reducible repeat (first|apply Kd.R_alloc|apply Kd.R_drewN|apply Kd.R_drew));exact HO_10.out)) k_ hn_)),Or.elim hk_ (fun hs_ => ((Kd.R_types (Kd.R_types (Kd.R_types (Kd.R_types (HO_12.out) BK193.out (by decide)) BK194.out (by decide)) BK195.out (by decide)) BK196.out (by decide)).1 k_ hs_.symm).1.1.1.1.2.2) (fun hn_ => (Kd.fresh' (Kd.R_lt (by (with_reducible repeat (first|apply Kd.R_alloc|apply Kd.R_drewN|apply Kd.R_drew));exact HO_14.out)) k_ hn_)),Or.elim hk_ (fun hs_ => ((Kd.R_types (Kd.R_types (Kd.R_types (Kd.R_types (HO_12.out) BK193.out (by decide)) BK194.out (by decide)) BK195.out (by decide)) BK196.out (by decide)).1 k_ hs_.symm).1.1.1.2) (fun hn_ => (Kd.freshB (g:=gb193) (o:=.cells #[.slice A0_0 l0_0.length c0_0] 38 (0,0)) (by (with_reducible repeat (first|refine blk_drewN ?_ _|refine blk_drew ?_|refine blk_alloc ?_ _));exact BK193.out) k_ hn_)),Or.elim hk_ (fun hs_ => ((Kd.R_types (Kd.R_types (Kd.R_types (Kd.R_types (HO_12.out) BK193.out (by decide)) BK194.out (by decide)) BK195.out (by decide)) BK196.out (by decide)).1 k_ hs_.symm).1.1.2) (fun hn_ => (Kd.freshB (g:=gb194) (o:=.cells #[.slice (some ad208) l1_0.length c1_0] 38 (0,0)) (by (with_reducible repeat (first|refine blk_drewN ?_ _|refine blk_drew ?_|refine blk_alloc ?_ _));exact BK194.out) k_ hn_)),Or.elim hk_ (fun hs_ => ((Kd.R_types (Kd.R_types (Kd.R_types (Kd.R_types (HO_12.out) BK193.out (by decide)) BK194.out (by decide)) BK195.out (by decide)) BK196.out (by decide)).1 k_ hs_.symm).1.2) (fun hn_ => (Kd.freshB (g:=gb195) (o:=.cells #[.slice none 0 0] 38 (0,0)) (by (with_reducible repeat (first|refine blk_drewN ?_ _|refine blk_drew ?_|refine blk_alloc ?_ _));exact BK195.out) k_ hn_)),Or.elim hk_ (fun hs_ => ((Kd.R_types (Kd.R_types (Kd.R_types (Kd.R_types (HO_12.out) BK193.out (by decide)) BK194.out (by decide)) BK195.out (by decide)) BK196.out (by decide)).1 k_ hs_.symm).2) (fun hn_ => (Kd.freshB (g:=gb196) (o:=.cells #[.slice none 0 0] 38 (0,0)) (by (with_reducible repeat (first|refine blk_drewN ?_ _|refine blk_drew ?_|refine blk_alloc ?_ _));exact BK196.out) k_ hn_))⟩)) (below_size (by repeat (first|(with_reducible first|exact HB.out|apply below_alloc|apply pw_below_drewN|apply below_drew1|refine below_set ?_ GE193.out|refine below_set ?_ GE194.out|refine below_set ?_ GE195.out|refine below_set ?_ GE196.out)|exact HB.out))));have n4_:=Aside0.mk (blk_below (g:=gb193) (o:=.cells #[.slice A0_0 l0_0.length c0_0] 38 (0,0)) (by (with_reducible repeat (first|refine blk_drewN ?_ _|refine blk_drew ?_|refine blk_alloc ?_ _));exact BK193.out) hb);have n5_:=Aside0.mk (blk_below (g:=gb194) (o:=.cells #[.slice (some ad208) l1_0.length c1_0] 38 (0,0)) (by (with_reducible repeat (first|refine blk_drewN ?_ _|refine blk_drew ?_|refine blk_alloc ?_ _));exact BK194.out) hb);have n6_:=Aside0.mk (blk_below (g:=gb195) (o:=.cells #[.slice none 0 0] 38 (0,0)) (by (with_reducible repeat (first|refine blk_drewN ?_ _|refine blk_drew ?_|refine blk_alloc ?_ _));exact BK195.out) hb);have n7_:=Aside0.mk (blk_below (g:=gb196) (o:=.cells #[.slice none 0 0] 38 (0,0)) (by (with_reducible repeat (first|refine blk_drewN ?_ _|refine blk_drew ?_|refine blk_alloc ?_ _));exact BK196.out) hb);have n8_:=Aside0.mk (below_step (by repeat (first|(with_reducible first|exact HB.out|apply below_alloc|apply pw_below_drewN|apply below_drew1|refine below_set ?_ GE193.out|refine below_set ?_ GE194.out|refine below_set ?_ GE195.out|refine below_set ?_ GE196.out)|exact HB.out)) hb);clear HO_10;clear HO_12;clear HO_14;clear BK193;clear BK194;clear BK195;clear BK196;clear HB;have HO_10:=n0_;have HO_12:=n1_;have HO_14:=n2_;have HO234:=n3_;have BK193:=n4_;have BK194:=n5_;have BK195:=n6_;have BK196:=n7_;have HB:=n8_;clear n0_ n1_ n2_ n3_ n4_ n5_ n6_ n7_ n8_;(try clear hb);(try clear hb2);(try clear hk);(try clear hi);(try clear ho0))|((with_reducible refine gate_callee (f:=100) rfl ?_);refine goesL_ (some 122) rfl rfl Try.func100 (by kernel_rfl) rfl #[.slice Ao116 x14_2.length co116] rfl (by (try simp only [List.map_toArray,List.map_cons,List.map_nil]);first|done|rfl|(simp only [List.length_drop,List.length_take];rfl)) ?_;(with_reducible refine (nat_trim.calls k2 (fun k_ => some k_ = (.slice Ao116 x14_2.length co116 : Value).ownBlock) _ _ x14_2 t235 _ ?side1 A130.out).mono ?_);(case side1 => exact Kd.R_V (Kd.R_tight rfl (Kd.R_types (Kd.R_types (Kd.R_types (Kd.R_types (HO_14.out) BK193.out (by decide)) BK194.out (by decide)) BK195.out (by decide)) BK196.out (by decide))));rintro e w132 ⟨v236,rfl,ho0,hb⟩;refine ⟨_,rfl,?_⟩;have n0_:=Aside0.mk (Kd.R_below (by (with_reducible repeat (first|apply Kd.R_alloc|apply Kd.R_drewN|apply Kd.R_drew));exact HO_10.out) hb);have n1_:=Aside0.mk (Kd.R_below (by (with_reducible repeat (first|apply Kd.R_alloc|apply Kd.R_drewN|apply Kd.R_drew));exact HO_12.out) hb);have n2_:=Aside0.mk (Kd.R_below (by (with_reducible repeat (first|apply Kd.R_alloc|apply Kd.R_drewN|apply Kd.R_drew));exact HO_14.out) hb);have n3_:=Aside0.mk (Kd.V_below (by (with_reducible repeat (first|apply Kd.V_alloc|apply Kd.V_drewN|apply Kd.V_drew));exact HO234.out) hb);have n4_:=Aside0.mk (Kd.V_lower (Kd.V_mono (ok':=fun k_ => (w.heap.size ≤ k_) ∧ some k_ ≠ (.slice Ao100 x10_1.length co100 : Value).ownBlock ∧ some k_ ≠ (.slice Ao103 x12_1.length co103 : Value).ownBlock ∧ k_ ≠ gb193 ∧ k_ ≠ gb194 ∧ k_ ≠ gb195 ∧ k_ ≠ gb196) ho0 (fun k_ hk_ => ⟨Or.elim hk_ (fun hs_ => ((Kd.R_types (Kd.R_types (Kd.R_types (Kd.R_types (HO_14.out) BK193.out (by decide)) BK194.out (by decide)) BK195.out (by decide)) BK196.out (by decide)).1 k_ hs_.symm).1.1.1.1.1) (fun hn_ => (Nat.le_trans (below_size (by repeat (first|(with_reducible first|exact HB.out|apply below_alloc|apply pw_below_drewN|apply below_drew1|refine below_set ?_ GE193.out|refine below_set ?_ GE194.out|refine below_set ?_ GE195.out|refine below_set ?_ GE196.out)|exact HB.out))) hn_)),Or.elim hk_ (fun hs_ => ((Kd.R_types (Kd.R_types (Kd.R_types (Kd.R_types (HO_14.out) BK193.out (by decide)) BK194.out (by decide)) BK195.out (by decide)) BK196.out (by decide)).1 k_ hs_.symm).1.1.1.1.2.1) (fun hn_ => (Kd.fresh' (Kd.R_lt (by (with_reducible repeat (first|apply Kd.R_alloc|apply Kd.R_drewN|apply Kd.R_drew));exact HO_10.out)) k_ hn_)),Or.elim hk_ (fun hs_ => ((Kd.R_types (Kd.R_types (Kd.R_types (Kd.R_types (HO_14.out) BK193.out (by decide)) BK194.out (by decide)) BK195.out (by decide)) BK196.out (by decide)).1 k_ hs_.symm).1.1.1.1.2.2) (fun hn_ => (Kd.fresh' (Kd.R_lt (by (with_reducible repeat (first|apply Kd.R_alloc|apply Kd.R_drewN|apply Kd.R_drew));exact HO_12.out)) k_ hn_)),Or.elim hk_ (fun hs_ => ((Kd.R_types (Kd.R_types (Kd.R_types (Kd.R_types (HO_14.out) BK193.out (by decide)) BK194.out (by decide)) BK195.out (by decide)) BK196.out (by decide)).1 k_ hs_.symm).1.1.1.2) (fun hn_ => (Kd.freshB (g:=gb193) (o:=.cells #[.slice A0_0 l0_0.length c0_0] 38 (0,0)) (by (with_reducible repeat (first|refine blk_drewN ?_ _|refine blk_drew ?_|refine blk_alloc ?_ _));exact BK193.out) k_ hn_)),Or.elim hk_ (fun hs_ => ((Kd.R_types (Kd.R_types (Kd.R_types (Kd.R_types (HO_14.out) BK193.out (by decide)) BK194.out (by decide)) BK195.out (by decide)) BK196.out (by decide)).1 k_ hs_.symm).1.1.2) (fun hn_ => (Kd.freshB (g:=gb194) (o:=.cells #[.slice (some ad208) l1_0.length c1_0] 38 (0,0)) (by (with_reducible repeat (first|refine blk_drewN ?_ _|refine blk_drew ?_|refine blk_alloc ?_ _));exact BK194.out) k_ hn_)),Or.elim hk_ (fun hs_ => ((Kd.R_types (Kd.R_types (Kd.R_types (Kd.R_types (HO_14.out) BK193.out (by decide)) BK194.out (by decide)) BK195.out (by decide)) BK196.out (by decide)).1 k_ hs_.symm).1.2) (fun hn_ => (Kd.freshB (g:=gb195) (o:=.cells #[.slice none 0 0] 38 (0,0)) (by (with_reducible repeat (first|refine blk_drewN ?_ _|refine blk_drew ?_|refine blk_alloc ?_ _));exact BK195.out) k_ hn_)),Or.elim hk_ (fun hs_ => ((Kd.R_types (Kd.R_types (Kd.R_types (Kd.R_types (HO_14.out) BK193.out (by decide)) BK194.out (by decide)) BK195.out (by decide)) BK196.out (by decide)).1 k_ hs_.symm).2) (fun hn_ => (Kd.freshB (g:=gb196) (o:=.cells #[.slice none 0 0] 38 (0,0)) (by (with_reducible repeat (first|refine blk_drewN ?_ _|refine blk_drew ?_|refine blk_alloc ?_ _));exact BK196.out) k_ hn_))⟩)) (below_size (by repeat (first|(with_reducible first|exact HB.out|apply below_alloc|apply pw_below_drewN|apply below_drew1|refine below_set ?_ GE193.out|refine below_set ?_ GE194.out|refine below_set ?_ GE195.out|refine below_set ?_ GE196.out)|exact HB.out))));have n5_:=Aside0.mk (blk_below (g:=gb193) (o:=.cells #[.slice A0_0 l0_0.length c0_0] 38 (0,0)) (by (with_reducible repeat (first|refine blk_drewN ?_ _|refine blk_drew ?_|refine blk_alloc ?_ _));exact BK193.out) hb);have n6_:=Aside0.mk (blk_below (g:=gb194) (o:=.cells #[.slice (some ad208) l1_0.length c1_0] 38 (0,0)) (by (with_reducible repeat (first|refine blk_drewN ?_ _|refine blk_drew ?_|refine blk_alloc ?_ _));exact BK194.out) hb);have n7_:=Aside0.mk (blk_below (g:=gb195) (o:=.cells #[.slice none 0 0] 38 (0,0)) (by (with_reducible repeat (first|refine blk_drewN ?_ _|refine blk_drew ?_|refine blk_alloc ?_ _));exact BK195.out) hb);have n8_:=Aside0.mk (blk_below (g:=gb196) (o:=.cells #[.slice none 0 0] 38 (0,0)) (by (with_reducible repeat (first|refine blk_drewN ?_ _|refine blk_drew ?_|refine blk_alloc ?_ _));exact BK196.out) hb);have n9_:=Aside0.mk (below_step (by repeat (first|(with_reducible first|exact HB.out|apply below_alloc|apply pw_below_drewN|apply below_drew1|refine below_set ?_ GE193.out|refine below_set ?_ GE194.out|refine below_set ?_ GE195.out|refine below_set ?_ GE196.out)|exact HB.out)) hb);clear HO_10;clear HO_12;clear HO_14;clear HO234;clear BK193;clear BK194;clear BK195;clear BK196;clear HB;have HO_10:=n0_;have HO_12:=n1_;have HO_14:=n2_;have HO234:=n3_;have HO237:=n4_;have BK193:=n5_;have BK194:=n6_;have BK195:=n7_;have BK196:=n8_;have HB:=n9_;clear n0_ n1_ n2_ n3_ n4_ n5_ n6_ n7_ n8_ n9_;(try clear hb);(try clear hb2);(try clear hk);(try clear hi);(try clear ho0);obtain ⟨Ao133,co133,eo133⟩:=Kd.V_slice HO234.out;subst eo133;have hnb134:=NB195_193.out;have hnc134:=NB193_195.out;have hnb135:=NB195_194.out;have hnc135:=NB194_195.out;have hnb136:=NB195_196.out;have hnc136:=NB196_195.out;have hcz137_0 : w132.cell? ⟨gb195,0,none⟩ = some (.slice none 0 0):=(blk_cell BK195.out 0).trans rfl;have hfz137_0:=blk_frozen BK195.out 0;obtain ⟨Ao138,co138,eo138⟩:=Kd.V_slice HO237.out;subst eo138;have hnb139:=NB196_193.out;have hnc139:=NB193_196.out;have hnb140:=NB196_194.out;have hnc140:=NB194_196.out;have hcz141_0 : w132.cell? ⟨gb196,0,none⟩ = some (.slice none 0 0):=(blk_cell BK196.out 0).trans rfl;have hfz141_0:=blk_frozen BK196.out 0))
                  refine bodyPost_ret (results_list (rs:=[.cell 4 38,.cell 5 38,.tmp 6]) rfl (by simp) (.cell gb195 38 #[.slice Ao133 t232.length co133] (0,0) _ rfl (by (with_reducible repeat (first|refine blk_drewN ?_ _|refine blk_drew ?_|refine blk_alloc ?_ _));refine blk_far ?_ NB195_196.out _;(with_reducible repeat (first|refine blk_drewN ?_ _|refine blk_drew ?_|refine blk_alloc ?_ _));refine blk_put (cs:=#[.slice none 0 0]) ?_ 0 _ rfl;(with_reducible repeat (first|refine blk_drewN ?_ _|refine blk_drew ?_|refine blk_alloc ?_ _));exact BK195.out) Try.underlying38 rfl (by kernel_rfl) (.cell gb196 38 #[.slice Ao138 t235.length co138] (0,0) _ rfl (by (with_reducible repeat (first|refine blk_drewN ?_ _|refine blk_drew ?_|refine blk_alloc ?_ _));refine blk_put (cs:=#[.slice none 0 0]) ?_ 0 _ rfl;(with_reducible repeat (first|refine blk_drewN ?_ _|refine blk_drew ?_|refine blk_alloc ?_ _));refine blk_far ?_ NB196_195.out _;(with_reducible repeat (first|refine blk_drewN ?_ _|refine blk_drew ?_|refine blk_alloc ?_ _));exact BK196.out) Try.underlying38 rfl (by kernel_rfl) (.tmp .nil)))) rfl ?_
                  exact ⟨_,_,by first|rfl|(simp [errW_none,errW_some] <;> rfl)|(simp only [← hji69,← hji77];first|rfl|(simp [errW_none,errW_some] <;> rfl))|(simp [*,errW_none,errW_some] <;> rfl),by (with_reducible repeat (first|apply Kd.V_alloc|apply Kd.V_drewN|apply Kd.V_drew));exact Kd.V_mono (Kd.V_far (p:=⟨gb196,0,none⟩) (Kd.V_far (p:=⟨gb195,0,none⟩) (Kd.V_mono (Kd.V_mono HO234.out (fun k_ hk => (⟨hk,hk.2.2.2.2.2.1⟩ : _ ∧ k_ ≠ gb195))) (fun k_ hk => (⟨hk,hk.1.2.2.2.2.2.2⟩ : _ ∧ k_ ≠ gb196))) (fun _ hk => hk.1.2) (.slice Ao133 t232.length co133)) (fun _ hk => hk.2) (.slice Ao138 t235.length co138)) (fun _ hk => hk.1.1.1),by (with_reducible repeat (first|apply Kd.V_alloc|apply Kd.V_drewN|apply Kd.V_drew));exact Kd.V_mono (Kd.V_far (p:=⟨gb196,0,none⟩) (Kd.V_far (p:=⟨gb195,0,none⟩) (Kd.V_mono (Kd.V_mono HO237.out (fun k_ hk => (⟨hk,hk.2.2.2.2.2.1⟩ : _ ∧ k_ ≠ gb195))) (fun k_ hk => (⟨hk,hk.1.2.2.2.2.2.2⟩ : _ ∧ k_ ≠ gb196))) (fun _ hk => hk.1.2) (.slice Ao133 t232.length co133)) (fun _ hk => hk.2) (.slice Ao138 t235.length co138)) (fun _ hk => hk.1.1.1),by repeat (first|(with_reducible first|exact HB.out|apply below_alloc|apply pw_below_drewN|apply below_drew1|refine below_set ?_ GE193.out|refine below_set ?_ GE194.out|refine below_set ?_ GE195.out|refine below_set ?_ GE196.out)|exact HB.out)⟩
              ·rw [if_neg c113] at H
               exact absurd H (by simp)
             ·rw [if_neg c112] at H
              exact absurd H (by simp)
         ·rw [if_neg c79] at H
          exact absurd H (by simp)
        ·rw [if_neg c78] at H
         exact absurd H (by simp)
       ·rw [if_neg c76] at H
        exact absurd H (by simp)
      ·rw [if_neg c75] at H
       exact absurd H (by simp)
     ·rw [if_neg c71] at H
      exact absurd H (by simp)
    ·rw [if_neg c70] at H
     exact absurd H (by simp)
end Go.Proofs.Yteejcpbngnojkaa.P
end
