/- Part of the proof: the walks and the plain arithmetic, in line (wip/tools/pack.py). -/
import Derived.Test.YteejcpbngnojkaaXLawNatGcds3
section
namespace Go.Proofs.Yteejcpbngnojkaa.P
open Go.RowKit Go.Proofs.YteejcpbngnojkaaW.PrintWords Go.Proofs.YteejcpbngnojkaaW.PrintLast Go.Proofs.YteejcpbngnojkaaW.PrintMore
attribute [local go_sem] max2_int min2_int max_two min_two max_three min_three max_four min_four
set_option linter.unusedVariables false
set_option linter.unusedSimpArgs false
def sacristyref01_Div.l0 : Nat → List Bool → List Bool → List Bool → List Bool → Int → Option (List Bool × List Bool)
 |0,_,_,_,_,_ => none
 |k + 1,x0,x1,x6,x7,x8 => if x8 ≥ 0 then (if 0 ≤ x8 then (if x8 < (x0.length : Int) then ((some (([rdOf false x0 x8] : List Bool) : List Bool)).bind fun y756 => (if y756.length + x7.length < 140737488355328 then ((sacristyref01_Trim.f k (y756 ++ x7)).bind fun t762 => ((sacristyref01_Cmp.f k t762 x1).bind fun t765 => (if t765 ≥ 0 then ((sacristyref01_Sub.f k t762 x1).bind fun t766 => (if x8 < (x6.length : Int) then (sacristyref01_Div.l0 k x0 x1 (x6.set (x8 : Int).toNat true) t766 (wrap64 (x8 - 1))) else (none))) else (sacristyref01_Div.l0 k x0 x1 x6 t762 (wrap64 (x8 - 1)))))) else (none))) else (none)) else (none)) else ((sacristyref01_Trim.f k x6).bind fun t752 => (some (t752,x7)))
def sacristyref01_Div.f (k : Nat) (l0 : List Bool) (l1 : List Bool) : Option (List Bool × List Bool):=if 0 ≤ (l0.length : Int) then (if ((l0.length : Int) : Int).toNat ≤ 281474976710656 then (sacristyref01_Div.l0 k l0 l1 (List.replicate ((l0.length : Int) : Int).toNat false) (([] : List Bool)) (wrap64 ((l0.length : Int) - 1))) else (none)) else (none)
theorem sacristyref01_Div.mono_l : ∀ k,(∀ y0 y1 y2 y3 y4,LeO (sacristyref01_Div.l0 k y0 y1 y2 y3 y4) (sacristyref01_Div.l0 (k + 1) y0 y1 y2 y3 y4))
 |0 => fun _ _ _ _ _ r h => by simp [sacristyref01_Div.l0] at h
 |k + 1 => by
  have ih0:=sacristyref01_Div.mono_l k
  ·intro y0 y1 y2 y3 y4
   unfold sacristyref01_Div.l0
   repeat' first
   |(with_reducible exact ih0 _ _ _ _ _)
   |(with_reducible exact sacristyref01_Cmp.mono _ _ _)
   |(with_reducible exact sacristyref01_Sub.mono _ _ _)
   |(with_reducible exact sacristyref01_Trim.mono _ _)
   |(with_reducible exact LeO.refl _)
   |(with_reducible exact LeO.none _)
   |(with_reducible refine LeO.ite ?_ ?_)
   |(with_reducible refine LeO.bind ?_ (fun _ => ?_))
   |exact ih0 _ _ _ _ _
   |exact sacristyref01_Cmp.mono _ _ _
   |exact sacristyref01_Sub.mono _ _ _
   |exact sacristyref01_Trim.mono _ _
   |exact LeO.none _
   |refine LeO.ite ?_ ?_
   |refine LeO.bind ?_ (fun _ => ?_)
theorem sacristyref01_Div.mono : ∀ a0 a1 k,LeO (sacristyref01_Div.f k a0 a1) (sacristyref01_Div.f (k + 1) a0 a1):=by
 intro a0 a1 k
 have ih0:=sacristyref01_Div.mono_l k
 unfold sacristyref01_Div.f
 repeat' first
   |(with_reducible exact ih0 _ _ _ _ _)
   |(with_reducible exact sacristyref01_Cmp.mono _ _ _)
   |(with_reducible exact sacristyref01_Sub.mono _ _ _)
   |(with_reducible exact sacristyref01_Trim.mono _ _)
   |(with_reducible exact LeO.refl _)
   |(with_reducible exact LeO.none _)
   |(with_reducible refine LeO.ite ?_ ?_)
   |(with_reducible refine LeO.bind ?_ (fun _ => ?_))
   |exact ih0 _ _ _ _ _
   |exact sacristyref01_Cmp.mono _ _ _
   |exact sacristyref01_Sub.mono _ _ _
   |exact sacristyref01_Trim.mono _ _
   |exact LeO.none _
   |refine LeO.ite ?_ ?_
   |refine LeO.bind ?_ (fun _ => ?_)
set_option maxHeartbeats 8000000 in
set_option maxRecDepth 100000 in
theorem sacristyref01_Div.calls (k : Nat) (A0 : Option Addr) (c0 : Nat) (l0 : List Bool) (A1 : Option Addr) (c1 : Nat) (l1 : List Bool) (r1 : List Bool) (r2 : List Bool) (w : World) (hr0 : Kd.C Kd.bool w A0 l0.length l0) (hc0 : l0.length ≤ c0) (hr1 : Kd.C Kd.bool w A1 l1.length l1) (hc1 : l1.length ≤ c1) (h : sacristyref01_Div.f k l0 l1 = some (r1,r2)) :
  Calls Try.prog 59 #[.slice A0 l0.length c0,.slice A1 l1.length c1] w fun e w' => ∃ v0_ v1_ : Value,e = .returned (.tuple #[v0_,v1_]) ∧ Kd.V Kd.bool 4 w' w.heap.size (fun k_ => (w.heap.size ≤ k_)) v0_ r1 ∧ Kd.V Kd.bool 4 w' w.heap.size (fun k_ => (w.heap.size ≤ k_)) v1_ r2 ∧ Below w.heap.size w w':=by
 have HR0:=Aside0.mk hr0
 have HC0:=Aside0.mk hc0
 clear hr0 hc0
 have HR1:=Aside0.mk hr1
 have HC1:=Aside0.mk hc1
 clear hr1 hc1
 have HB:=Aside0.mk (Below.refl w.heap.size w)
 have H : (if 0 ≤ (l0.length : Int) then (if ((l0.length : Int) : Int).toNat ≤ 281474976710656 then (sacristyref01_Div.l0 k l0 l1 (List.replicate ((l0.length : Int) : Int).toNat false) (([] : List Bool)) (wrap64 ((l0.length : Int) - 1))) else (none)) else (none)) = some (r1,r2):=h
 clear h
 by_cases c3 : 0 ≤ (l0.length : Int)
 ·rw [if_pos c3] at H
  have c3b0:=eq_true c3
  have c3b1 : decide (0 ≤ (l0.length : Int)) = true:=decide_eq_true c3
  clear c3
  by_cases c4 : ((l0.length : Int) : Int).toNat ≤ 281474976710656
  ·rw [if_pos c4] at H
   have c4b0:=eq_true c4
   have c4b1 : decide (((l0.length : Int) : Int).toNat ≤ 281474976710656) = true:=decide_eq_true c4
   clear c4
   obtain ⟨y746,hy746⟩ : ∃ y_ : List Bool,y_ = (List.replicate ((l0.length : Int) : Int).toNat false):=⟨_,rfl⟩
   replace H : (sacristyref01_Div.l0 k l0 l1 y746 (([] : List Bool)) (wrap64 ((l0.length : Int) - 1))) = some (r1,r2):=by first|(rw [hy746];with_reducible exact H)|(have H2_:=(Option.bind_some _ _).symm.trans H;rw [hy746];with_reducible exact H2_)|(have H2_:=(Option.bind_some _ _).symm.trans H;with_reducible exact H2_)|with_reducible exact H|(rw [hy746];exact H)|exact H
   have Ny746:=Aside0.mk hy746
   clear hy746
   obtain ⟨y749,hy749⟩ : ∃ y_ : List Bool,y_ = (([] : List Bool)):=⟨_,rfl⟩
   replace H : (sacristyref01_Div.l0 k l0 l1 y746 y749 (wrap64 ((l0.length : Int) - 1))) = some (r1,r2):=by first|(rw [hy749];with_reducible exact H)|(have H2_:=(Option.bind_some _ _).symm.trans H;rw [hy749];with_reducible exact H2_)|(have H2_:=(Option.bind_some _ _).symm.trans H;with_reducible exact H2_)|with_reducible exact H|(rw [hy749];exact H)|exact H
   have Ny749:=Aside0.mk hy749
   clear hy749
   have H':=Aside0.mk H
   clear H
   go_enter Try.func59,Try.ntmps59
   go_wp2_with (first|((with_reducible refine gate_dst (N:=11) rfl ?_);refine Kd.R_make Kd.bool _ 4 rfl (N:=11) rfl 42 _ _ rfl (l0.length : Int) rfl rfl Try.underlying42 (.bool false) 1 info4 rfl (by decide) (by omega) false (ok:=fun _ => True) (okp:=fun _ => True) rfl (fun _ hk => hk) trivial (of_decide_eq_true (by first|(with_reducible assumption)|assumption)) (Nat.le_trans (Nat.mul_le_mul_right _ (of_decide_eq_true (by first|(with_reducible assumption)|assumption) : (l0.length : Int).toNat ≤ 281474976710656)) (by omega)) (Below.refl _ _) (Nat.le_refl _) ?_;intro v747 w5 ho6 hb hg_ hnew_;clear hg_ hnew_;(first|rw [← Ny746.out] at ho6|(simp only [Int.reduceToNat] at ho6;rw [← Ny746.out] at ho6));have n0_:=Aside0.mk (Kd.R_lower (Kd.R_newM (M:=fun k_ => (w.heap.size ≤ k_)) ho6 (below_size (by repeat (first|(with_reducible first|exact HB.out|apply below_alloc|apply pw_below_drewN|apply below_drew1)|exact HB.out))) (fun k_ h_ => h_)) (below_size (by repeat (first|(with_reducible first|exact HB.out|apply below_alloc|apply pw_below_drewN|apply below_drew1)|exact HB.out))));have n1_:=Aside0.mk (below_step (by repeat (first|(with_reducible first|exact HB.out|apply below_alloc|apply pw_below_drewN|apply below_drew1)|exact HB.out)) hb);clear HB;have HO748:=n0_;have HB:=n1_;clear n0_ n1_;clear hb ho6)|((with_reducible refine gate_dst (N:=12) rfl ?_);refine Kd.R_lit Kd.bool _ 4 ?hg (N:=12) ?hd (xs:=([] : List Bool)) (inner:=[]) (ok:=fun _ => True) (okp:=fun _ => True) ?hr ?hp (fun _ hk => hk) trivial (Below.refl _ _) (Nat.le_refl _) (by simp) ?_;(case hd => rfl);(case hg => rfl);(case hr => first|(go_simp;done)|(go_simp;rfl));(case hp => exact (Reps.none _ _));intro v750 w7 ho8 hb hg_ hnew_;clear hg_ hnew_;(first|rw [← Ny749.out] at ho8|(simp only [Int.reduceToNat] at ho8;rw [← Ny749.out] at ho8));have n0_:=Aside0.mk (Kd.R_elder' (by (with_reducible repeat (first|apply Kd.R_alloc|apply Kd.R_drewN|apply Kd.R_drew));exact HO748.out) (Kd.R_base ho8) hb);have n1_:=Aside0.mk (Kd.R_lower (Kd.R_new' (Kd.R_newM (M:=fun k_ => (w.heap.size ≤ k_)) ho8 (below_size (by repeat (first|(with_reducible first|exact HB.out|apply below_alloc|apply pw_below_drewN|apply below_drew1)|exact HB.out))) (fun k_ h_ => h_)) (Kd.R_lt (by (with_reducible repeat (first|apply Kd.R_alloc|apply Kd.R_drewN|apply Kd.R_drew));exact HO748.out))) (below_size (by repeat (first|(with_reducible first|exact HB.out|apply below_alloc|apply pw_below_drewN|apply below_drew1)|exact HB.out))));have n2_:=Aside0.mk (below_step (by repeat (first|(with_reducible first|exact HB.out|apply below_alloc|apply pw_below_drewN|apply below_drew1)|exact HB.out)) hb);clear HO748;clear HB;have HO748:=n0_;have HO751:=n1_;have HB:=n2_;clear n0_ n1_ n2_;clear hb ho8))
   go_loopg [7,8] k (fun kq v7 v8 w' => ∃ (x6_1 : List Bool) (x7_1 : List Bool) (x8_1 : Int),v8 = .int .i64 x8_1 ∧ Aside0 (sacristyref01_Div.l0 kq l0 l1 x6_1 x7_1 x8_1 = some (r1,r2)) ∧ Aside0 (kq ≤ k) ∧ Aside0 (Kd.R Kd.bool 4 w' w.heap.size (fun k_ => (w.heap.size ≤ k_)) v747 x6_1) ∧ Aside0 (Kd.V Kd.bool 4 w' w.heap.size (fun k_ => (w.heap.size ≤ k_) ∧ some k_ ≠ (v747 : Value).ownBlock) v7 x7_1) ∧ Aside0 (Below w.heap.size w w'))
   case atStart => exact ⟨(y746),(y749),(wrap64 ((l0.length : Int) - 1)),(by first|rfl|(simp;done)|(simp [*];done)),H',⟨Nat.le_refl _⟩,⟨by (with_reducible repeat (first|apply Kd.R_alloc|apply Kd.R_drewN|apply Kd.R_drew));exact Kd.R_mono HO748.out (fun _ hk => hk.1.1)⟩,⟨Kd.R_V (by (with_reducible repeat (first|apply Kd.R_alloc|apply Kd.R_drewN|apply Kd.R_drew));exact Kd.R_mono HO751.out (fun _ hk => ⟨hk.1.1,hk.2⟩))⟩,⟨by repeat (first|(with_reducible first|exact HB.out|apply below_alloc|apply pw_below_drewN|apply below_drew1)|exact HB.out)⟩⟩
   case round =>
    clear H'
    try clear c1
    try clear p2
    try clear c3
    try clear c3b0
    try clear c3b1
    try clear c4
    try clear c4b0
    try clear c4b1
    try clear c5
    try clear p6
    obtain ⟨x6_1,x7_1,x8_1,rfl,HA,HK1,HO_6,HO_7,HB⟩:=hrel
    cases gk with
    |zero => exact absurd HA.out (by simp [sacristyref01_Div.l0])
    |succ k1 =>
     have H:=HA.out
     clear HA
     simp only [sacristyref01_Div.l0] at H
     by_cases c9 : x8_1 ≥ 0
     ·rw [if_pos c9] at H
      have c9b0 : decide (0 ≤ x8_1) = true:=decide_eq_true c9
      clear c9
      by_cases c10 : 0 ≤ x8_1
      ·rw [if_pos c10] at H
       have c10b0 : decide (0 ≤ x8_1) = true:=decide_eq_true c10
       clear c10
       by_cases c11 : x8_1 < (l0.length : Int)
       ·rw [if_pos c11] at H
        have c11b0 : decide (x8_1 < (l0.length : Int)) = true:=decide_eq_true c11
        clear c11
        obtain ⟨y756,hy756⟩ : ∃ y_ : List Bool,y_ = (([rdOf false l0 x8_1] : List Bool)):=⟨_,rfl⟩
        replace H : (if y756.length + x7_1.length < 140737488355328 then ((sacristyref01_Trim.f k1 (y756 ++ x7_1)).bind fun t762 => ((sacristyref01_Cmp.f k1 t762 l1).bind fun t765 => (if t765 ≥ 0 then ((sacristyref01_Sub.f k1 t762 l1).bind fun t766 => (if x8_1 < (x6_1.length : Int) then (sacristyref01_Div.l0 k1 l0 l1 (x6_1.set (x8_1 : Int).toNat true) t766 (wrap64 (x8_1 - 1))) else (none))) else (sacristyref01_Div.l0 k1 l0 l1 x6_1 t762 (wrap64 (x8_1 - 1)))))) else (none)) = some (r1,r2):=by first|(rw [hy756];with_reducible exact H)|(have H2_:=(Option.bind_some _ _).symm.trans H;rw [hy756];with_reducible exact H2_)|(have H2_:=(Option.bind_some _ _).symm.trans H;with_reducible exact H2_)|with_reducible exact H|(rw [hy756];exact H)|exact H
        have Ny756:=Aside0.mk hy756
        clear hy756
        by_cases c12 : y756.length + x7_1.length < 140737488355328
        ·rw [if_pos c12] at H
         have LMc12:=Aside0.mk c12
         clear c12
         obtain ⟨y759,hy759⟩ : ∃ y_ : List Bool,y_ = (y756 ++ x7_1):=⟨_,rfl⟩
         replace H : ((sacristyref01_Trim.f k1 y759).bind fun t762 => ((sacristyref01_Cmp.f k1 t762 l1).bind fun t765 => (if t765 ≥ 0 then ((sacristyref01_Sub.f k1 t762 l1).bind fun t766 => (if x8_1 < (x6_1.length : Int) then (sacristyref01_Div.l0 k1 l0 l1 (x6_1.set (x8_1 : Int).toNat true) t766 (wrap64 (x8_1 - 1))) else (none))) else (sacristyref01_Div.l0 k1 l0 l1 x6_1 t762 (wrap64 (x8_1 - 1)))))) = some (r1,r2):=by first|(rw [hy759];with_reducible exact H)|(have H2_:=(Option.bind_some _ _).symm.trans H;rw [hy759];with_reducible exact H2_)|(have H2_:=(Option.bind_some _ _).symm.trans H;with_reducible exact H2_)|with_reducible exact H|(rw [hy759];exact H)|exact H
         have Ny759:=Aside0.mk hy759
         clear hy759
         replace H:=Option.bind_eq_some_iff.mp H
         obtain ⟨t762,A130,H⟩:=H
         replace H : ((sacristyref01_Cmp.f k1 t762 l1).bind fun t765 => (if t765 ≥ 0 then ((sacristyref01_Sub.f k1 t762 l1).bind fun t766 => (if x8_1 < (x6_1.length : Int) then (sacristyref01_Div.l0 k1 l0 l1 (x6_1.set (x8_1 : Int).toNat true) t766 (wrap64 (x8_1 - 1))) else (none))) else (sacristyref01_Div.l0 k1 l0 l1 x6_1 t762 (wrap64 (x8_1 - 1))))) = some (r1,r2):=H
         have A13:=Aside0.mk A130
         clear A130
         replace H:=Option.bind_eq_some_iff.mp H
         obtain ⟨t765,A140,H⟩:=H
         replace H : (if t765 ≥ 0 then ((sacristyref01_Sub.f k1 t762 l1).bind fun t766 => (if x8_1 < (x6_1.length : Int) then (sacristyref01_Div.l0 k1 l0 l1 (x6_1.set (x8_1 : Int).toNat true) t766 (wrap64 (x8_1 - 1))) else (none))) else (sacristyref01_Div.l0 k1 l0 l1 x6_1 t762 (wrap64 (x8_1 - 1)))) = some (r1,r2):=H
         have A14:=Aside0.mk A140
         clear A140
         by_cases c15 : t765 ≥ 0
         ·rw [if_pos c15] at H
          have c15b0 : decide (0 ≤ t765) = true:=decide_eq_true c15
          clear c15
          replace H:=Option.bind_eq_some_iff.mp H
          obtain ⟨t766,A160,H⟩:=H
          replace H : (if x8_1 < (x6_1.length : Int) then (sacristyref01_Div.l0 k1 l0 l1 (x6_1.set (x8_1 : Int).toNat true) t766 (wrap64 (x8_1 - 1))) else (none)) = some (r1,r2):=H
          have A16:=Aside0.mk A160
          clear A160
          by_cases c17 : x8_1 < (x6_1.length : Int)
          ·rw [if_pos c17] at H
           have c17b0 : decide (x8_1 < (x6_1.length : Int)) = true:=decide_eq_true c17
           clear c17
           obtain ⟨y769,hy769⟩ : ∃ y_ : List Bool,y_ = (x6_1.set (x8_1 : Int).toNat true):=⟨_,rfl⟩
           replace H : (sacristyref01_Div.l0 k1 l0 l1 y769 t766 (wrap64 (x8_1 - 1))) = some (r1,r2):=by first|(rw [hy769];with_reducible exact H)|(have H2_:=(Option.bind_some _ _).symm.trans H;rw [hy769];with_reducible exact H2_)|(have H2_:=(Option.bind_some _ _).symm.trans H;with_reducible exact H2_)|with_reducible exact H|(rw [hy769];exact H)|exact H
           have Ny769:=Aside0.mk hy769
           clear hy769
           have H':=Aside0.mk H
           clear H
           have p755 : 0 ≤ (x8_1 : Int):=of_decide_eq_true (by first|(with_reducible assumption)|assumption)
           have q755 : x8_1 < (l0.length : Int):=of_decide_eq_true (by first|(with_reducible assumption)|assumption)
           obtain ⟨ad755,e755,hx755_0⟩:=Kd.at_bool HR0.out x8_1 p755 q755
           cases e755
           replace hx755_0:=(HB.out.cell (World.block_lt_of_cell? w _ hx755_0)).trans hx755_0
           replace p755:=eq_true p755
           replace q755:=eq_true q755
           go_wp2_with (first|((with_reducible refine gate_dst (N:=24) rfl ?_);refine Kd.R_lit Kd.bool _ 4 ?hg (N:=24) ?hd (xs:=([rdOf false l0 x8_1] : List Bool)) (inner:=[.bool (rdOf false l0 x8_1)]) (ok:=fun _ => True) (okp:=fun _ => True) ?hr ?hp (fun _ hk => hk) trivial (Below.refl _ _) (Nat.le_refl _) (by simp) ?_;(case hd => rfl);(case hg => rfl);(case hr => first|(go_simp;done)|(go_simp;rfl));(case hp => exact (Reps.one (show Kd.M Kd.bool _ _ _ (rdOf false l0 x8_1) [.bool (rdOf false l0 x8_1)] from rfl) (Reps.none _ _)));intro v757 w19 ho20 hb hg_ hnew_;clear hg_ hnew_;(first|rw [← Ny756.out] at ho20|(simp only [Int.reduceToNat] at ho20;rw [← Ny756.out] at ho20));have n0_:=Aside0.mk (Kd.R_elder' (by (with_reducible repeat (first|apply Kd.R_alloc|apply Kd.R_drewN|apply Kd.R_drew));exact HO_6.out) (Kd.R_base ho20) hb);have n1_:=Aside0.mk (Kd.V_elder' (by (with_reducible repeat (first|apply Kd.V_alloc|apply Kd.V_drewN|apply Kd.V_drew));exact HO_7.out) (Kd.R_base ho20) hb);have n2_:=Aside0.mk (Kd.R_lower (Kd.R_new' (Kd.R_newM (M:=fun k_ => (w.heap.size ≤ k_)) ho20 (below_size (by repeat (first|(with_reducible first|exact HB.out|apply below_alloc|apply pw_below_drewN|apply below_drew1)|exact HB.out))) (fun k_ h_ => h_)) (Kd.R_lt (by (with_reducible repeat (first|apply Kd.R_alloc|apply Kd.R_drewN|apply Kd.R_drew));exact HO_6.out))) (below_size (by repeat (first|(with_reducible first|exact HB.out|apply below_alloc|apply pw_below_drewN|apply below_drew1)|exact HB.out))));have n3_:=Aside0.mk (below_step (by repeat (first|(with_reducible first|exact HB.out|apply below_alloc|apply pw_below_drewN|apply below_drew1)|exact HB.out)) hb);clear HO_6;clear HO_7;clear HB;have HO_6:=n0_;have HO_7:=n1_;have HO758:=n2_;have HB:=n3_;clear n0_ n1_ n2_ n3_;clear hb ho20;obtain ⟨Ao22,co22,eo22⟩:=Kd.V_slice HO_7.out;subst eo22)|((with_reducible refine gate_builtin (b:=.append) (xs:=#[.tmp 24,.tmp 25]) rfl ?_);at_builtin;refine Kd.R_append_rows Kd.bool (w0:=w) w.heap.size rfl (.tmp 24) (.tmp 25) 42 4 (.bool false) 1 rfl Try.underlying42 info4 rfl (by decide) (by omega) v757 y756 x7_1 _ _ _ (fun k_ => (w.heap.size ≤ k_) ∧ some k_ ≠ (v747 : Value).ownBlock) (fun _ => False) rfl rfl ?aO ?aR (fun _ _ h => h) (fun _ h => h.elim) ?aF ?aB ?aS ?aL ?_;(case aR => repeat (first|exact (Kd.V_reads' HO_7.out).2.2|(with_reducible refine Kd.C_alloc ?_ _)|(with_reducible refine Kd.C_drewN ?_ _)|(with_reducible refine Kd.C_drew ?_)));(case aB => exact (by repeat (first|(with_reducible first|exact HB.out|apply below_alloc|apply pw_below_drewN|apply below_drew1)|exact HB.out)));(case aF => exact (fun k_ hk => ⟨(Nat.le_trans (below_size (by repeat (first|(with_reducible first|exact HB.out|apply below_alloc|apply pw_below_drewN|apply below_drew1)|exact HB.out))) hk),Kd.fresh' (Kd.R_lt (by (with_reducible repeat (first|apply Kd.R_alloc|apply Kd.R_drewN|apply Kd.R_drew));exact HO_6.out)) k_ hk⟩));(case aO => exact (by (with_reducible repeat (first|apply Kd.R_alloc|apply Kd.R_drewN|apply Kd.R_drew));exact Kd.R_mono HO758.out (fun _ hk => ⟨hk.1.1,hk.2⟩)));(case aS => exact (below_size (by repeat (first|(with_reducible first|exact HB.out|apply below_alloc|apply pw_below_drewN|apply below_drew1)|exact HB.out))));(case aL => have:=LMc12.out;omega);intro v760 w21 ho hb hg hat;rw [← Ny759.out] at ho;have n0_:=Aside0.mk (Kd.R_after (ok:=(fun k_ => (w.heap.size ≤ k_))) (by (with_reducible repeat (first|apply Kd.R_alloc|apply Kd.R_drewN|apply Kd.R_drew));exact HO_6.out) hg hat);have n1_:=Aside0.mk (Kd.V_afterv (ok:=(fun k_ => (w.heap.size ≤ k_) ∧ some k_ ≠ (v747 : Value).ownBlock)) (by (with_reducible repeat (first|apply Kd.V_alloc|apply Kd.V_drewN|apply Kd.V_drew));exact HO_7.out) hg hat);have n2_:=Aside0.mk (hb);have n3_:=Aside0.mk (ho);clear HO_6;clear HO_7;clear HB;clear HO758;have HO_6:=n0_;have HO_7:=n1_;have HB:=n2_;have HO761:=n3_;clear n0_ n1_ n2_ n3_;clear ho hb hg hat;obtain ⟨Ao23,co23,eo23⟩:=Kd.R_slice HO761.out;subst eo23)|((with_reducible refine gate_callee (f:=111) rfl ?_);refine goesL_ (some 27) rfl rfl Try.func111 (by kernel_rfl) rfl #[.slice Ao23 y759.length co23] rfl (by (try simp only [List.map_toArray,List.map_cons,List.map_nil]);first|done|rfl|(simp only [List.length_drop,List.length_take];rfl)) ?_;(with_reducible refine (sacristyref01_Trim.calls k1 (fun k_ => some k_ = (.slice Ao23 y759.length co23 : Value).ownBlock) _ _ y759 t762 _ ?side1 A13.out).mono ?_);(case side1 => exact Kd.R_V (Kd.R_tight rfl (HO761.out)));rintro e w24 ⟨v763,rfl,ho0,hb⟩;refine ⟨_,rfl,?_⟩;have n0_:=Aside0.mk (Kd.R_below (by (with_reducible repeat (first|apply Kd.R_alloc|apply Kd.R_drewN|apply Kd.R_drew));exact HO_6.out) hb);have n1_:=Aside0.mk (Kd.V_below (by (with_reducible repeat (first|apply Kd.V_alloc|apply Kd.V_drewN|apply Kd.V_drew));exact HO_7.out) hb);have n2_:=Aside0.mk (Kd.R_below (by (with_reducible repeat (first|apply Kd.R_alloc|apply Kd.R_drewN|apply Kd.R_drew));exact HO761.out) hb);have n3_:=Aside0.mk (Kd.V_lower (Kd.V_mono (ok':=fun k_ => (w.heap.size ≤ k_) ∧ some k_ ≠ (v747 : Value).ownBlock) ho0 (fun k_ hk_ => ⟨Or.elim hk_ (fun hs_ => ((HO761.out).1 k_ hs_.symm).1) (fun hn_ => (Nat.le_trans (below_size (by repeat (first|(with_reducible first|exact HB.out|apply below_alloc|apply pw_below_drewN|apply below_drew1)|exact HB.out))) hn_)),Or.elim hk_ (fun hs_ => ((HO761.out).1 k_ hs_.symm).2) (fun hn_ => (Kd.fresh' (Kd.R_lt (by (with_reducible repeat (first|apply Kd.R_alloc|apply Kd.R_drewN|apply Kd.R_drew));exact HO_6.out)) k_ hn_))⟩)) (below_size (by repeat (first|(with_reducible first|exact HB.out|apply below_alloc|apply pw_below_drewN|apply below_drew1)|exact HB.out))));have n4_:=Aside0.mk (below_step (by repeat (first|(with_reducible first|exact HB.out|apply below_alloc|apply pw_below_drewN|apply below_drew1)|exact HB.out)) hb);clear HO_6;clear HO_7;clear HO761;clear HB;have HO_6:=n0_;have HO_7:=n1_;have HO761:=n2_;have HO764:=n3_;have HB:=n4_;clear n0_ n1_ n2_ n3_ n4_;(try clear hb);(try clear hb2);(try clear hk);(try clear hi);(try clear ho0);obtain ⟨Ao25,co25,eo25⟩:=Kd.V_slice HO764.out;subst eo25)|((with_reducible refine gate_callee (f:=46) rfl ?_);refine goesL_ (some 30) rfl rfl Try.func46 (by kernel_rfl) rfl #[.slice Ao25 t762.length co25,.slice A1 l1.length c1] rfl (by (try simp only [List.map_toArray,List.map_cons,List.map_nil]);first|done|rfl|(simp only [List.length_drop,List.length_take];rfl)) ?_;(with_reducible refine (sacristyref01_Cmp.calls k1 _ _ t762 _ _ l1 t765 _ ?side1 ?side2 ?side3 ?side4 A14.out).mono ?_);(case side1 => repeat (first|exact (Kd.V_reads' HO764.out).2.2|(with_reducible refine Kd.C_alloc ?_ _)|(with_reducible refine Kd.C_drewN ?_ _)|(with_reducible refine Kd.C_drew ?_)));(case side2 => exact (Kd.V_reads' HO764.out).2.1);(case side3 => repeat (first|exact (Kd.C_below HR1.out HB.out)|(with_reducible refine Kd.C_alloc ?_ _)|(with_reducible refine Kd.C_drewN ?_ _)|(with_reducible refine Kd.C_drew ?_)));(case side4 => exact HC1.out);rintro e w' ⟨rfl,⟨nd,rfl⟩⟩;refine ⟨_,rfl,?_⟩;(try (rw [drewN_self w24];generalize hq_ : World.drewN w24 _ = w24;have n0_ : Aside0 (Kd.R Kd.bool 4 w24 w.heap.size (fun k_ => (w.heap.size ≤ k_) ∧ some k_ ≠ (v747 : Value).ownBlock) (.slice Ao23 y759.length co23) y759):=⟨by rw [← hq_];exact (by (with_reducible repeat (first|apply Kd.R_alloc|apply Kd.R_drewN|apply Kd.R_drew));exact HO761.out)⟩;have n1_ : Aside0 (Kd.V Kd.bool 4 w24 w.heap.size (fun k_ => (w.heap.size ≤ k_) ∧ some k_ ≠ (v747 : Value).ownBlock) (.slice Ao25 t762.length co25) t762):=⟨by rw [← hq_];exact (by (with_reducible repeat (first|apply Kd.V_alloc|apply Kd.V_drewN|apply Kd.V_drew));exact HO764.out)⟩;have n2_ : Aside0 (Kd.R Kd.bool 4 w24 w.heap.size (fun k_ => (w.heap.size ≤ k_) ∧ some k_ ≠ (.slice Ao23 y759.length co23 : Value).ownBlock) v747 x6_1):=⟨by rw [← hq_];exact (by (with_reducible repeat (first|apply Kd.R_alloc|apply Kd.R_drewN|apply Kd.R_drew));exact HO_6.out)⟩;have n3_ : Aside0 (Kd.V Kd.bool 4 w24 w.heap.size (fun k_ => (w.heap.size ≤ k_) ∧ some k_ ≠ (.slice Ao23 y759.length co23 : Value).ownBlock ∧ some k_ ≠ (v747 : Value).ownBlock) (.slice Ao22 x7_1.length co22) x7_1):=⟨by rw [← hq_];exact (by (with_reducible repeat (first|apply Kd.V_alloc|apply Kd.V_drewN|apply Kd.V_drew));exact Kd.V_mono HO_7.out (fun _ hk => ⟨hk.1.1,⟨hk.2,hk.1.2⟩⟩))⟩;have n4_ : Aside0 (Below w.heap.size w w24):=⟨by rw [← hq_];exact (by repeat (first|(with_reducible first|exact HB.out|apply below_alloc|apply pw_below_drewN|apply below_drew1)|exact HB.out))⟩;clear HO761 HO764 HO_6 HO_7 HB hq_;have HO761:=n0_;have HO764:=n1_;have HO_6:=n2_;have HO_7:=n3_;have HB:=n4_;clear n0_ n1_ n2_ n3_ n4_)))|((with_reducible refine gate_callee (f:=63) rfl ?_);refine goesL_ (some 34) rfl rfl Try.func63 (by kernel_rfl) rfl #[.slice Ao25 t762.length co25,.slice A1 l1.length c1] rfl (by (try simp only [List.map_toArray,List.map_cons,List.map_nil]);first|done|rfl|(simp only [List.length_drop,List.length_take];rfl)) ?_;(with_reducible refine (sacristyref01_Sub.calls k1 _ _ t762 _ _ l1 t766 _ ?side1 ?side2 ?side3 ?side4 A16.out).mono ?_);(case side1 => repeat (first|exact (Kd.V_reads' HO764.out).2.2|(with_reducible refine Kd.C_alloc ?_ _)|(with_reducible refine Kd.C_drewN ?_ _)|(with_reducible refine Kd.C_drew ?_)));(case side2 => exact (Kd.V_reads' HO764.out).2.1);(case side3 => repeat (first|exact (Kd.C_below HR1.out HB.out)|(with_reducible refine Kd.C_alloc ?_ _)|(with_reducible refine Kd.C_drewN ?_ _)|(with_reducible refine Kd.C_drew ?_)));(case side4 => exact HC1.out);rintro e w26 ⟨v767,rfl,ho0,hb⟩;refine ⟨_,rfl,?_⟩;have n0_:=Aside0.mk (Kd.R_below (by (with_reducible repeat (first|apply Kd.R_alloc|apply Kd.R_drewN|apply Kd.R_drew));exact HO_6.out) hb);have n1_:=Aside0.mk (Kd.V_below (by (with_reducible repeat (first|apply Kd.V_alloc|apply Kd.V_drewN|apply Kd.V_drew));exact HO_7.out) hb);have n2_:=Aside0.mk (Kd.R_below (by (with_reducible repeat (first|apply Kd.R_alloc|apply Kd.R_drewN|apply Kd.R_drew));exact HO761.out) hb);have n3_:=Aside0.mk (Kd.V_below (by (with_reducible repeat (first|apply Kd.V_alloc|apply Kd.V_drewN|apply Kd.V_drew));exact HO764.out) hb);have n4_:=Aside0.mk (Kd.V_lower (Kd.V_mono (ok':=fun k_ => (w.heap.size ≤ k_) ∧ some k_ ≠ (v747 : Value).ownBlock ∧ some k_ ≠ (.slice Ao23 y759.length co23 : Value).ownBlock) ho0 (fun k_ hk_ => ⟨(Nat.le_trans (below_size (by repeat (first|(with_reducible first|exact HB.out|apply below_alloc|apply pw_below_drewN|apply below_drew1)|exact HB.out))) hk_),(Kd.fresh' (Kd.R_lt (by (with_reducible repeat (first|apply Kd.R_alloc|apply Kd.R_drewN|apply Kd.R_drew));exact HO_6.out)) k_ hk_),(Kd.fresh' (Kd.R_lt (by (with_reducible repeat (first|apply Kd.R_alloc|apply Kd.R_drewN|apply Kd.R_drew));exact HO761.out)) k_ hk_)⟩)) (below_size (by repeat (first|(with_reducible first|exact HB.out|apply below_alloc|apply pw_below_drewN|apply below_drew1)|exact HB.out))));have n5_:=Aside0.mk (below_step (by repeat (first|(with_reducible first|exact HB.out|apply below_alloc|apply pw_below_drewN|apply below_drew1)|exact HB.out)) hb);clear HO_6;clear HO_7;clear HO761;clear HO764;clear HB;have HO_6:=n0_;have HO_7:=n1_;have HO761:=n2_;have HO764:=n3_;have HO768:=n4_;have HB:=n5_;clear n0_ n1_ n2_ n3_ n4_ n5_;(try clear hb);(try clear hb2);(try clear hk);(try clear hi);(try clear ho0);have p18 : 0 ≤ (x8_1 : Int):=of_decide_eq_true (by first|(with_reducible assumption)|assumption);have q18 : (x8_1 : Int) < ((x6_1.length : Int) : Int):=of_decide_eq_true (by first|(with_reducible assumption)|assumption);obtain ⟨go18,co18,eo18,gb18,gl18,cl18,HG18⟩:=Kd.R_form HO_6.out (by omega);(first|cases eo18|(injection eo18 with ea_ en_ ec_;(first|subst ea_|(injection ea_ with ea_;subst ea_));subst ec_;clear en_));have GB18:=Aside0.mk gb18;have GG18:=Aside0.mk HG18;clear gb18 gl18 HG18;obtain ⟨hx18_0,hf18_0⟩:=Kd.R_celln false HO_6.out (x8_1 : Int) p18 q18;replace p18:=eq_true p18;replace q18:=eq_true q18;obtain ⟨hy27_,hz27_⟩:=Kd.R_celln false HO_6.out (x8_1 : Int) (of_decide_eq_true (by first|(with_reducible assumption)|assumption)) (of_decide_eq_true (by first|(with_reducible assumption)|assumption));have HP27:=Kd.R_putg HO_6.out (x8_1 : Int) true)|((with_reducible refine gate_store (t:=4) (p:=37) rfl ?_);refine store_event (t:=4) (p:=37) (v:=?vo_w28) (w1:=(w26.setCell ⟨go18,(x8_1 : Int).toNat,none⟩ (.bool true))) ?hg ?ho ?hn ?hr ?_;(case ho => rfl);(case hg => rfl);(case hn => rfl);(case hr => first|(go_simp;done)|(go_simp;rfl));intro w28 hw;have hg : w26.grownBy w28 (some go18):=(by rw [hw];exact HP27.2);have hp_ : Kd.R Kd.bool 4 w28 w.heap.size (fun k_ => (w.heap.size ≤ k_) ∧ some k_ ≠ (.slice Ao23 y759.length co23 : Value).ownBlock) (.slice (some ⟨go18,0,none⟩) x6_1.length co18) y769:=(by rw [hw,Ny769.out];exact HP27.1);clear HP27;have n0_:=Aside0.mk (hp_);have n1_:=Aside0.mk trivial;have n2_:=Aside0.mk (Kd.R_after (v:=(.slice (some ⟨go18,0,none⟩) x6_1.length co18)) (v1:=(.slice (some ⟨go18,0,none⟩) x6_1.length co18)) (ok:=(fun k_ => (w.heap.size ≤ k_))) (by (with_reducible repeat (first|apply Kd.R_alloc|apply Kd.R_drewN|apply Kd.R_drew));exact HO761.out) hg (.inl rfl));have n3_:=Aside0.mk (Kd.V_afterv (v:=(.slice (some ⟨go18,0,none⟩) x6_1.length co18)) (v1:=(.slice (some ⟨go18,0,none⟩) x6_1.length co18)) (ok:=(fun k_ => (w.heap.size ≤ k_))) (by (with_reducible repeat (first|apply Kd.V_alloc|apply Kd.V_drewN|apply Kd.V_drew));exact HO764.out) hg (.inl rfl));have n4_:=Aside0.mk (Kd.V_afterv (v:=(.slice (some ⟨go18,0,none⟩) x6_1.length co18)) (v1:=(.slice (some ⟨go18,0,none⟩) x6_1.length co18)) (ok:=(fun k_ => (w.heap.size ≤ k_) ∧ some k_ ≠ (.slice Ao23 y759.length co23 : Value).ownBlock)) (by (with_reducible repeat (first|apply Kd.V_alloc|apply Kd.V_drewN|apply Kd.V_drew));exact Kd.V_mono HO768.out (fun _ hk => ⟨⟨hk.1,hk.2.2⟩,hk.2.1⟩)) hg (.inl rfl));have n5_:=Aside0.mk ((by rw [hw];exact below_set (HB.out) GB18.out : Below w.heap.size w w28));clear HO_6;clear HO_7;clear HO761;clear HO764;clear HO768;clear HB;have HO_6:=n0_;have HO_7:=n1_;have HO761:=n2_;have HO764:=n3_;have HO768:=n4_;have HB:=n5_;clear n0_ n1_ n2_ n3_ n4_ n5_;clear hg hw hp_))
           go_roundg k1
           case measure => have:=HK1.out;omega
           case rel => exact ⟨(y769),(t766),(wrap64 (x8_1 - 1)),(by first|rfl|(simp;done)|(simp [*];done)),H',⟨by have:=HK1.out;omega⟩,⟨by (with_reducible repeat (first|apply Kd.R_alloc|apply Kd.R_drewN|apply Kd.R_drew));exact Kd.R_mono HO_6.out (fun _ hk => hk.1)⟩,⟨by (with_reducible repeat (first|apply Kd.V_alloc|apply Kd.V_drewN|apply Kd.V_drew));exact Kd.V_mono HO768.out (fun _ hk => ⟨hk.1.1,hk.2⟩)⟩,⟨by repeat (first|(with_reducible first|exact HB.out|apply below_alloc|apply pw_below_drewN|apply below_drew1)|exact HB.out)⟩⟩
          ·rw [if_neg c17] at H
           exact absurd H (by simp)
         ·rw [if_neg c15] at H
          have c15b0 : decide (0 ≤ t765) = false:=decide_eq_false c15
          clear c15
          have H':=Aside0.mk H
          clear H
          have p755 : 0 ≤ (x8_1 : Int):=of_decide_eq_true (by first|(with_reducible assumption)|assumption)
          have q755 : x8_1 < (l0.length : Int):=of_decide_eq_true (by first|(with_reducible assumption)|assumption)
          obtain ⟨ad755,e755,hx755_0⟩:=Kd.at_bool HR0.out x8_1 p755 q755
          cases e755
          replace hx755_0:=(HB.out.cell (World.block_lt_of_cell? w _ hx755_0)).trans hx755_0
          replace p755:=eq_true p755
          replace q755:=eq_true q755
          go_wp2_with (first|((with_reducible refine gate_dst (N:=24) rfl ?_);refine Kd.R_lit Kd.bool _ 4 ?hg (N:=24) ?hd (xs:=([rdOf false l0 x8_1] : List Bool)) (inner:=[.bool (rdOf false l0 x8_1)]) (ok:=fun _ => True) (okp:=fun _ => True) ?hr ?hp (fun _ hk => hk) trivial (Below.refl _ _) (Nat.le_refl _) (by simp) ?_;(case hd => rfl);(case hg => rfl);(case hr => first|(go_simp;done)|(go_simp;rfl));(case hp => exact (Reps.one (show Kd.M Kd.bool _ _ _ (rdOf false l0 x8_1) [.bool (rdOf false l0 x8_1)] from rfl) (Reps.none _ _)));intro v757 w29 ho30 hb hg_ hnew_;clear hg_ hnew_;(first|rw [← Ny756.out] at ho30|(simp only [Int.reduceToNat] at ho30;rw [← Ny756.out] at ho30));have n0_:=Aside0.mk (Kd.R_elder' (by (with_reducible repeat (first|apply Kd.R_alloc|apply Kd.R_drewN|apply Kd.R_drew));exact HO_6.out) (Kd.R_base ho30) hb);have n1_:=Aside0.mk (Kd.V_elder' (by (with_reducible repeat (first|apply Kd.V_alloc|apply Kd.V_drewN|apply Kd.V_drew));exact HO_7.out) (Kd.R_base ho30) hb);have n2_:=Aside0.mk (Kd.R_lower (Kd.R_new' (Kd.R_newM (M:=fun k_ => (w.heap.size ≤ k_)) ho30 (below_size (by repeat (first|(with_reducible first|exact HB.out|apply below_alloc|apply pw_below_drewN|apply below_drew1)|exact HB.out))) (fun k_ h_ => h_)) (Kd.R_lt (by (with_reducible repeat (first|apply Kd.R_alloc|apply Kd.R_drewN|apply Kd.R_drew));exact HO_6.out))) (below_size (by repeat (first|(with_reducible first|exact HB.out|apply below_alloc|apply pw_below_drewN|apply below_drew1)|exact HB.out))));have n3_:=Aside0.mk (below_step (by repeat (first|(with_reducible first|exact HB.out|apply below_alloc|apply pw_below_drewN|apply below_drew1)|exact HB.out)) hb);clear HO_6;clear HO_7;clear HB;have HO_6:=n0_;have HO_7:=n1_;have HO758:=n2_;have HB:=n3_;clear n0_ n1_ n2_ n3_;clear hb ho30;obtain ⟨Ao32,co32,eo32⟩:=Kd.V_slice HO_7.out;subst eo32)|((with_reducible refine gate_builtin (b:=.append) (xs:=#[.tmp 24,.tmp 25]) rfl ?_);at_builtin;refine Kd.R_append_rows Kd.bool (w0:=w) w.heap.size rfl (.tmp 24) (.tmp 25) 42 4 (.bool false) 1 rfl Try.underlying42 info4 rfl (by decide) (by omega) v757 y756 x7_1 _ _ _ (fun k_ => (w.heap.size ≤ k_) ∧ some k_ ≠ (v747 : Value).ownBlock) (fun _ => False) rfl rfl ?aO ?aR (fun _ _ h => h) (fun _ h => h.elim) ?aF ?aB ?aS ?aL ?_;(case aR => repeat (first|exact (Kd.V_reads' HO_7.out).2.2|(with_reducible refine Kd.C_alloc ?_ _)|(with_reducible refine Kd.C_drewN ?_ _)|(with_reducible refine Kd.C_drew ?_)));(case aB => exact (by repeat (first|(with_reducible first|exact HB.out|apply below_alloc|apply pw_below_drewN|apply below_drew1)|exact HB.out)));(case aF => exact (fun k_ hk => ⟨(Nat.le_trans (below_size (by repeat (first|(with_reducible first|exact HB.out|apply below_alloc|apply pw_below_drewN|apply below_drew1)|exact HB.out))) hk),Kd.fresh' (Kd.R_lt (by (with_reducible repeat (first|apply Kd.R_alloc|apply Kd.R_drewN|apply Kd.R_drew));exact HO_6.out)) k_ hk⟩));(case aO => exact (by (with_reducible repeat (first|apply Kd.R_alloc|apply Kd.R_drewN|apply Kd.R_drew));exact Kd.R_mono HO758.out (fun _ hk => ⟨hk.1.1,hk.2⟩)));(case aS => exact (below_size (by repeat (first|(with_reducible first|exact HB.out|apply below_alloc|apply pw_below_drewN|apply below_drew1)|exact HB.out))));(case aL => have:=LMc12.out;omega);intro v760 w31 ho hb hg hat;rw [← Ny759.out] at ho;have n0_:=Aside0.mk (Kd.R_after (ok:=(fun k_ => (w.heap.size ≤ k_))) (by (with_reducible repeat (first|apply Kd.R_alloc|apply Kd.R_drewN|apply Kd.R_drew));exact HO_6.out) hg hat);have n1_:=Aside0.mk (Kd.V_afterv (ok:=(fun k_ => (w.heap.size ≤ k_) ∧ some k_ ≠ (v747 : Value).ownBlock)) (by (with_reducible repeat (first|apply Kd.V_alloc|apply Kd.V_drewN|apply Kd.V_drew));exact HO_7.out) hg hat);have n2_:=Aside0.mk (hb);have n3_:=Aside0.mk (ho);clear HO_6;clear HO_7;clear HB;clear HO758;have HO_6:=n0_;have HO_7:=n1_;have HB:=n2_;have HO761:=n3_;clear n0_ n1_ n2_ n3_;clear ho hb hg hat;obtain ⟨Ao33,co33,eo33⟩:=Kd.R_slice HO761.out;subst eo33)|((with_reducible refine gate_callee (f:=111) rfl ?_);refine goesL_ (some 27) rfl rfl Try.func111 (by kernel_rfl) rfl #[.slice Ao33 y759.length co33] rfl (by (try simp only [List.map_toArray,List.map_cons,List.map_nil]);first|done|rfl|(simp only [List.length_drop,List.length_take];rfl)) ?_;(with_reducible refine (sacristyref01_Trim.calls k1 (fun k_ => some k_ = (.slice Ao33 y759.length co33 : Value).ownBlock) _ _ y759 t762 _ ?side1 A13.out).mono ?_);(case side1 => exact Kd.R_V (Kd.R_tight rfl (HO761.out)));rintro e w34 ⟨v763,rfl,ho0,hb⟩;refine ⟨_,rfl,?_⟩;have n0_:=Aside0.mk (Kd.R_below (by (with_reducible repeat (first|apply Kd.R_alloc|apply Kd.R_drewN|apply Kd.R_drew));exact HO_6.out) hb);have n1_:=Aside0.mk (Kd.V_below (by (with_reducible repeat (first|apply Kd.V_alloc|apply Kd.V_drewN|apply Kd.V_drew));exact HO_7.out) hb);have n2_:=Aside0.mk (Kd.R_below (by (with_reducible repeat (first|apply Kd.R_alloc|apply Kd.R_drewN|apply Kd.R_drew));exact HO761.out) hb);have n3_:=Aside0.mk (Kd.V_lower (Kd.V_mono (ok':=fun k_ => (w.heap.size ≤ k_) ∧ some k_ ≠ (v747 : Value).ownBlock) ho0 (fun k_ hk_ => ⟨Or.elim hk_ (fun hs_ => ((HO761.out).1 k_ hs_.symm).1) (fun hn_ => (Nat.le_trans (below_size (by repeat (first|(with_reducible first|exact HB.out|apply below_alloc|apply pw_below_drewN|apply below_drew1)|exact HB.out))) hn_)),Or.elim hk_ (fun hs_ => ((HO761.out).1 k_ hs_.symm).2) (fun hn_ => (Kd.fresh' (Kd.R_lt (by (with_reducible repeat (first|apply Kd.R_alloc|apply Kd.R_drewN|apply Kd.R_drew));exact HO_6.out)) k_ hn_))⟩)) (below_size (by repeat (first|(with_reducible first|exact HB.out|apply below_alloc|apply pw_below_drewN|apply below_drew1)|exact HB.out))));have n4_:=Aside0.mk (below_step (by repeat (first|(with_reducible first|exact HB.out|apply below_alloc|apply pw_below_drewN|apply below_drew1)|exact HB.out)) hb);clear HO_6;clear HO_7;clear HO761;clear HB;have HO_6:=n0_;have HO_7:=n1_;have HO761:=n2_;have HO764:=n3_;have HB:=n4_;clear n0_ n1_ n2_ n3_ n4_;(try clear hb);(try clear hb2);(try clear hk);(try clear hi);(try clear ho0);obtain ⟨Ao35,co35,eo35⟩:=Kd.V_slice HO764.out;subst eo35)|((with_reducible refine gate_callee (f:=46) rfl ?_);refine goesL_ (some 30) rfl rfl Try.func46 (by kernel_rfl) rfl #[.slice Ao35 t762.length co35,.slice A1 l1.length c1] rfl (by (try simp only [List.map_toArray,List.map_cons,List.map_nil]);first|done|rfl|(simp only [List.length_drop,List.length_take];rfl)) ?_;(with_reducible refine (sacristyref01_Cmp.calls k1 _ _ t762 _ _ l1 t765 _ ?side1 ?side2 ?side3 ?side4 A14.out).mono ?_);(case side1 => repeat (first|exact (Kd.V_reads' HO764.out).2.2|(with_reducible refine Kd.C_alloc ?_ _)|(with_reducible refine Kd.C_drewN ?_ _)|(with_reducible refine Kd.C_drew ?_)));(case side2 => exact (Kd.V_reads' HO764.out).2.1);(case side3 => repeat (first|exact (Kd.C_below HR1.out HB.out)|(with_reducible refine Kd.C_alloc ?_ _)|(with_reducible refine Kd.C_drewN ?_ _)|(with_reducible refine Kd.C_drew ?_)));(case side4 => exact HC1.out);rintro e w' ⟨rfl,⟨nd,rfl⟩⟩;refine ⟨_,rfl,?_⟩))
          go_roundg k1
          case measure => have:=HK1.out;omega
          case rel => exact ⟨(x6_1),(t762),(wrap64 (x8_1 - 1)),(by first|rfl|(simp;done)|(simp [*];done)),H',⟨by have:=HK1.out;omega⟩,⟨by (with_reducible repeat (first|apply Kd.R_alloc|apply Kd.R_drewN|apply Kd.R_drew));exact Kd.R_mono HO_6.out (fun _ hk => hk.1)⟩,⟨by (with_reducible repeat (first|apply Kd.V_alloc|apply Kd.V_drewN|apply Kd.V_drew));exact HO764.out⟩,⟨by repeat (first|(with_reducible first|exact HB.out|apply below_alloc|apply pw_below_drewN|apply below_drew1)|exact HB.out)⟩⟩
        ·rw [if_neg c12] at H
         exact absurd H (by simp)
       ·rw [if_neg c11] at H
        exact absurd H (by simp)
      ·rw [if_neg c10] at H
       exact absurd H (by simp)
     ·rw [if_neg c9] at H
      have c9b0 : decide (0 ≤ x8_1) = false:=decide_eq_false c9
      clear c9
      replace H:=Option.bind_eq_some_iff.mp H
      obtain ⟨t752,A360,H⟩:=H
      replace H : (some (t752,x7_1)) = some (r1,r2):=H
      have A36:=Aside0.mk A360
      clear A360
      simp only [Option.some.injEq,Prod.mk.injEq] at H
      obtain ⟨rfl,rfl⟩:=H
      obtain ⟨Ao37,co37,eo37⟩:=Kd.R_slice HO_6.out
      subst eo37
      go_wp2_with (first|((with_reducible refine gate_callee (f:=111) rfl ?_);refine goesL_ (some 39) rfl rfl Try.func111 (by kernel_rfl) rfl #[.slice Ao37 x6_1.length co37] rfl (by (try simp only [List.map_toArray,List.map_cons,List.map_nil]);first|done|rfl|(simp only [List.length_drop,List.length_take];rfl)) ?_;(with_reducible refine (sacristyref01_Trim.calls k1 (fun k_ => some k_ = (.slice Ao37 x6_1.length co37 : Value).ownBlock) _ _ x6_1 t752 _ ?side1 A36.out).mono ?_);(case side1 => exact Kd.R_V (Kd.R_tight rfl (HO_6.out)));rintro e w38 ⟨v753,rfl,ho0,hb⟩;refine ⟨_,rfl,?_⟩;have n0_:=Aside0.mk (Kd.R_below (by (with_reducible repeat (first|apply Kd.R_alloc|apply Kd.R_drewN|apply Kd.R_drew));exact HO_6.out) hb);have n1_:=Aside0.mk (Kd.V_below (by (with_reducible repeat (first|apply Kd.V_alloc|apply Kd.V_drewN|apply Kd.V_drew));exact HO_7.out) hb);have n2_:=Aside0.mk (Kd.V_lower (Kd.V_mono (ok':=fun k_ => (w.heap.size ≤ k_)) ho0 (fun k_ hk_ => Or.elim hk_ (fun hs_ => ((HO_6.out).1 k_ hs_.symm)) (fun hn_ => (Nat.le_trans (below_size (by repeat (first|(with_reducible first|exact HB.out|apply below_alloc|apply pw_below_drewN|apply below_drew1)|exact HB.out))) hn_)))) (below_size (by repeat (first|(with_reducible first|exact HB.out|apply below_alloc|apply pw_below_drewN|apply below_drew1)|exact HB.out))));have n3_:=Aside0.mk (below_step (by repeat (first|(with_reducible first|exact HB.out|apply below_alloc|apply pw_below_drewN|apply below_drew1)|exact HB.out)) hb);clear HO_6;clear HO_7;clear HB;have HO_6:=n0_;have HO_7:=n1_;have HO754:=n2_;have HB:=n3_;clear n0_ n1_ n2_ n3_;(try clear hb);(try clear hb2);(try clear hk);(try clear hi);(try clear ho0)))
      (first|go_ret2|(refine ⟨_,results_tmp2 rfl _ _ _,?_⟩))
      exact ⟨_,_,by first|rfl|(simp [errW_none,errW_some] <;> rfl)|(simp [*,errW_none,errW_some] <;> rfl),by (with_reducible repeat (first|apply Kd.V_alloc|apply Kd.V_drewN|apply Kd.V_drew));exact HO754.out,by (with_reducible repeat (first|apply Kd.V_alloc|apply Kd.V_drewN|apply Kd.V_drew));exact Kd.V_mono HO_7.out (fun _ hk => hk.1),by repeat (first|(with_reducible first|exact HB.out|apply below_alloc|apply pw_below_drewN|apply below_drew1)|exact HB.out)⟩
  ·rw [if_neg c4] at H
   exact absurd H (by simp)
 ·rw [if_neg c3] at H
  exact absurd H (by simp)
end Go.Proofs.Yteejcpbngnojkaa.P
end
section
namespace Go.Proofs.Yteejcpbngnojkaa.P
open Go.RowKit Go.Proofs.YteejcpbngnojkaaW.PrintWords Go.Proofs.YteejcpbngnojkaaW.PrintLast Go.Proofs.YteejcpbngnojkaaW.PrintMore
attribute [local go_sem] max2_int min2_int max_two min_two max_three min_three max_four min_four
set_option linter.unusedVariables false
set_option linter.unusedSimpArgs false
def sacristyref01_Gcd.l0 : Nat → List Bool → List Bool → Option (List Bool)
 |0,_,_ => none
 |k + 1,x0,x1 => if (x1.length : Int) > 0 then ((sacristyref01_Div.f k x0 x1).bind fun bt770 => (sacristyref01_Gcd.l0 k x1 bt770.2)) else (some x0)
def sacristyref01_Gcd.f (k : Nat) (l0 : List Bool) (l1 : List Bool) : Option (List Bool):=sacristyref01_Gcd.l0 k l0 l1
theorem sacristyref01_Gcd.mono_l : ∀ k,(∀ y0 y1,LeO (sacristyref01_Gcd.l0 k y0 y1) (sacristyref01_Gcd.l0 (k + 1) y0 y1))
 |0 => fun _ _ r h => by simp [sacristyref01_Gcd.l0] at h
 |k + 1 => by
  have ih0:=sacristyref01_Gcd.mono_l k
  ·intro y0 y1
   unfold sacristyref01_Gcd.l0
   repeat' first
   |(with_reducible exact ih0 _ _)
   |(with_reducible exact sacristyref01_Div.mono _ _ _)
   |(with_reducible exact LeO.refl _)
   |(with_reducible exact LeO.none _)
   |(with_reducible refine LeO.ite ?_ ?_)
   |(with_reducible refine LeO.bind ?_ (fun _ => ?_))
   |exact ih0 _ _
   |exact sacristyref01_Div.mono _ _ _
   |exact LeO.none _
   |refine LeO.ite ?_ ?_
   |refine LeO.bind ?_ (fun _ => ?_)
theorem sacristyref01_Gcd.mono : ∀ a0 a1 k,LeO (sacristyref01_Gcd.f k a0 a1) (sacristyref01_Gcd.f (k + 1) a0 a1):=by
 intro a0 a1 k
 have ih0:=sacristyref01_Gcd.mono_l k
 unfold sacristyref01_Gcd.f
 repeat' first
   |(with_reducible exact ih0 _ _)
   |(with_reducible exact sacristyref01_Div.mono _ _ _)
   |(with_reducible exact LeO.refl _)
   |(with_reducible exact LeO.none _)
   |(with_reducible refine LeO.ite ?_ ?_)
   |(with_reducible refine LeO.bind ?_ (fun _ => ?_))
   |exact ih0 _ _
   |exact sacristyref01_Div.mono _ _ _
   |exact LeO.none _
   |refine LeO.ite ?_ ?_
   |refine LeO.bind ?_ (fun _ => ?_)
set_option maxHeartbeats 8000000 in
set_option maxRecDepth 100000 in
theorem sacristyref01_Gcd.calls (k : Nat) (P0_ : Nat → Prop) (A0 : Option Addr) (c0 : Nat) (l0 : List Bool) (P1_ : Nat → Prop) (A1 : Option Addr) (c1 : Nat) (l1 : List Bool) (r : List Bool) (w : World) (hs0 : Kd.V Kd.bool 4 w w.heap.size (fun k_ => P0_ k_) (.slice A0 l0.length c0) l0) (hs1 : Kd.V Kd.bool 4 w w.heap.size (fun k_ => P1_ k_) (.slice A1 l1.length c1) l1) (h : sacristyref01_Gcd.f k l0 l1 = some r) :
  Calls Try.prog 52 #[.slice A0 l0.length c0,.slice A1 l1.length c1] w fun e w' => ∃ v0_ : Value,e = .returned (v0_) ∧ Kd.V Kd.bool 4 w' w.heap.size (fun k_ => ((P0_ k_ ∨ P1_ k_) ∨ w.heap.size ≤ k_)) v0_ r ∧ Below w.heap.size w w':=by
 have HO0:=Aside0.mk (show Kd.V Kd.bool 4 w w.heap.size (fun k_ => ((P0_ k_ ∨ P1_ k_) ∨ w.heap.size ≤ k_)) (.slice A0 l0.length c0) l0 from Kd.V_mono hs0 (fun k_ hk => .inl (.inl hk)))
 have HO1:=Aside0.mk (show Kd.V Kd.bool 4 w w.heap.size (fun k_ => ((P0_ k_ ∨ P1_ k_) ∨ w.heap.size ≤ k_)) (.slice A1 l1.length c1) l1 from Kd.V_mono hs1 (fun k_ hk => .inl (.inr hk)))
 have HB:=Aside0.mk (Below.refl w.heap.size w)
 have H : (sacristyref01_Gcd.l0 k l0 l1) = some r:=h
 clear h
 have H':=Aside0.mk H
 clear H
 go_enter Try.func52,Try.ntmps52
 go_wp2
 go_loopg [0,1] k (fun kq v0 v1 w' => ∃ (x0_1 : List Bool) (x1_1 : List Bool),Aside0 (sacristyref01_Gcd.l0 kq x0_1 x1_1 = some r) ∧ Aside0 (kq ≤ k) ∧ Aside0 (Kd.V Kd.bool 4 w' w.heap.size (fun k_ => ((P0_ k_ ∨ P1_ k_) ∨ w.heap.size ≤ k_)) v0 x0_1) ∧ Aside0 (Kd.V Kd.bool 4 w' w.heap.size (fun k_ => ((P0_ k_ ∨ P1_ k_) ∨ w.heap.size ≤ k_)) v1 x1_1) ∧ Aside0 (Below w.heap.size w w'))
 case atStart => exact ⟨(l0),(l1),H',⟨Nat.le_refl _⟩,⟨by (with_reducible repeat (first|apply Kd.V_alloc|apply Kd.V_drewN|apply Kd.V_drew));exact HO0.out⟩,⟨by (with_reducible repeat (first|apply Kd.V_alloc|apply Kd.V_drewN|apply Kd.V_drew));exact HO1.out⟩,⟨by repeat (first|(with_reducible first|exact HB.out|apply below_alloc|apply pw_below_drewN|apply below_drew1)|exact HB.out)⟩⟩
 case round =>
  clear H'
  try clear c1
  try clear p2
  obtain ⟨x0_1,x1_1,HA,HK1,HO_0,HO_1,HB⟩:=hrel
  cases gk with
  |zero => exact absurd HA.out (by simp [sacristyref01_Gcd.l0])
  |succ k1 =>
   have H:=HA.out
   clear HA
   simp only [sacristyref01_Gcd.l0] at H
   by_cases c3 : (x1_1.length : Int) > 0
   ·rw [if_pos c3] at H
    have c3b0 : decide (0 < (x1_1.length : Int)) = true:=decide_eq_true c3
    have c3b1 : decide (0 < x1_1.length) = true:=decide_eq_true (by omega)
    clear c3
    replace H:=Option.bind_eq_some_iff.mp H
    obtain ⟨⟨t770,t773⟩,A40,H⟩:=H
    replace H : (sacristyref01_Gcd.l0 k1 x1_1 t773) = some r:=H
    have A4:=Aside0.mk A40
    clear A40
    have H':=Aside0.mk H
    clear H
    obtain ⟨Ao5,co5,eo5⟩:=Kd.V_slice HO_1.out
    subst eo5
    obtain ⟨Ao6,co6,eo6⟩:=Kd.V_slice HO_0.out
    subst eo6
    go_wp2_with (first|((with_reducible refine gate_callee (f:=59) rfl ?_);refine goesL_ (some 13) rfl rfl Try.func59 (by kernel_rfl) rfl #[.slice Ao6 x0_1.length co6,.slice Ao5 x1_1.length co5] rfl (by (try simp only [List.map_toArray,List.map_cons,List.map_nil]);first|done|rfl|(simp only [List.length_drop,List.length_take];rfl)) ?_;(with_reducible refine (sacristyref01_Div.calls k1 _ _ x0_1 _ _ x1_1 t770 t773 _ ?side1 ?side2 ?side3 ?side4 A4.out).mono ?_);(case side1 => repeat (first|exact (Kd.V_reads' HO_0.out).2.2|(with_reducible refine Kd.C_alloc ?_ _)|(with_reducible refine Kd.C_drewN ?_ _)|(with_reducible refine Kd.C_drew ?_)));(case side2 => exact (Kd.V_reads' HO_0.out).2.1);(case side3 => repeat (first|exact (Kd.V_reads' HO_1.out).2.2|(with_reducible refine Kd.C_alloc ?_ _)|(with_reducible refine Kd.C_drewN ?_ _)|(with_reducible refine Kd.C_drew ?_)));(case side4 => exact (Kd.V_reads' HO_1.out).2.1);rintro e w7 ⟨v771,v774,rfl,ho0,ho1,hb⟩;refine ⟨_,rfl,?_⟩;have n0_:=Aside0.mk (Kd.V_below (by (with_reducible repeat (first|apply Kd.V_alloc|apply Kd.V_drewN|apply Kd.V_drew));exact HO_0.out) hb);have n1_:=Aside0.mk (Kd.V_below (by (with_reducible repeat (first|apply Kd.V_alloc|apply Kd.V_drewN|apply Kd.V_drew));exact HO_1.out) hb);have n2_:=Aside0.mk (Kd.V_lower (Kd.V_mono (ok':=fun k_ => ((P0_ k_ ∨ P1_ k_) ∨ w.heap.size ≤ k_)) ho0 (fun k_ hk_ => (.inr (Nat.le_trans (below_size (by repeat (first|(with_reducible first|exact HB.out|apply below_alloc|apply pw_below_drewN|apply below_drew1)|exact HB.out))) hk_)))) (below_size (by repeat (first|(with_reducible first|exact HB.out|apply below_alloc|apply pw_below_drewN|apply below_drew1)|exact HB.out))));have n3_:=Aside0.mk (Kd.V_lower (Kd.V_mono (ok':=fun k_ => ((P0_ k_ ∨ P1_ k_) ∨ w.heap.size ≤ k_)) ho1 (fun k_ hk_ => (.inr (Nat.le_trans (below_size (by repeat (first|(with_reducible first|exact HB.out|apply below_alloc|apply pw_below_drewN|apply below_drew1)|exact HB.out))) hk_)))) (below_size (by repeat (first|(with_reducible first|exact HB.out|apply below_alloc|apply pw_below_drewN|apply below_drew1)|exact HB.out))));have n4_:=Aside0.mk (below_step (by repeat (first|(with_reducible first|exact HB.out|apply below_alloc|apply pw_below_drewN|apply below_drew1)|exact HB.out)) hb);clear HO_0;clear HO_1;clear HB;have HO_0:=n0_;have HO_1:=n1_;have HO772:=n2_;have HO775:=n3_;have HB:=n4_;clear n0_ n1_ n2_ n3_ n4_;(try clear hb);(try clear hb2);(try clear hk);(try clear hi);(try clear ho0);(try clear ho1)))
    go_roundg k1
    case measure => have:=HK1.out;omega
    case rel => exact ⟨(x1_1),(t773),H',⟨by have:=HK1.out;omega⟩,⟨by (with_reducible repeat (first|apply Kd.V_alloc|apply Kd.V_drewN|apply Kd.V_drew));exact HO_1.out⟩,⟨by (with_reducible repeat (first|apply Kd.V_alloc|apply Kd.V_drewN|apply Kd.V_drew));exact HO775.out⟩,⟨by repeat (first|(with_reducible first|exact HB.out|apply below_alloc|apply pw_below_drewN|apply below_drew1)|exact HB.out)⟩⟩
   ·rw [if_neg c3] at H
    have c3b0 : decide (0 < (x1_1.length : Int)) = false:=decide_eq_false c3
    have c3b1 : decide (0 < x1_1.length) = false:=decide_eq_false (by omega)
    clear c3
    obtain rfl:=Option.some.inj H
    obtain ⟨Ao8,co8,eo8⟩:=Kd.V_slice HO_1.out
    subst eo8
    go_wp2
    (first|go_ret|(refine ⟨_,results_tmp rfl _ _ _,?_⟩))
    exact ⟨_,by first|rfl|(simp [errW_none,errW_some] <;> rfl)|(simp [*,errW_none,errW_some] <;> rfl),by (with_reducible repeat (first|apply Kd.V_alloc|apply Kd.V_drewN|apply Kd.V_drew));exact HO_0.out,by repeat (first|(with_reducible first|exact HB.out|apply below_alloc|apply pw_below_drewN|apply below_drew1)|exact HB.out)⟩
end Go.Proofs.Yteejcpbngnojkaa.P
end
section
namespace Go.Proofs.Yteejcpbngnojkaa.P
open Go.RowKit Go.Proofs.YteejcpbngnojkaaW.PrintWords Go.Proofs.YteejcpbngnojkaaW.PrintLast Go.Proofs.YteejcpbngnojkaaW.PrintMore
attribute [local go_sem] max2_int min2_int max_two min_two max_three min_three max_four min_four
set_option linter.unusedVariables false
set_option linter.unusedSimpArgs false
def sacristylaw01_NatGcds.f (k : Nat) (l0 : List Int) (l1 : List Int) : Option (Bool):=(sacristylaw01_lives.f k).bind fun t776 => (if t776 = true then (if 0 ≤ (mn (l0.length : Int) 24) then (if (mn (l0.length : Int) 24) ≤ (l0.length : Int) then (if 0 ≤ (mn (l1.length : Int) 24) then (if (mn (l1.length : Int) 24) ≤ (l1.length : Int) then ((sacristylaw01_Num.f k (l0.take ((mn (l0.length : Int) 24) : Int).toNat)).bind fun t779 => ((sacristylaw01_Num.f k (l1.take ((mn (l1.length : Int) 24) : Int).toNat)).bind fun t782 => ((nat_Nat_Gcd.f k t779 t782).bind fun t787 => ((sacristylaw01_ref.f k (l0.take ((mn (l0.length : Int) 24) : Int).toNat)).bind fun t791 => ((sacristylaw01_ref.f k (l1.take ((mn (l1.length : Int) 24) : Int).toNat)).bind fun t794 => ((sacristyref01_Gcd.f k t791 t794).bind fun t797 => ((sacristylaw01_Same.f k t787 t797).bind fun t800 => (if t800 = true then ((nat_Nat_Zero.f t787).bind fun t801 => (if t801 = true then ((nat_Nat_Zero.f t779).bind fun t802 => (if t802 = true then ((nat_Nat_Zero.f t782).bind fun t803 => (some t803)) else (none))) else ((nat_Nat_Div.f k t779 t787).bind fun bt804 => ((nat_Nat_Div.f k t782 t787).bind fun bt813 => ((nat_Nat_Zero.f bt804.2.1).bind fun t822 => (if t822 = true then ((nat_Nat_Zero.f bt813.2.1).bind fun t823 => (some t823)) else (none))))))) else (none))))))))) else (none)) else (none)) else (none)) else (none)) else (none))
theorem sacristylaw01_NatGcds.mono : ∀ a0 a1 k,LeO (sacristylaw01_NatGcds.f k a0 a1) (sacristylaw01_NatGcds.f (k + 1) a0 a1):=by
 intro a0 a1 k
 unfold sacristylaw01_NatGcds.f
 repeat' first
   |(with_reducible exact nat_Nat_Div.mono _ _ _)
   |(with_reducible exact nat_Nat_Gcd.mono _ _ _)
   |(with_reducible exact sacristylaw01_Num.mono _ _)
   |(with_reducible exact sacristylaw01_Same.mono _ _ _)
   |(with_reducible exact sacristylaw01_lives.mono _)
   |(with_reducible exact sacristylaw01_ref.mono _ _)
   |(with_reducible exact sacristyref01_Gcd.mono _ _ _)
   |(with_reducible exact LeO.refl _)
   |(with_reducible exact LeO.none _)
   |(with_reducible refine LeO.ite ?_ ?_)
   |(with_reducible refine LeO.bind ?_ (fun _ => ?_))
   |exact nat_Nat_Div.mono _ _ _
   |exact nat_Nat_Gcd.mono _ _ _
   |exact sacristylaw01_Num.mono _ _
   |exact sacristylaw01_Same.mono _ _ _
   |exact sacristylaw01_lives.mono _
   |exact sacristylaw01_ref.mono _ _
   |exact sacristyref01_Gcd.mono _ _ _
   |exact LeO.none _
   |refine LeO.ite ?_ ?_
   |refine LeO.bind ?_ (fun _ => ?_)
def sacristylaw01_NatGcds.T3 : Bool × List (List Nat × List Nat):=(true,[([],[]),([],[]),([1],[1]),([2],[2]),([0,3],[0,3]),([],[]),([],[]),([6],[6]),([7],[7]),([5,8],[5,8]),([4,0,1,2,3,4],[0,1,4]),([9,10,0,1,2,3,4,5,6,7,8,9,10],[5,6,9])])
def sacristylaw01_NatGcds.B3 : List Nat:=[0,0,2,6,15,0,0,64,192,480,31,2047]
theorem sacristylaw01_NatGcds.tab3 : rtab .any (opsOf Try.f10 3) = sacristylaw01_NatGcds.T3:=by kernel_rfl
theorem sacristylaw01_NatGcds.bits3 : waitsOk sacristylaw01_NatGcds.T3.2 sacristylaw01_NatGcds.B3 = true:=by kernel_rfl
def sacristylaw01_NatGcds.T6 : Bool × List (List Nat × List Nat):=(true,[([],[]),([],[]),([1],[1]),([],[]),([3,2],[3]),([2,4,4],[2,4]),([0,5,5],[0,5]),([6],[6])])
def sacristylaw01_NatGcds.B6 : List Nat:=[0,0,2,0,14,30,63,127]
theorem sacristylaw01_NatGcds.tab6 : rtab .any (opsOf Try.f10 6) = sacristylaw01_NatGcds.T6:=by kernel_rfl
theorem sacristylaw01_NatGcds.bits6 : waitsOk sacristylaw01_NatGcds.T6.2 sacristylaw01_NatGcds.B6 = true:=by kernel_rfl
set_option maxHeartbeats 8000000 in
set_option maxRecDepth 100000 in
theorem sacristylaw01_NatGcds.calls (k : Nat) (A0 : Option Addr) (c0 : Nat) (l0 : List Int) (A1 : Option Addr) (c1 : Nat) (l1 : List Int) (r : Bool) (w : World) (hr0 : Kd.C (Kd.int .u8) w A0 l0.length l0) (hc0 : l0.length ≤ c0) (hr1 : Kd.C (Kd.int .u8) w A1 l1.length l1) (hc1 : l1.length ≤ c1) (h : sacristylaw01_NatGcds.f k l0 l1 = some r) :
  Calls Try.prog 10 #[.slice A0 l0.length c0,.slice A1 l1.length c1] w fun e w' => e = .returned (.bool r) ∧ Below w.heap.size w w':=by
 have hu38:=Try.underlying38
 have HR0:=Aside0.mk hr0
 have HC0:=Aside0.mk hc0
 clear hr0 hc0
 have HR1:=Aside0.mk hr1
 have HC1:=Aside0.mk hc1
 clear hr1 hc1
 have HB:=Aside0.mk (Below.refl w.heap.size w)
 have H : ((sacristylaw01_lives.f k).bind fun t776 => (if t776 = true then (if 0 ≤ (mn (l0.length : Int) 24) then (if (mn (l0.length : Int) 24) ≤ (l0.length : Int) then (if 0 ≤ (mn (l1.length : Int) 24) then (if (mn (l1.length : Int) 24) ≤ (l1.length : Int) then ((sacristylaw01_Num.f k (l0.take ((mn (l0.length : Int) 24) : Int).toNat)).bind fun t779 => ((sacristylaw01_Num.f k (l1.take ((mn (l1.length : Int) 24) : Int).toNat)).bind fun t782 => ((nat_Nat_Gcd.f k t779 t782).bind fun t787 => ((sacristylaw01_ref.f k (l0.take ((mn (l0.length : Int) 24) : Int).toNat)).bind fun t791 => ((sacristylaw01_ref.f k (l1.take ((mn (l1.length : Int) 24) : Int).toNat)).bind fun t794 => ((sacristyref01_Gcd.f k t791 t794).bind fun t797 => ((sacristylaw01_Same.f k t787 t797).bind fun t800 => (if t800 = true then ((nat_Nat_Zero.f t787).bind fun t801 => (if t801 = true then ((nat_Nat_Zero.f t779).bind fun t802 => (if t802 = true then ((nat_Nat_Zero.f t782).bind fun t803 => (some t803)) else (none))) else ((nat_Nat_Div.f k t779 t787).bind fun bt804 => ((nat_Nat_Div.f k t782 t787).bind fun bt813 => ((nat_Nat_Zero.f bt804.2.1).bind fun t822 => (if t822 = true then ((nat_Nat_Zero.f bt813.2.1).bind fun t823 => (some t823)) else (none))))))) else (none))))))))) else (none)) else (none)) else (none)) else (none)) else (none))) = some r:=h
 clear h
 replace H:=Option.bind_eq_some_iff.mp H
 obtain ⟨t776,A30,H⟩:=H
 replace H : (if t776 = true then (if 0 ≤ (mn (l0.length : Int) 24) then (if (mn (l0.length : Int) 24) ≤ (l0.length : Int) then (if 0 ≤ (mn (l1.length : Int) 24) then (if (mn (l1.length : Int) 24) ≤ (l1.length : Int) then ((sacristylaw01_Num.f k (l0.take ((mn (l0.length : Int) 24) : Int).toNat)).bind fun t779 => ((sacristylaw01_Num.f k (l1.take ((mn (l1.length : Int) 24) : Int).toNat)).bind fun t782 => ((nat_Nat_Gcd.f k t779 t782).bind fun t787 => ((sacristylaw01_ref.f k (l0.take ((mn (l0.length : Int) 24) : Int).toNat)).bind fun t791 => ((sacristylaw01_ref.f k (l1.take ((mn (l1.length : Int) 24) : Int).toNat)).bind fun t794 => ((sacristyref01_Gcd.f k t791 t794).bind fun t797 => ((sacristylaw01_Same.f k t787 t797).bind fun t800 => (if t800 = true then ((nat_Nat_Zero.f t787).bind fun t801 => (if t801 = true then ((nat_Nat_Zero.f t779).bind fun t802 => (if t802 = true then ((nat_Nat_Zero.f t782).bind fun t803 => (some t803)) else (none))) else ((nat_Nat_Div.f k t779 t787).bind fun bt804 => ((nat_Nat_Div.f k t782 t787).bind fun bt813 => ((nat_Nat_Zero.f bt804.2.1).bind fun t822 => (if t822 = true then ((nat_Nat_Zero.f bt813.2.1).bind fun t823 => (some t823)) else (none))))))) else (none))))))))) else (none)) else (none)) else (none)) else (none)) else (none)) = some r:=H
 have A3:=Aside0.mk A30
 clear A30
 by_cases c4 : t776 = true
 ·subst c4
  have H1 : (if 0 ≤ (mn (l0.length : Int) 24) then (if (mn (l0.length : Int) 24) ≤ (l0.length : Int) then (if 0 ≤ (mn (l1.length : Int) 24) then (if (mn (l1.length : Int) 24) ≤ (l1.length : Int) then ((sacristylaw01_Num.f k (l0.take ((mn (l0.length : Int) 24) : Int).toNat)).bind fun t779 => ((sacristylaw01_Num.f k (l1.take ((mn (l1.length : Int) 24) : Int).toNat)).bind fun t782 => ((nat_Nat_Gcd.f k t779 t782).bind fun t787 => ((sacristylaw01_ref.f k (l0.take ((mn (l0.length : Int) 24) : Int).toNat)).bind fun t791 => ((sacristylaw01_ref.f k (l1.take ((mn (l1.length : Int) 24) : Int).toNat)).bind fun t794 => ((sacristyref01_Gcd.f k t791 t794).bind fun t797 => ((sacristylaw01_Same.f k t787 t797).bind fun t800 => (if t800 = true then ((nat_Nat_Zero.f t787).bind fun t801 => (if t801 = true then ((nat_Nat_Zero.f t779).bind fun t802 => (if t802 = true then ((nat_Nat_Zero.f t782).bind fun t803 => (some t803)) else (none))) else ((nat_Nat_Div.f k t779 t787).bind fun bt804 => ((nat_Nat_Div.f k t782 t787).bind fun bt813 => ((nat_Nat_Zero.f bt804.2.1).bind fun t822 => (if t822 = true then ((nat_Nat_Zero.f bt813.2.1).bind fun t823 => (some t823)) else (none))))))) else (none))))))))) else (none)) else (none)) else (none)) else (none)) = some r:=by rw [if_pos rfl] at H;exact H
  clear H
  have H:=H1
  clear H1
  obtain ⟨ji5,hji5⟩ : ∃ j_ : Int,(mn (l0.length : Int) 24) = j_:=⟨_,rfl⟩
  replace H : (if 0 ≤ (ji5) then (if (ji5) ≤ (l0.length : Int) then (if 0 ≤ (mn (l1.length : Int) 24) then (if (mn (l1.length : Int) 24) ≤ (l1.length : Int) then ((sacristylaw01_Num.f k (l0.take ((ji5) : Int).toNat)).bind fun t779 => ((sacristylaw01_Num.f k (l1.take ((mn (l1.length : Int) 24) : Int).toNat)).bind fun t782 => ((nat_Nat_Gcd.f k t779 t782).bind fun t787 => ((sacristylaw01_ref.f k (l0.take ((ji5) : Int).toNat)).bind fun t791 => ((sacristylaw01_ref.f k (l1.take ((mn (l1.length : Int) 24) : Int).toNat)).bind fun t794 => ((sacristyref01_Gcd.f k t791 t794).bind fun t797 => ((sacristylaw01_Same.f k t787 t797).bind fun t800 => (if t800 = true then ((nat_Nat_Zero.f t787).bind fun t801 => (if t801 = true then ((nat_Nat_Zero.f t779).bind fun t802 => (if t802 = true then ((nat_Nat_Zero.f t782).bind fun t803 => (some t803)) else (none))) else ((nat_Nat_Div.f k t779 t787).bind fun bt804 => ((nat_Nat_Div.f k t782 t787).bind fun bt813 => ((nat_Nat_Zero.f bt804.2.1).bind fun t822 => (if t822 = true then ((nat_Nat_Zero.f bt813.2.1).bind fun t823 => (some t823)) else (none))))))) else (none))))))))) else (none)) else (none)) else (none)) else (none)) = some r:=by first|(rw [hji5] at H;exact H)|(simp only [hji5] at H ⊢;exact H)
  (try rw [hji5] at A3)
  (try (have hji5h : ji5 ≤ 24:=by (rw [← hji5];unfold mn;(repeat' split) <;> omega)))
  (try (have hji5g : ji5 ≤ 64:=by omega))
  (try (have hji5l : 0 ≤ ji5:=by (rw [← hji5];unfold mn;(repeat' split) <;> omega)))
  (try (have hji5m : 0 ≤ ji5:=by omega))
  have hji5_ : (if 24 < (l0.length : Int) then 24 else (l0.length : Int)) = ji5:=hji5
  by_cases c6 : 0 ≤ (ji5)
  ·rw [if_pos c6] at H
   have c6b0:=eq_true c6
   have c6b1 : decide (0 ≤ (ji5)) = true:=decide_eq_true c6
   clear c6
   by_cases c7 : (ji5) ≤ (l0.length : Int)
   ·rw [if_pos c7] at H
    have c7b0:=eq_true c7
    have c7b1 : decide ((ji5) ≤ (l0.length : Int)) = true:=decide_eq_true c7
    clear c7
    obtain ⟨ji8,hji8⟩ : ∃ j_ : Int,(mn (l1.length : Int) 24) = j_:=⟨_,rfl⟩
    replace H : (if 0 ≤ (ji8) then (if (ji8) ≤ (l1.length : Int) then ((sacristylaw01_Num.f k (l0.take ((ji5) : Int).toNat)).bind fun t779 => ((sacristylaw01_Num.f k (l1.take ((ji8) : Int).toNat)).bind fun t782 => ((nat_Nat_Gcd.f k t779 t782).bind fun t787 => ((sacristylaw01_ref.f k (l0.take ((ji5) : Int).toNat)).bind fun t791 => ((sacristylaw01_ref.f k (l1.take ((ji8) : Int).toNat)).bind fun t794 => ((sacristyref01_Gcd.f k t791 t794).bind fun t797 => ((sacristylaw01_Same.f k t787 t797).bind fun t800 => (if t800 = true then ((nat_Nat_Zero.f t787).bind fun t801 => (if t801 = true then ((nat_Nat_Zero.f t779).bind fun t802 => (if t802 = true then ((nat_Nat_Zero.f t782).bind fun t803 => (some t803)) else (none))) else ((nat_Nat_Div.f k t779 t787).bind fun bt804 => ((nat_Nat_Div.f k t782 t787).bind fun bt813 => ((nat_Nat_Zero.f bt804.2.1).bind fun t822 => (if t822 = true then ((nat_Nat_Zero.f bt813.2.1).bind fun t823 => (some t823)) else (none))))))) else (none))))))))) else (none)) else (none)) = some r:=by first|(rw [hji8] at H;exact H)|(simp only [hji8] at H ⊢;exact H)
    (try rw [hji8] at A3)
    (try (have hji8h : ji8 ≤ 24:=by (rw [← hji8];unfold mn;(repeat' split) <;> omega)))
    (try (have hji8g : ji8 ≤ 64:=by omega))
    (try (have hji8l : 0 ≤ ji8:=by (rw [← hji8];unfold mn;(repeat' split) <;> omega)))
    (try (have hji8m : 0 ≤ ji8:=by omega))
    have hji8_ : (if 24 < (l1.length : Int) then 24 else (l1.length : Int)) = ji8:=hji8
    by_cases c9 : 0 ≤ (ji8)
    ·rw [if_pos c9] at H
     have c9b0:=eq_true c9
     have c9b1 : decide (0 ≤ (ji8)) = true:=decide_eq_true c9
     clear c9
     by_cases c10 : (ji8) ≤ (l1.length : Int)
     ·rw [if_pos c10] at H
      have c10b0:=eq_true c10
      have c10b1 : decide ((ji8) ≤ (l1.length : Int)) = true:=decide_eq_true c10
      clear c10
      replace H:=Option.bind_eq_some_iff.mp H
      obtain ⟨t779,A110,H⟩:=H
      replace H : ((sacristylaw01_Num.f k (l1.take ((ji8) : Int).toNat)).bind fun t782 => ((nat_Nat_Gcd.f k t779 t782).bind fun t787 => ((sacristylaw01_ref.f k (l0.take ((ji5) : Int).toNat)).bind fun t791 => ((sacristylaw01_ref.f k (l1.take ((ji8) : Int).toNat)).bind fun t794 => ((sacristyref01_Gcd.f k t791 t794).bind fun t797 => ((sacristylaw01_Same.f k t787 t797).bind fun t800 => (if t800 = true then ((nat_Nat_Zero.f t787).bind fun t801 => (if t801 = true then ((nat_Nat_Zero.f t779).bind fun t802 => (if t802 = true then ((nat_Nat_Zero.f t782).bind fun t803 => (some t803)) else (none))) else ((nat_Nat_Div.f k t779 t787).bind fun bt804 => ((nat_Nat_Div.f k t782 t787).bind fun bt813 => ((nat_Nat_Zero.f bt804.2.1).bind fun t822 => (if t822 = true then ((nat_Nat_Zero.f bt813.2.1).bind fun t823 => (some t823)) else (none))))))) else (none)))))))) = some r:=H
      have A11:=Aside0.mk A110
      clear A110
      replace H:=Option.bind_eq_some_iff.mp H
      obtain ⟨t782,A120,H⟩:=H
      replace H : ((nat_Nat_Gcd.f k t779 t782).bind fun t787 => ((sacristylaw01_ref.f k (l0.take ((ji5) : Int).toNat)).bind fun t791 => ((sacristylaw01_ref.f k (l1.take ((ji8) : Int).toNat)).bind fun t794 => ((sacristyref01_Gcd.f k t791 t794).bind fun t797 => ((sacristylaw01_Same.f k t787 t797).bind fun t800 => (if t800 = true then ((nat_Nat_Zero.f t787).bind fun t801 => (if t801 = true then ((nat_Nat_Zero.f t779).bind fun t802 => (if t802 = true then ((nat_Nat_Zero.f t782).bind fun t803 => (some t803)) else (none))) else ((nat_Nat_Div.f k t779 t787).bind fun bt804 => ((nat_Nat_Div.f k t782 t787).bind fun bt813 => ((nat_Nat_Zero.f bt804.2.1).bind fun t822 => (if t822 = true then ((nat_Nat_Zero.f bt813.2.1).bind fun t823 => (some t823)) else (none))))))) else (none))))))) = some r:=H
      have A12:=Aside0.mk A120
      clear A120
      replace H:=Option.bind_eq_some_iff.mp H
      obtain ⟨t787,A130,H⟩:=H
      replace H : ((sacristylaw01_ref.f k (l0.take ((ji5) : Int).toNat)).bind fun t791 => ((sacristylaw01_ref.f k (l1.take ((ji8) : Int).toNat)).bind fun t794 => ((sacristyref01_Gcd.f k t791 t794).bind fun t797 => ((sacristylaw01_Same.f k t787 t797).bind fun t800 => (if t800 = true then ((nat_Nat_Zero.f t787).bind fun t801 => (if t801 = true then ((nat_Nat_Zero.f t779).bind fun t802 => (if t802 = true then ((nat_Nat_Zero.f t782).bind fun t803 => (some t803)) else (none))) else ((nat_Nat_Div.f k t779 t787).bind fun bt804 => ((nat_Nat_Div.f k t782 t787).bind fun bt813 => ((nat_Nat_Zero.f bt804.2.1).bind fun t822 => (if t822 = true then ((nat_Nat_Zero.f bt813.2.1).bind fun t823 => (some t823)) else (none))))))) else (none)))))) = some r:=H
      have A13:=Aside0.mk A130
      clear A130
      replace H:=Option.bind_eq_some_iff.mp H
      obtain ⟨t791,A140,H⟩:=H
      replace H : ((sacristylaw01_ref.f k (l1.take ((ji8) : Int).toNat)).bind fun t794 => ((sacristyref01_Gcd.f k t791 t794).bind fun t797 => ((sacristylaw01_Same.f k t787 t797).bind fun t800 => (if t800 = true then ((nat_Nat_Zero.f t787).bind fun t801 => (if t801 = true then ((nat_Nat_Zero.f t779).bind fun t802 => (if t802 = true then ((nat_Nat_Zero.f t782).bind fun t803 => (some t803)) else (none))) else ((nat_Nat_Div.f k t779 t787).bind fun bt804 => ((nat_Nat_Div.f k t782 t787).bind fun bt813 => ((nat_Nat_Zero.f bt804.2.1).bind fun t822 => (if t822 = true then ((nat_Nat_Zero.f bt813.2.1).bind fun t823 => (some t823)) else (none))))))) else (none))))) = some r:=H
      have A14:=Aside0.mk A140
      clear A140
      replace H:=Option.bind_eq_some_iff.mp H
      obtain ⟨t794,A150,H⟩:=H
      replace H : ((sacristyref01_Gcd.f k t791 t794).bind fun t797 => ((sacristylaw01_Same.f k t787 t797).bind fun t800 => (if t800 = true then ((nat_Nat_Zero.f t787).bind fun t801 => (if t801 = true then ((nat_Nat_Zero.f t779).bind fun t802 => (if t802 = true then ((nat_Nat_Zero.f t782).bind fun t803 => (some t803)) else (none))) else ((nat_Nat_Div.f k t779 t787).bind fun bt804 => ((nat_Nat_Div.f k t782 t787).bind fun bt813 => ((nat_Nat_Zero.f bt804.2.1).bind fun t822 => (if t822 = true then ((nat_Nat_Zero.f bt813.2.1).bind fun t823 => (some t823)) else (none))))))) else (none)))) = some r:=H
      have A15:=Aside0.mk A150
      clear A150
      replace H:=Option.bind_eq_some_iff.mp H
      obtain ⟨t797,A160,H⟩:=H
      replace H : ((sacristylaw01_Same.f k t787 t797).bind fun t800 => (if t800 = true then ((nat_Nat_Zero.f t787).bind fun t801 => (if t801 = true then ((nat_Nat_Zero.f t779).bind fun t802 => (if t802 = true then ((nat_Nat_Zero.f t782).bind fun t803 => (some t803)) else (none))) else ((nat_Nat_Div.f k t779 t787).bind fun bt804 => ((nat_Nat_Div.f k t782 t787).bind fun bt813 => ((nat_Nat_Zero.f bt804.2.1).bind fun t822 => (if t822 = true then ((nat_Nat_Zero.f bt813.2.1).bind fun t823 => (some t823)) else (none))))))) else (none))) = some r:=H
      have A16:=Aside0.mk A160
      clear A160
      replace H:=Option.bind_eq_some_iff.mp H
      obtain ⟨t800,A170,H⟩:=H
      replace H : (if t800 = true then ((nat_Nat_Zero.f t787).bind fun t801 => (if t801 = true then ((nat_Nat_Zero.f t779).bind fun t802 => (if t802 = true then ((nat_Nat_Zero.f t782).bind fun t803 => (some t803)) else (none))) else ((nat_Nat_Div.f k t779 t787).bind fun bt804 => ((nat_Nat_Div.f k t782 t787).bind fun bt813 => ((nat_Nat_Zero.f bt804.2.1).bind fun t822 => (if t822 = true then ((nat_Nat_Zero.f bt813.2.1).bind fun t823 => (some t823)) else (none))))))) else (none)) = some r:=H
      have A17:=Aside0.mk A170
      clear A170
      by_cases c18 : t800 = true
      ·subst c18
       have H1 : ((nat_Nat_Zero.f t787).bind fun t801 => (if t801 = true then ((nat_Nat_Zero.f t779).bind fun t802 => (if t802 = true then ((nat_Nat_Zero.f t782).bind fun t803 => (some t803)) else (none))) else ((nat_Nat_Div.f k t779 t787).bind fun bt804 => ((nat_Nat_Div.f k t782 t787).bind fun bt813 => ((nat_Nat_Zero.f bt804.2.1).bind fun t822 => (if t822 = true then ((nat_Nat_Zero.f bt813.2.1).bind fun t823 => (some t823)) else (none))))))) = some r:=by rw [if_pos rfl] at H;exact H
       clear H
       have H:=H1
       clear H1
       replace H:=Option.bind_eq_some_iff.mp H
       obtain ⟨t801,A190,H⟩:=H
       replace H : (if t801 = true then ((nat_Nat_Zero.f t779).bind fun t802 => (if t802 = true then ((nat_Nat_Zero.f t782).bind fun t803 => (some t803)) else (none))) else ((nat_Nat_Div.f k t779 t787).bind fun bt804 => ((nat_Nat_Div.f k t782 t787).bind fun bt813 => ((nat_Nat_Zero.f bt804.2.1).bind fun t822 => (if t822 = true then ((nat_Nat_Zero.f bt813.2.1).bind fun t823 => (some t823)) else (none)))))) = some r:=H
       have A19:=Aside0.mk A190
       clear A190
       by_cases c20 : t801 = true
       ·subst c20
        have H1 : ((nat_Nat_Zero.f t779).bind fun t802 => (if t802 = true then ((nat_Nat_Zero.f t782).bind fun t803 => (some t803)) else (none))) = some r:=by rw [if_pos rfl] at H;exact H
        clear H
        have H:=H1
        clear H1
        replace H:=Option.bind_eq_some_iff.mp H
        obtain ⟨t802,A210,H⟩:=H
        replace H : (if t802 = true then ((nat_Nat_Zero.f t782).bind fun t803 => (some t803)) else (none)) = some r:=H
        have A21:=Aside0.mk A210
        clear A210
        by_cases c22 : t802 = true
        ·subst c22
         have H1 : ((nat_Nat_Zero.f t782).bind fun t803 => (some t803)) = some r:=by rw [if_pos rfl] at H;exact H
         clear H
         have H:=H1
         clear H1
         replace H:=Option.bind_eq_some_iff.mp H
         obtain ⟨t803,A230,H⟩:=H
         replace H : (some t803) = some r:=H
         have A23:=Aside0.mk A230
         clear A230
         obtain rfl:=Option.some.inj H
         go_enter Try.func10,Try.ntmps10
         try go_wp2_with (first|((with_reducible refine gate_callee (f:=34) rfl ?_);refine goesL_ (some 14) rfl rfl Try.func34 (by kernel_rfl) rfl #[] rfl (by (try simp only [List.map_toArray,List.map_cons,List.map_nil]);first|done|rfl|(simp only [List.length_drop,List.length_take];rfl)) ?_;(with_reducible refine (sacristylaw01_lives.calls k  true _ A3.out).mono ?_);rintro e w24 ⟨rfl,hb⟩;refine ⟨_,rfl,?_⟩;have n0_:=Aside0.mk (below_step (by repeat (first|(with_reducible first|exact HB.out|apply below_alloc|apply pw_below_drewN|apply below_drew1)|exact HB.out)) hb);clear HB;have HB:=n0_;clear n0_;(try clear hb);(try clear hb2);(try clear hk);(try clear hi)))
         have n0_:=Aside0.mk (below_drew1 HB.out)
         clear HB
         have HB:=n0_
         clear n0_
         obtain ⟨i026,hi026,_,hsz26,_⟩:=info_parts info5
         obtain ⟨hcut26,hA26,hC26⟩:=print_take_of (P:=Try.prog) (Value.int .u8) 0 22 5 .i64 Try.underlying22 hi026 hsz26 A0 c0 l0 (ji5) (of_decide_eq_true (by first|(with_reducible assumption)|assumption)) (of_decide_eq_true (by first|(with_reducible assumption)|assumption)) HC0.out
         have HR777:=Aside0.mk (Kd.C_of_reads (h1:=fun _ => rfl) (hA26 _ (Kd.reads_of_C HR0.out)))
         have HC777:=Aside0.mk hC26
         clear hA26 hC26 hi026 hsz26
         obtain ⟨i027,hi027,_,hsz27,_⟩:=info_parts info5
         obtain ⟨hcut27,hA27,hC27⟩:=print_take_of (P:=Try.prog) (Value.int .u8) 0 22 5 .i64 Try.underlying22 hi027 hsz27 A1 c1 l1 (ji8) (of_decide_eq_true (by first|(with_reducible assumption)|assumption)) (of_decide_eq_true (by first|(with_reducible assumption)|assumption)) HC1.out
         have HR778:=Aside0.mk (Kd.C_of_reads (h1:=fun _ => rfl) (hA27 _ (Kd.reads_of_C HR1.out)))
         have HC778:=Aside0.mk hC27
         clear hA27 hC27 hi027 hsz27
         refine start_ (n:=12) (S:=fun w' => True) (ds:=[]) #[false,false,false,false,false,false,false,false,false,false,false,false] (by kernel_rfl) rfl rfl trivial (fun hHeld => ?_);refine with_tabW sacristylaw01_NatGcds.tab3 sacristylaw01_NatGcds.bits3 (fun HT_ HW_ => ?_)
         generalize w24.drew = w25 at HB HR777 HR778 hHeld ⊢
         refine pure_ (i:=0) (N:=some 16) (v:=?_) (a':=?_) #[true,false,false,false,false,false,false,false,false,false,false,false] rfl rfl (any_of HT_.out (by kernel_rfl)) (fun _ _ _ h => h) (Or.inl ⟨by rfl,?_⟩) ?_ ?_
         rotate_left
         ·intro w'
          go_simp
          with_reducible rfl
         rotate_left
         ·simp only [Act.put,List.setIfInBounds_toArray,List.set_cons_zero,List.set_cons_succ,i64_w,i32_w]
          rfl
         refine pure_ (i:=1) (N:=some 17) (v:=?_) (a':=?_) #[true,true,false,false,false,false,false,false,false,false,false,false] rfl rfl (any_of HT_.out (by kernel_rfl)) (fun _ _ _ h => h) (Or.inl ⟨by rfl,?_⟩) ?_ ?_
         rotate_left
         ·intro w'
          go_simp
          with_reducible rfl
         rotate_left
         ·simp only [Act.put,List.setIfInBounds_toArray,List.set_cons_zero,List.set_cons_succ,i64_w,i32_w]
          rfl
         refine pure_ (i:=2) (N:=some 18) (v:=?_) (a':=?_) #[true,true,true,false,false,false,false,false,false,false,false,false] rfl rfl (any_of HT_.out (by kernel_rfl)) (fun _ _ _ h => h) (Or.inl ⟨by rfl,?_⟩) ?_ ?_
         rotate_left
         ·intro w'
          go_simp
          with_reducible rfl
         rotate_left
         ·simp only [Act.put,List.setIfInBounds_toArray,List.set_cons_zero,List.set_cons_succ,i64_w,i32_w]
          rfl
         refine pure_ (i:=3) (N:=some 19) (v:=?_) (a':=?_) #[true,true,true,true,false,false,false,false,false,false,false,false] rfl rfl (any_of HT_.out (by kernel_rfl)) (fun _ _ _ h => h) (Or.inl ⟨by rfl,?_⟩) ?_ ?_
         rotate_left
         ·intro w'
          go_simp
          with_reducible rfl
         rotate_left
         ·simp only [Act.put,List.setIfInBounds_toArray,List.set_cons_zero,List.set_cons_succ,i64_w,i32_w]
          rfl
         refine pure_ (i:=4) (N:=some 20) (v:=?_) (a':=?_) #[true,true,true,true,true,false,false,false,false,false,false,false] rfl rfl (any_of HT_.out (by kernel_rfl)) (fun _ _ _ h => h) (Or.inl ⟨by rfl,?_⟩) ?_ ?_
         rotate_left
         ·intro w'
          go_simp
          with_reducible rfl
         rotate_left
         ·simp only [Act.put,List.setIfInBounds_toArray,List.set_cons_zero,List.set_cons_succ,i64_w,i32_w]
          rfl
         refine pure_ (i:=5) (N:=some 21) (v:=?_) (a':=?_) #[true,true,true,true,true,true,false,false,false,false,false,false] rfl rfl (any_of HT_.out (by kernel_rfl)) (fun _ _ _ h => h) (Or.inl ⟨by rfl,?_⟩) ?_ ?_
         rotate_left
         ·intro w'
          go_simp
          with_reducible rfl
         rotate_left
         ·simp only [Act.put,List.setIfInBounds_toArray,List.set_cons_zero,List.set_cons_succ,i64_w,i32_w]
          rfl
         refine pure_ (i:=6) (N:=some 22) (v:=?_) (a':=?_) #[true,true,true,true,true,true,true,false,false,false,false,false] rfl rfl (any_of HT_.out (by kernel_rfl)) (fun _ _ _ h => h) (Or.inl ⟨by rfl,?_⟩) ?_ ?_
         rotate_left
         ·intro w'
          go_simp
          with_reducible rfl
         rotate_left
         ·simp only [Act.put,List.setIfInBounds_toArray,List.set_cons_zero,List.set_cons_succ,i64_w,i32_w]
          rfl
         refine pure_ (i:=7) (N:=some 23) (v:=?_) (a':=?_) #[true,true,true,true,true,true,true,true,false,false,false,false] rfl rfl (any_of HT_.out (by kernel_rfl)) (fun _ _ _ h => h) (Or.inl ⟨by rfl,?_⟩) ?_ ?_
         rotate_left
         ·intro w'
          go_simp
          with_reducible rfl
         rotate_left
         ·simp only [Act.put,List.setIfInBounds_toArray,List.set_cons_zero,List.set_cons_succ,i64_w,i32_w]
          rfl
         refine pure_ (i:=8) (N:=some 24) (v:=?_) (a':=?_) #[true,true,true,true,true,true,true,true,true,false,false,false] rfl rfl (any_of HT_.out (by kernel_rfl)) (fun _ _ _ h => h) (Or.inl ⟨by rfl,?_⟩) ?_ ?_
         rotate_left
         ·intro w'
          go_simp
          with_reducible rfl
         rotate_left
         ·simp only [Act.put,List.setIfInBounds_toArray,List.set_cons_zero,List.set_cons_succ,i64_w,i32_w]
          rfl
         refine pure_ (i:=9) (N:=some 25) (v:=?_) (a':=?_) #[true,true,true,true,true,true,true,true,true,true,false,false] rfl rfl (any_of HT_.out (by kernel_rfl)) (fun _ _ _ h => h) (Or.inl ⟨by rfl,?_⟩) ?_ ?_
         rotate_left
         ·intro w'
          go_simp
          with_reducible rfl
         rotate_left
         ·simp only [Act.put,List.setIfInBounds_toArray,List.set_cons_zero,List.set_cons_succ,i64_w,i32_w]
          rfl
         refine pure_ (i:=10) (N:=some 0) (v:=?_) (a':=?_) #[true,true,true,true,true,true,true,true,true,true,true,false] rfl rfl (any_of HT_.out (by kernel_rfl)) (fun _ _ _ h => h) (Or.inl ⟨by rfl,?_⟩) ?_ ?_
         rotate_left
         ·intro w'
          go_simp
          with_reducible rfl
         rotate_left
         ·simp only [Act.put,List.setIfInBounds_toArray,List.set_cons_zero,List.set_cons_succ,i64_w,i32_w]
          rfl
         refine pure_ (i:=11) (N:=some 1) (v:=?_) (a':=?_) #[true,true,true,true,true,true,true,true,true,true,true,true] rfl rfl (any_of HT_.out (by kernel_rfl)) (fun _ _ _ h => h) (Or.inl ⟨by rfl,?_⟩) ?_ ?_
         rotate_left
         ·intro w'
          go_simp
          with_reducible rfl
         rotate_left
         ·simp only [Act.put,List.setIfInBounds_toArray,List.set_cons_zero,List.set_cons_succ,i64_w,i32_w]
          rfl
         refine done_ (done_of HT_.out (by kernel_rfl)) ?_
         try go_wp2_with (first|((with_reducible refine gate_callee (f:=40) rfl ?_);refine goesL_ (some 27) rfl rfl Try.func40 (by kernel_rfl) rfl #[.slice A0 (l0.take ((ji5) : Int).toNat).length c0] rfl (by (try simp only [List.map_toArray,List.map_cons,List.map_nil]);first|done|(rw [show (l0.take ((ji5) : Int).toNat).length = (ji5).toNat from (by rw [List.length_take];have h_ : ((ji5) : Int) ≤ (l0.length : Int):=of_decide_eq_true (by first|(with_reducible assumption)|assumption);omega)] <;> rfl)|(simp only [hji5];rfl)|rfl|(simp only [List.length_drop,List.length_take];rfl)) ?_;(with_reducible refine (sacristylaw01_Num.calls k _ _ (l0.take ((ji5) : Int).toNat) t779 _ ?side1 ?side2 A11.out).mono ?_);(case side1 => repeat (first|exact (Kd.C_below HR777.out HB.out)|(with_reducible refine Kd.C_alloc ?_ _)|(with_reducible refine Kd.C_drewN ?_ _)|(with_reducible refine Kd.C_drew ?_)));(case side2 => exact HC777.out);rintro e w28 ⟨v780,rfl,ho0,hb⟩;refine ⟨_,rfl,?_⟩;have n0_:=Aside0.mk (Kd.V_lower (Kd.V_mono (ok':=fun k_ => True) ho0 (fun k_ hk_ => trivial)) (below_size (by repeat (first|(with_reducible first|exact HB.out|apply below_alloc|apply pw_below_drewN|apply below_drew1)|exact HB.out))));have n1_:=Aside0.mk (below_step (by repeat (first|(with_reducible first|exact HB.out|apply below_alloc|apply pw_below_drewN|apply below_drew1)|exact HB.out)) hb);clear HB;have HO781:=n0_;have HB:=n1_;clear n0_ n1_;(try clear hb);(try clear hb2);(try clear hk);(try clear hi);(try clear ho0))|((with_reducible refine gate_callee (f:=40) rfl ?_);refine goesL_ (some 29) rfl rfl Try.func40 (by kernel_rfl) rfl #[.slice A1 (l1.take ((ji8) : Int).toNat).length c1] rfl (by (try simp only [List.map_toArray,List.map_cons,List.map_nil]);first|done|(rw [show (l1.take ((ji8) : Int).toNat).length = (ji8).toNat from (by rw [List.length_take];have h_ : ((ji8) : Int) ≤ (l1.length : Int):=of_decide_eq_true (by first|(with_reducible assumption)|assumption);omega)] <;> rfl)|(simp only [hji8];rfl)|rfl|(simp only [List.length_drop,List.length_take];rfl)) ?_;(with_reducible refine (sacristylaw01_Num.calls k _ _ (l1.take ((ji8) : Int).toNat) t782 _ ?side1 ?side2 A12.out).mono ?_);(case side1 => repeat (first|exact (Kd.C_below HR778.out HB.out)|(with_reducible refine Kd.C_alloc ?_ _)|(with_reducible refine Kd.C_drewN ?_ _)|(with_reducible refine Kd.C_drew ?_)));(case side2 => exact HC778.out);rintro e w29 ⟨v783,rfl,ho0,hb⟩;refine ⟨_,rfl,?_⟩;have n0_:=Aside0.mk (Kd.V_below (by (with_reducible repeat (first|apply Kd.V_alloc|apply Kd.V_drewN|apply Kd.V_drew));exact HO781.out) hb);have n1_:=Aside0.mk (Kd.V_lower (Kd.V_mono (ok':=fun k_ => True) ho0 (fun k_ hk_ => trivial)) (below_size (by repeat (first|(with_reducible first|exact HB.out|apply below_alloc|apply pw_below_drewN|apply below_drew1)|exact HB.out))));have n2_:=Aside0.mk (below_step (by repeat (first|(with_reducible first|exact HB.out|apply below_alloc|apply pw_below_drewN|apply below_drew1)|exact HB.out)) hb);clear HO781;clear HB;have HO781:=n0_;have HO784:=n1_;have HB:=n2_;clear n0_ n1_ n2_;(try clear hb);(try clear hb2);(try clear hk);(try clear hi);(try clear ho0))|((with_reducible refine gate_dst (N:=5) rfl ?_);refine box_event ?hg (N:=5) ?hd (cs:=#[.slice none 0 0]) (t:=38) ?hr ?_;(case hd => rfl);(case hg => rfl);(case hr => first|(go_simp;done)|(go_simp;rfl));intro gb785 hg w30 hbox hb;have n0_:=Aside0.mk (Kd.V_below (Kd.V_elderB (by (with_reducible repeat (first|apply Kd.V_alloc|apply Kd.V_drewN|apply Kd.V_drew));exact HO781.out) gb785 (Nat.le_of_eq hg.symm)) hb);have n1_:=Aside0.mk (Kd.V_below (Kd.V_elderB (by (with_reducible repeat (first|apply Kd.V_alloc|apply Kd.V_drewN|apply Kd.V_drew));exact HO784.out) gb785 (Nat.le_of_eq hg.symm)) hb);have n2_:=Aside0.mk (below_step (by repeat (first|(with_reducible first|exact HB.out|apply below_alloc|apply pw_below_drewN|apply below_drew1)|exact HB.out)) hb);have n3_:=Aside0.mk (hbox);have n4_:=Aside0.mk ((by rw [hg];exact (below_size (by repeat (first|(with_reducible first|exact HB.out|apply below_alloc|apply pw_below_drewN|apply below_drew1)|exact HB.out))) : w.heap.size ≤ gb785));have n5_:=Aside0.mk ((by rw [hg];exact (below_size (by repeat (first|(with_reducible first|exact HB.out|apply below_alloc|apply pw_below_drewN|apply below_drew1)|exact HB.out))) : w.heap.size ≤ gb785));clear HO781;clear HO784;clear HB;have HO781:=n0_;have HO784:=n1_;have HB:=n2_;have BK785:=n3_;have GW785:=n4_;have GE785:=n5_;clear n0_ n1_ n2_ n3_ n4_ n5_;clear hb hbox hg)|((with_reducible refine gate_dst (N:=6) rfl ?_);refine box_event ?hg (N:=6) ?hd (cs:=#[.slice none 0 0]) (t:=38) ?hr ?_;(case hd => rfl);(case hg => rfl);(case hr => first|(go_simp;done)|(go_simp;rfl));intro gb786 hg w31 hbox hb;have n0_:=Aside0.mk (Kd.V_below (Kd.V_elderB (by (with_reducible repeat (first|apply Kd.V_alloc|apply Kd.V_drewN|apply Kd.V_drew));exact HO781.out) gb786 (Nat.le_of_eq hg.symm)) hb);have n1_:=Aside0.mk (Kd.V_below (Kd.V_elderB (by (with_reducible repeat (first|apply Kd.V_alloc|apply Kd.V_drewN|apply Kd.V_drew));exact HO784.out) gb786 (Nat.le_of_eq hg.symm)) hb);have n2_:=Aside0.mk (blk_below (g:=gb785) (o:=.cells #[.slice none 0 0] 38 (0,0)) (by (with_reducible repeat (first|refine blk_drewN ?_ _|refine blk_drew ?_|refine blk_alloc ?_ _));exact BK785.out) hb);have n3_:=Aside0.mk (below_step (by repeat (first|(with_reducible first|exact HB.out|apply below_alloc|apply pw_below_drewN|apply below_drew1|refine below_set ?_ GE785.out)|exact HB.out)) hb);have n4_:=Aside0.mk (hbox);have n5_:=Aside0.mk ((by rw [hg];exact (below_size (by repeat (first|(with_reducible first|exact HB.out|apply below_alloc|apply pw_below_drewN|apply below_drew1|refine below_set ?_ GE785.out)|exact HB.out))) : w.heap.size ≤ gb786));have n6_:=Aside0.mk ((by rw [hg];exact (below_size (by repeat (first|(with_reducible first|exact HB.out|apply below_alloc|apply pw_below_drewN|apply below_drew1|refine below_set ?_ GE785.out)|exact HB.out))) : w.heap.size ≤ gb786));have n7_:=Aside0.mk ((by rw [hg];exact Nat.ne_of_lt (blk_lt (g:=gb785) (o:=.cells #[.slice none 0 0] 38 (0,0)) (by (with_reducible repeat (first|refine blk_drewN ?_ _|refine blk_drew ?_|refine blk_alloc ?_ _));exact BK785.out)) : gb785 ≠ gb786));have n8_:=Aside0.mk ((by rw [hg];exact Nat.ne_of_gt (blk_lt (g:=gb785) (o:=.cells #[.slice none 0 0] 38 (0,0)) (by (with_reducible repeat (first|refine blk_drewN ?_ _|refine blk_drew ?_|refine blk_alloc ?_ _));exact BK785.out)) : gb786 ≠ gb785));clear HO781;clear HO784;clear BK785;clear HB;have HO781:=n0_;have HO784:=n1_;have BK785:=n2_;have HB:=n3_;have BK786:=n4_;have GW786:=n5_;have GE786:=n6_;have NB785_786:=n7_;have NB786_785:=n8_;clear n0_ n1_ n2_ n3_ n4_ n5_ n6_ n7_ n8_;clear hb hbox hg;obtain ⟨Ao32,co32,eo32⟩:=Kd.V_slice HO781.out;subst eo32;have hnb33:=NB785_786.out;have hnc33:=NB786_785.out;have hcz34_0 : w31.cell? ⟨gb785,0,none⟩ = some (.slice none 0 0):=(blk_cell BK785.out 0).trans rfl;have hfz34_0:=blk_frozen BK785.out 0)|((with_reducible refine gate_store (t:=38) (p:=5) rfl ?_);refine store_event (t:=38) (p:=5) (v:=?vo_w35) (w1:=(w31.setCell ⟨gb785,0,none⟩ (.slice Ao32 t779.length co32))) ?hg ?ho ?hn ?hr ?_;(case ho => rfl);(case hg => rfl);(case hn => rfl);(case hr => first|(go_simp;done)|(go_simp;rfl));intro w35 hw;have n0_ : Aside0 (Kd.V (Kd.int .u32) 23 w35 w.heap.size (fun k_ => k_ ≠ gb785 ∧ k_ ≠ gb786) (.slice Ao32 t779.length co32) t779):=⟨(by rw [hw];exact (by (with_reducible repeat (first|apply Kd.V_alloc|apply Kd.V_drewN|apply Kd.V_drew));exact Kd.V_mono (Kd.V_far (p:=⟨gb785,0,none⟩) (Kd.V_mono HO781.out (fun k_ hk => (⟨hk,hk.1.2⟩ : _ ∧ k_ ≠ gb785))) (fun _ hk => hk.2) (.slice Ao32 t779.length co32)) (fun _ hk => ⟨hk.1.1.2,hk.1.2⟩)))⟩;have n1_ : Aside0 (Kd.V (Kd.int .u32) 23 w35 w.heap.size (fun k_ => k_ ≠ gb785 ∧ k_ ≠ gb786) v783 t782):=⟨(by rw [hw];exact (by (with_reducible repeat (first|apply Kd.V_alloc|apply Kd.V_drewN|apply Kd.V_drew));exact Kd.V_mono (Kd.V_far (p:=⟨gb785,0,none⟩) (Kd.V_mono HO784.out (fun k_ hk => (⟨hk,hk.1.2⟩ : _ ∧ k_ ≠ gb785))) (fun _ hk => hk.2) (.slice Ao32 t779.length co32)) (fun _ hk => ⟨hk.1.1.2,hk.1.2⟩)))⟩;have n2_ : Aside0 (w35.heap[gb785]? = some (.cells #[.slice Ao32 t779.length co32] 38 (0,0))):=⟨(by rw [hw];exact (by (with_reducible repeat (first|refine blk_drewN ?_ _|refine blk_drew ?_|refine blk_alloc ?_ _));refine blk_put (cs:=#[.slice none 0 0]) ?_ 0 _ rfl;(with_reducible repeat (first|refine blk_drewN ?_ _|refine blk_drew ?_|refine blk_alloc ?_ _));exact BK785.out))⟩;have n3_ : Aside0 (w35.heap[gb786]? = some (.cells #[.slice none 0 0] 38 (0,0))):=⟨(by rw [hw];exact (by (with_reducible repeat (first|refine blk_drewN ?_ _|refine blk_drew ?_|refine blk_alloc ?_ _));refine blk_far ?_ NB786_785.out _;(with_reducible repeat (first|refine blk_drewN ?_ _|refine blk_drew ?_|refine blk_alloc ?_ _));exact BK786.out))⟩;have n4_ : Aside0 (Below w.heap.size w w35):=⟨(by rw [hw];exact (by repeat (first|(with_reducible first|exact HB.out|apply below_alloc|apply pw_below_drewN|apply below_drew1|refine below_set ?_ GE785.out|refine below_set ?_ GE786.out)|exact HB.out)))⟩;clear hw;clear HO781;clear HO784;clear BK785;clear BK786;clear HB;have HO781:=n0_;have HO784:=n1_;have BK785:=n2_;have BK786:=n3_;have HB:=n4_;clear n0_ n1_ n2_ n3_ n4_;obtain ⟨Ao36,co36,eo36⟩:=Kd.V_slice HO784.out;subst eo36;have hcz37_0 : w35.cell? ⟨gb786,0,none⟩ = some (.slice none 0 0):=(blk_cell BK786.out 0).trans rfl;have hfz37_0:=blk_frozen BK786.out 0)|((with_reducible refine gate_store (t:=38) (p:=6) rfl ?_);refine store_event (t:=38) (p:=6) (v:=?vo_w38) (w1:=(w35.setCell ⟨gb786,0,none⟩ (.slice Ao36 t782.length co36))) ?hg ?ho ?hn ?hr ?_;(case ho => rfl);(case hg => rfl);(case hn => rfl);(case hr => first|(go_simp;done)|(go_simp;rfl));intro w38 hw;have n0_ : Aside0 (Kd.V (Kd.int .u32) 23 w38 w.heap.size (fun k_ => k_ ≠ gb785 ∧ k_ ≠ gb786) (.slice Ao32 t779.length co32) t779):=⟨(by rw [hw];exact (by (with_reducible repeat (first|apply Kd.V_alloc|apply Kd.V_drewN|apply Kd.V_drew));exact Kd.V_mono (Kd.V_far (p:=⟨gb786,0,none⟩) (Kd.V_mono HO781.out (fun k_ hk => (⟨hk,hk.2⟩ : _ ∧ k_ ≠ gb786))) (fun _ hk => hk.2) (.slice Ao36 t782.length co36)) (fun _ hk => ⟨hk.1.1,hk.1.2⟩)))⟩;have n1_ : Aside0 (Kd.V (Kd.int .u32) 23 w38 w.heap.size (fun k_ => k_ ≠ gb785 ∧ k_ ≠ gb786) (.slice Ao36 t782.length co36) t782):=⟨(by rw [hw];exact (by (with_reducible repeat (first|apply Kd.V_alloc|apply Kd.V_drewN|apply Kd.V_drew));exact Kd.V_mono (Kd.V_far (p:=⟨gb786,0,none⟩) (Kd.V_mono HO784.out (fun k_ hk => (⟨hk,hk.2⟩ : _ ∧ k_ ≠ gb786))) (fun _ hk => hk.2) (.slice Ao36 t782.length co36)) (fun _ hk => ⟨hk.1.1,hk.1.2⟩)))⟩;have n2_ : Aside0 (w38.heap[gb785]? = some (.cells #[.slice Ao32 t779.length co32] 38 (0,0))):=⟨(by rw [hw];exact (by (with_reducible repeat (first|refine blk_drewN ?_ _|refine blk_drew ?_|refine blk_alloc ?_ _));refine blk_far ?_ NB785_786.out _;(with_reducible repeat (first|refine blk_drewN ?_ _|refine blk_drew ?_|refine blk_alloc ?_ _));exact BK785.out))⟩;have n3_ : Aside0 (w38.heap[gb786]? = some (.cells #[.slice Ao36 t782.length co36] 38 (0,0))):=⟨(by rw [hw];exact (by (with_reducible repeat (first|refine blk_drewN ?_ _|refine blk_drew ?_|refine blk_alloc ?_ _));refine blk_put (cs:=#[.slice none 0 0]) ?_ 0 _ rfl;(with_reducible repeat (first|refine blk_drewN ?_ _|refine blk_drew ?_|refine blk_alloc ?_ _));exact BK786.out))⟩;have n4_ : Aside0 (Below w.heap.size w w38):=⟨(by rw [hw];exact (by repeat (first|(with_reducible first|exact HB.out|apply below_alloc|apply pw_below_drewN|apply below_drew1|refine below_set ?_ GE785.out|refine below_set ?_ GE786.out)|exact HB.out)))⟩;clear hw;clear HO781;clear HO784;clear BK785;clear BK786;clear HB;have HO781:=n0_;have HO784:=n1_;have BK785:=n2_;have BK786:=n3_;have HB:=n4_;clear n0_ n1_ n2_ n3_ n4_;have hcz39_0 : w38.cell? ⟨gb785,0,none⟩ = some (.slice Ao32 t779.length co32):=(blk_cell BK785.out 0).trans rfl;have hfz39_0:=blk_frozen BK785.out 0;have hcz40_0 : w38.cell? ⟨gb786,0,none⟩ = some (.slice Ao36 t782.length co36):=(blk_cell BK786.out 0).trans rfl;have hfz40_0:=blk_frozen BK786.out 0)|((with_reducible refine gate_callee (f:=51) rfl ?_);refine goesL_ (some 32) rfl rfl Try.func51 (by kernel_rfl) rfl #[.agg #[.slice Ao32 t779.length co32],.agg #[.slice Ao36 t782.length co36]] rfl (by (try simp only [List.map_toArray,List.map_cons,List.map_nil]);first|done|rfl|(simp only [List.length_drop,List.length_take];rfl)) ?_;(with_reducible refine (nat_Nat_Gcd.calls k (fun k_ => (k_ ≠ gb785 ∧ k_ ≠ gb786)) _ _ t779 (fun k_ => (k_ ≠ gb785 ∧ k_ ≠ gb786)) _ _ t782 t787 _ ?side1 ?side2 A13.out).mono ?_);(case side1 => exact HO781.out);(case side2 => exact HO784.out);rintro e w41 ⟨v788,rfl,ho0,hb⟩;refine ⟨_,rfl,?_⟩;have n0_:=Aside0.mk (Kd.V_below (by (with_reducible repeat (first|apply Kd.V_alloc|apply Kd.V_drewN|apply Kd.V_drew));exact HO781.out) hb);have n1_:=Aside0.mk (Kd.V_below (by (with_reducible repeat (first|apply Kd.V_alloc|apply Kd.V_drewN|apply Kd.V_drew));exact HO784.out) hb);have n2_:=Aside0.mk (Kd.V_lower (Kd.V_mono (ok':=fun k_ => k_ ≠ gb785 ∧ k_ ≠ gb786) ho0 (fun k_ hk_ => ⟨Or.elim hk_ (fun hs_ => Or.elim hs_ (fun hs_ => hs_.1) (fun hs_ => hs_.1)) (fun hn_ => (Kd.freshB (g:=gb785) (o:=.cells #[.slice Ao32 t779.length co32] 38 (0,0)) (by (with_reducible repeat (first|refine blk_drewN ?_ _|refine blk_drew ?_|refine blk_alloc ?_ _));exact BK785.out) k_ hn_)),Or.elim hk_ (fun hs_ => Or.elim hs_ (fun hs_ => hs_.2) (fun hs_ => hs_.2)) (fun hn_ => (Kd.freshB (g:=gb786) (o:=.cells #[.slice Ao36 t782.length co36] 38 (0,0)) (by (with_reducible repeat (first|refine blk_drewN ?_ _|refine blk_drew ?_|refine blk_alloc ?_ _));exact BK786.out) k_ hn_))⟩)) (below_size (by repeat (first|(with_reducible first|exact HB.out|apply below_alloc|apply pw_below_drewN|apply below_drew1|refine below_set ?_ GE785.out|refine below_set ?_ GE786.out)|exact HB.out))));have n3_:=Aside0.mk (blk_below (g:=gb785) (o:=.cells #[.slice Ao32 t779.length co32] 38 (0,0)) (by (with_reducible repeat (first|refine blk_drewN ?_ _|refine blk_drew ?_|refine blk_alloc ?_ _));exact BK785.out) hb);have n4_:=Aside0.mk (blk_below (g:=gb786) (o:=.cells #[.slice Ao36 t782.length co36] 38 (0,0)) (by (with_reducible repeat (first|refine blk_drewN ?_ _|refine blk_drew ?_|refine blk_alloc ?_ _));exact BK786.out) hb);have n5_:=Aside0.mk (below_step (by repeat (first|(with_reducible first|exact HB.out|apply below_alloc|apply pw_below_drewN|apply below_drew1|refine below_set ?_ GE785.out|refine below_set ?_ GE786.out)|exact HB.out)) hb);clear HO781;clear HO784;clear BK785;clear BK786;clear HB;have HO781:=n0_;have HO784:=n1_;have HO789:=n2_;have BK785:=n3_;have BK786:=n4_;have HB:=n5_;clear n0_ n1_ n2_ n3_ n4_ n5_;(try clear hb);(try clear hb2);(try clear hk);(try clear hi);(try clear ho0))|((with_reducible refine gate_dst (N:=7) rfl ?_);refine box_event ?hg (N:=7) ?hd (cs:=#[.slice none 0 0]) (t:=38) ?hr ?_;(case hd => rfl);(case hg => rfl);(case hr => first|(go_simp;done)|(go_simp;rfl));intro gb790 hg w42 hbox hb;have n0_:=Aside0.mk (Kd.V_below (Kd.V_elderB (by (with_reducible repeat (first|apply Kd.V_alloc|apply Kd.V_drewN|apply Kd.V_drew));exact HO781.out) gb790 (Nat.le_of_eq hg.symm)) hb);have n1_:=Aside0.mk (Kd.V_below (Kd.V_elderB (by (with_reducible repeat (first|apply Kd.V_alloc|apply Kd.V_drewN|apply Kd.V_drew));exact HO784.out) gb790 (Nat.le_of_eq hg.symm)) hb);have n2_:=Aside0.mk (Kd.V_below (Kd.V_elderB (by (with_reducible repeat (first|apply Kd.V_alloc|apply Kd.V_drewN|apply Kd.V_drew));exact HO789.out) gb790 (Nat.le_of_eq hg.symm)) hb);have n3_:=Aside0.mk (blk_below (g:=gb785) (o:=.cells #[.slice Ao32 t779.length co32] 38 (0,0)) (by (with_reducible repeat (first|refine blk_drewN ?_ _|refine blk_drew ?_|refine blk_alloc ?_ _));exact BK785.out) hb);have n4_:=Aside0.mk (blk_below (g:=gb786) (o:=.cells #[.slice Ao36 t782.length co36] 38 (0,0)) (by (with_reducible repeat (first|refine blk_drewN ?_ _|refine blk_drew ?_|refine blk_alloc ?_ _));exact BK786.out) hb);have n5_:=Aside0.mk (below_step (by repeat (first|(with_reducible first|exact HB.out|apply below_alloc|apply pw_below_drewN|apply below_drew1|refine below_set ?_ GE785.out|refine below_set ?_ GE786.out)|exact HB.out)) hb);have n6_:=Aside0.mk (hbox);have n7_:=Aside0.mk ((by rw [hg];exact (below_size (by repeat (first|(with_reducible first|exact HB.out|apply below_alloc|apply pw_below_drewN|apply below_drew1|refine below_set ?_ GE785.out|refine below_set ?_ GE786.out)|exact HB.out))) : w.heap.size ≤ gb790));have n8_:=Aside0.mk ((by rw [hg];exact (below_size (by repeat (first|(with_reducible first|exact HB.out|apply below_alloc|apply pw_below_drewN|apply below_drew1|refine below_set ?_ GE785.out|refine below_set ?_ GE786.out)|exact HB.out))) : w.heap.size ≤ gb790));have n9_:=Aside0.mk ((by rw [hg];exact Nat.ne_of_lt (blk_lt (g:=gb785) (o:=.cells #[.slice Ao32 t779.length co32] 38 (0,0)) (by (with_reducible repeat (first|refine blk_drewN ?_ _|refine blk_drew ?_|refine blk_alloc ?_ _));exact BK785.out)) : gb785 ≠ gb790));have n10_:=Aside0.mk ((by rw [hg];exact Nat.ne_of_gt (blk_lt (g:=gb785) (o:=.cells #[.slice Ao32 t779.length co32] 38 (0,0)) (by (with_reducible repeat (first|refine blk_drewN ?_ _|refine blk_drew ?_|refine blk_alloc ?_ _));exact BK785.out)) : gb790 ≠ gb785));have n11_:=Aside0.mk ((by rw [hg];exact Nat.ne_of_lt (blk_lt (g:=gb786) (o:=.cells #[.slice Ao36 t782.length co36] 38 (0,0)) (by (with_reducible repeat (first|refine blk_drewN ?_ _|refine blk_drew ?_|refine blk_alloc ?_ _));exact BK786.out)) : gb786 ≠ gb790));have n12_:=Aside0.mk ((by rw [hg];exact Nat.ne_of_gt (blk_lt (g:=gb786) (o:=.cells #[.slice Ao36 t782.length co36] 38 (0,0)) (by (with_reducible repeat (first|refine blk_drewN ?_ _|refine blk_drew ?_|refine blk_alloc ?_ _));exact BK786.out)) : gb790 ≠ gb786));clear HO781;clear HO784;clear HO789;clear BK785;clear BK786;clear HB;have HO781:=n0_;have HO784:=n1_;have HO789:=n2_;have BK785:=n3_;have BK786:=n4_;have HB:=n5_;have BK790:=n6_;have GW790:=n7_;have GE790:=n8_;have NB785_790:=n9_;have NB790_785:=n10_;have NB786_790:=n11_;have NB790_786:=n12_;clear n0_ n1_ n2_ n3_ n4_ n5_ n6_ n7_ n8_ n9_ n10_ n11_ n12_;clear hb hbox hg;obtain ⟨Ao43,co43,eo43⟩:=Kd.V_slice HO789.out;subst eo43;have hnb44:=NB790_785.out;have hnc44:=NB785_790.out;have hnb45:=NB790_786.out;have hnc45:=NB786_790.out;have hcz46_0 : w42.cell? ⟨gb790,0,none⟩ = some (.slice none 0 0):=(blk_cell BK790.out 0).trans rfl;have hfz46_0:=blk_frozen BK790.out 0))
         have n0_ : Aside0 (Kd.V (Kd.int .u32) 23 (w42.setCell ⟨gb790,0,none⟩ (.slice Ao43 t787.length co43)) w.heap.size (fun k_ => k_ ≠ gb785 ∧ k_ ≠ gb786 ∧ k_ ≠ gb790) (.slice Ao32 t779.length co32) t779):=⟨by (with_reducible repeat (first|apply Kd.V_alloc|apply Kd.V_drewN|apply Kd.V_drew));exact Kd.V_mono (Kd.V_far (p:=⟨gb790,0,none⟩) (Kd.V_mono HO781.out (fun k_ hk => (⟨hk,hk.2⟩ : _ ∧ k_ ≠ gb790))) (fun _ hk => hk.2) (.slice Ao43 t787.length co43)) (fun _ hk => ⟨hk.1.1.1,⟨hk.1.1.2,hk.1.2⟩⟩)⟩
         have n1_ : Aside0 (Kd.V (Kd.int .u32) 23 (w42.setCell ⟨gb790,0,none⟩ (.slice Ao43 t787.length co43)) w.heap.size (fun k_ => k_ ≠ gb785 ∧ k_ ≠ gb786 ∧ k_ ≠ gb790) (.slice Ao36 t782.length co36) t782):=⟨by (with_reducible repeat (first|apply Kd.V_alloc|apply Kd.V_drewN|apply Kd.V_drew));exact Kd.V_mono (Kd.V_far (p:=⟨gb790,0,none⟩) (Kd.V_mono HO784.out (fun k_ hk => (⟨hk,hk.2⟩ : _ ∧ k_ ≠ gb790))) (fun _ hk => hk.2) (.slice Ao43 t787.length co43)) (fun _ hk => ⟨hk.1.1.1,⟨hk.1.1.2,hk.1.2⟩⟩)⟩
         have n2_ : Aside0 (Kd.V (Kd.int .u32) 23 (w42.setCell ⟨gb790,0,none⟩ (.slice Ao43 t787.length co43)) w.heap.size (fun k_ => k_ ≠ gb785 ∧ k_ ≠ gb786 ∧ k_ ≠ gb790) (.slice Ao43 t787.length co43) t787):=⟨by (with_reducible repeat (first|apply Kd.V_alloc|apply Kd.V_drewN|apply Kd.V_drew));exact Kd.V_mono (Kd.V_far (p:=⟨gb790,0,none⟩) (Kd.V_mono HO789.out (fun k_ hk => (⟨hk,hk.2⟩ : _ ∧ k_ ≠ gb790))) (fun _ hk => hk.2) (.slice Ao43 t787.length co43)) (fun _ hk => ⟨hk.1.1.1,⟨hk.1.1.2,hk.1.2⟩⟩)⟩
         have n3_ : Aside0 ((w42.setCell ⟨gb790,0,none⟩ (.slice Ao43 t787.length co43)).heap[gb785]? = some (.cells #[.slice Ao32 t779.length co32] 38 (0,0))):=⟨by (with_reducible repeat (first|refine blk_drewN ?_ _|refine blk_drew ?_|refine blk_alloc ?_ _));refine blk_far ?_ NB785_790.out _;(with_reducible repeat (first|refine blk_drewN ?_ _|refine blk_drew ?_|refine blk_alloc ?_ _));exact BK785.out⟩
         have n4_ : Aside0 ((w42.setCell ⟨gb790,0,none⟩ (.slice Ao43 t787.length co43)).heap[gb786]? = some (.cells #[.slice Ao36 t782.length co36] 38 (0,0))):=⟨by (with_reducible repeat (first|refine blk_drewN ?_ _|refine blk_drew ?_|refine blk_alloc ?_ _));refine blk_far ?_ NB786_790.out _;(with_reducible repeat (first|refine blk_drewN ?_ _|refine blk_drew ?_|refine blk_alloc ?_ _));exact BK786.out⟩
         have n5_ : Aside0 ((w42.setCell ⟨gb790,0,none⟩ (.slice Ao43 t787.length co43)).heap[gb790]? = some (.cells #[.slice Ao43 t787.length co43] 38 (0,0))):=⟨by (with_reducible repeat (first|refine blk_drewN ?_ _|refine blk_drew ?_|refine blk_alloc ?_ _));refine blk_put (cs:=#[.slice none 0 0]) ?_ 0 _ rfl;(with_reducible repeat (first|refine blk_drewN ?_ _|refine blk_drew ?_|refine blk_alloc ?_ _));exact BK790.out⟩
         have n6_ : Aside0 (Below w.heap.size w (w42.setCell ⟨gb790,0,none⟩ (.slice Ao43 t787.length co43))):=⟨by repeat (first|(with_reducible first|exact HB.out|apply below_alloc|apply pw_below_drewN|apply below_drew1|refine below_set ?_ GE785.out|refine below_set ?_ GE786.out|refine below_set ?_ GE790.out)|exact HB.out)⟩
         (try clear HO781)
         (try clear HO784)
         (try clear HO789)
         (try clear BK785)
         (try clear BK786)
         (try clear BK790)
         (try clear HB)
         generalize (w42.setCell ⟨gb790,0,none⟩ (.slice Ao43 t787.length co43)) = w47 at n0_ n1_ n2_ n3_ n4_ n5_ n6_ ⊢
         have HO781:=n0_
         have HO784:=n1_
         have HO789:=n2_
         have BK785:=n3_
         have BK786:=n4_
         have BK790:=n5_
         have HB:=n6_
         clear n0_ n1_ n2_ n3_ n4_ n5_ n6_
         have n0_:=Aside0.mk (Kd.V_drew HO781.out)
         have n1_:=Aside0.mk (Kd.V_drew HO784.out)
         have n2_:=Aside0.mk (Kd.V_drew HO789.out)
         have n3_:=Aside0.mk (blk_drew BK785.out)
         have n4_:=Aside0.mk (blk_drew BK786.out)
         have n5_:=Aside0.mk (blk_drew BK790.out)
         have n6_:=Aside0.mk (below_drew1 HB.out)
         clear HO781
         clear HO784
         clear HO789
         clear BK785
         clear BK786
         clear BK790
         clear HB
         have HO781:=n0_
         have HO784:=n1_
         have HO789:=n2_
         have BK785:=n3_
         have BK786:=n4_
         have BK790:=n5_
         have HB:=n6_
         clear n0_ n1_ n2_ n3_ n4_ n5_ n6_
         refine start_ (n:=8) (S:=fun w' => w'.cell? ⟨gb790,0,none⟩ = some (.slice Ao43 t787.length co43)) (ds:=[]) #[false,false,false,false,false,false,false,false] (by kernel_rfl) rfl rfl ((blk_cell BK790.out 0).trans rfl) (fun hHeld => ?_);refine with_tabW sacristylaw01_NatGcds.tab6 sacristylaw01_NatGcds.bits6 (fun HT_ HW_ => ?_)
         generalize w47.drew = w48 at HO781 HO784 HO789 BK785 BK786 BK790 HB hHeld ⊢
         refine pure_ (i:=1) (N:=some 34) (v:=?_) (a':=?_) #[false,true,false,false,false,false,false,false] rfl rfl (any_of HT_.out (by kernel_rfl)) (fun _ _ _ h => h) (Or.inl ⟨by rfl,?_⟩) ?_ ?_
         rotate_left
         ·intro w'
          go_simp
          with_reducible rfl
         rotate_left
         ·simp only [Act.put,List.setIfInBounds_toArray,List.set_cons_zero,List.set_cons_succ,i64_w,i32_w]
          rfl
         refine pure_ (i:=3) (N:=some 36) (v:=?_) (a':=?_) #[false,true,false,true,false,false,false,false] rfl rfl (any_of HT_.out (by kernel_rfl)) (fun _ _ _ h => h) (Or.inl ⟨by rfl,?_⟩) ?_ ?_
         rotate_left
         ·intro w'
          go_simp
          with_reducible rfl
         rotate_left
         ·simp only [Act.put,List.setIfInBounds_toArray,List.set_cons_zero,List.set_cons_succ,i64_w,i32_w]
          rfl
         refine take_ (i:=0) (N:=some 33) (v:=?_) (a':=?_) #[true,true,false,true,false,false,false,false] rfl rfl (take_ofW HT_.out HW_.out (by kernel_rfl)) (fun _ _ _ h => h) (Or.inl ⟨by rfl,?_⟩) hHeld ?_ ?_
         rotate_left
         ·intro w' s0
          go_simp
          with_reducible rfl
         rotate_left
         ·simp only [Act.put,List.setIfInBounds_toArray,List.set_cons_zero,List.set_cons_succ,i64_w,i32_w]
          rfl
         refine one_ (i:=2) (N:=some 35) #[true,true,true,true,false,false,false,false] rfl rfl (one_of HT_.out (by kernel_rfl)) (by decide) (fun K hK => ?_)
         refine goes_ Try.func41 (by kernel_rfl) rfl #[.slice A0 (l0.take ((ji5) : Int).toNat).length c0] (by rfl) rfl rfl (by (try simp only [List.map_toArray,List.map_cons,List.map_nil]);first|done|(rw [show (l0.take ((ji5) : Int).toNat).length = (ji5).toNat from (by rw [List.length_take];have h_ : ((ji5) : Int) ≤ (l0.length : Int):=of_decide_eq_true (by first|(with_reducible assumption)|assumption);omega)] <;> rfl)|(simp only [hji5];rfl)|rfl|(simp only [List.length_drop,List.length_take];rfl)) ?_
         with_reducible refine (sacristylaw01_ref.calls k _ _ (l0.take ((ji5) : Int).toNat) t791 _ ?side1 ?side2 A14.out).mono ?_
         (case side1 => repeat (first|exact (Kd.C_below HR777.out HB.out)|(with_reducible refine Kd.C_alloc ?_ _)|(with_reducible refine Kd.C_drewN ?_ _)|(with_reducible refine Kd.C_drew ?_)))
         (case side2 => exact HC777.out)
         rintro e w49 ⟨v792,rfl,ho0,hb⟩
         refine ⟨_,rfl,?_⟩
         have n0_:=Aside0.mk (Kd.V_below (by (with_reducible repeat (first|apply Kd.V_alloc|apply Kd.V_drewN|apply Kd.V_drew));exact HO781.out) hb)
         have n1_:=Aside0.mk (Kd.V_below (by (with_reducible repeat (first|apply Kd.V_alloc|apply Kd.V_drewN|apply Kd.V_drew));exact HO784.out) hb)
         have n2_:=Aside0.mk (Kd.V_below (by (with_reducible repeat (first|apply Kd.V_alloc|apply Kd.V_drewN|apply Kd.V_drew));exact HO789.out) hb)
         have n3_:=Aside0.mk (Kd.V_lower (Kd.V_mono (ok':=fun k_ => k_ ≠ gb785 ∧ k_ ≠ gb786 ∧ k_ ≠ gb790) ho0 (fun k_ hk_ => ⟨(Kd.freshB (g:=gb785) (o:=.cells #[.slice Ao32 t779.length co32] 38 (0,0)) (by (with_reducible repeat (first|refine blk_drewN ?_ _|refine blk_drew ?_|refine blk_alloc ?_ _));exact BK785.out) k_ hk_),(Kd.freshB (g:=gb786) (o:=.cells #[.slice Ao36 t782.length co36] 38 (0,0)) (by (with_reducible repeat (first|refine blk_drewN ?_ _|refine blk_drew ?_|refine blk_alloc ?_ _));exact BK786.out) k_ hk_),(Kd.freshB (g:=gb790) (o:=.cells #[.slice Ao43 t787.length co43] 38 (0,0)) (by (with_reducible repeat (first|refine blk_drewN ?_ _|refine blk_drew ?_|refine blk_alloc ?_ _));exact BK790.out) k_ hk_)⟩)) (below_size (by repeat (first|(with_reducible first|exact HB.out|apply below_alloc|apply pw_below_drewN|apply below_drew1|refine below_set ?_ GE785.out|refine below_set ?_ GE786.out|refine below_set ?_ GE790.out)|exact HB.out))))
         have n4_:=Aside0.mk (blk_below (g:=gb785) (o:=.cells #[.slice Ao32 t779.length co32] 38 (0,0)) (by (with_reducible repeat (first|refine blk_drewN ?_ _|refine blk_drew ?_|refine blk_alloc ?_ _));exact BK785.out) hb)
         have n5_:=Aside0.mk (blk_below (g:=gb786) (o:=.cells #[.slice Ao36 t782.length co36] 38 (0,0)) (by (with_reducible repeat (first|refine blk_drewN ?_ _|refine blk_drew ?_|refine blk_alloc ?_ _));exact BK786.out) hb)
         have n6_:=Aside0.mk (blk_below (g:=gb790) (o:=.cells #[.slice Ao43 t787.length co43] 38 (0,0)) (by (with_reducible repeat (first|refine blk_drewN ?_ _|refine blk_drew ?_|refine blk_alloc ?_ _));exact BK790.out) hb)
         have n7_:=Aside0.mk (below_step (by repeat (first|(with_reducible first|exact HB.out|apply below_alloc|apply pw_below_drewN|apply below_drew1|refine below_set ?_ GE785.out|refine below_set ?_ GE786.out|refine below_set ?_ GE790.out)|exact HB.out)) hb)
         clear HO781
         clear HO784
         clear HO789
         clear BK785
         clear BK786
         clear BK790
         clear HB
         have HO781:=n0_
         have HO784:=n1_
         have HO789:=n2_
         have HO793:=n3_
         have BK785:=n4_
         have BK786:=n5_
         have BK790:=n6_
         have HB:=n7_
         clear n0_ n1_ n2_ n3_ n4_ n5_ n6_ n7_
         (try clear hb)
         (try clear hb2)
         (try clear hk)
         (try clear hi)
         (try clear ho0)
         refine hK.out _ _ ((blk_cell BK790.out 0).trans rfl) (fun hHeld => ?_)
         clear hK K
         refine norm_ (a':=?_) ?_ ?_
         rotate_left
         ·show Act.put _ (some 35) _ = _
          simp only [Act.put,List.setIfInBounds_toArray,List.set_cons_zero,List.set_cons_succ,i64_w,i32_w]
          rfl
         refine one_ (i:=4) (N:=some 37) #[true,true,true,true,true,false,false,false] rfl rfl (one_of HT_.out (by kernel_rfl)) (by decide) (fun K hK => ?_)
         refine goes_ Try.func41 (by kernel_rfl) rfl #[.slice A1 (l1.take ((ji8) : Int).toNat).length c1] (by rfl) rfl rfl (by (try simp only [List.map_toArray,List.map_cons,List.map_nil]);first|done|(rw [show (l1.take ((ji8) : Int).toNat).length = (ji8).toNat from (by rw [List.length_take];have h_ : ((ji8) : Int) ≤ (l1.length : Int):=of_decide_eq_true (by first|(with_reducible assumption)|assumption);omega)] <;> rfl)|(simp only [hji8];rfl)|rfl|(simp only [List.length_drop,List.length_take];rfl)) ?_
         with_reducible refine (sacristylaw01_ref.calls k _ _ (l1.take ((ji8) : Int).toNat) t794 _ ?side1 ?side2 A15.out).mono ?_
         (case side1 => repeat (first|exact (Kd.C_below HR778.out HB.out)|(with_reducible refine Kd.C_alloc ?_ _)|(with_reducible refine Kd.C_drewN ?_ _)|(with_reducible refine Kd.C_drew ?_)))
         (case side2 => exact HC778.out)
         rintro e w50 ⟨v795,rfl,ho0,hb⟩
         refine ⟨_,rfl,?_⟩
         have n0_:=Aside0.mk (Kd.V_below (by (with_reducible repeat (first|apply Kd.V_alloc|apply Kd.V_drewN|apply Kd.V_drew));exact HO781.out) hb)
         have n1_:=Aside0.mk (Kd.V_below (by (with_reducible repeat (first|apply Kd.V_alloc|apply Kd.V_drewN|apply Kd.V_drew));exact HO784.out) hb)
         have n2_:=Aside0.mk (Kd.V_below (by (with_reducible repeat (first|apply Kd.V_alloc|apply Kd.V_drewN|apply Kd.V_drew));exact HO789.out) hb)
         have n3_:=Aside0.mk (Kd.V_below (by (with_reducible repeat (first|apply Kd.V_alloc|apply Kd.V_drewN|apply Kd.V_drew));exact HO793.out) hb)
         have n4_:=Aside0.mk (Kd.V_lower (Kd.V_mono (ok':=fun k_ => k_ ≠ gb785 ∧ k_ ≠ gb786 ∧ k_ ≠ gb790) ho0 (fun k_ hk_ => ⟨(Kd.freshB (g:=gb785) (o:=.cells #[.slice Ao32 t779.length co32] 38 (0,0)) (by (with_reducible repeat (first|refine blk_drewN ?_ _|refine blk_drew ?_|refine blk_alloc ?_ _));exact BK785.out) k_ hk_),(Kd.freshB (g:=gb786) (o:=.cells #[.slice Ao36 t782.length co36] 38 (0,0)) (by (with_reducible repeat (first|refine blk_drewN ?_ _|refine blk_drew ?_|refine blk_alloc ?_ _));exact BK786.out) k_ hk_),(Kd.freshB (g:=gb790) (o:=.cells #[.slice Ao43 t787.length co43] 38 (0,0)) (by (with_reducible repeat (first|refine blk_drewN ?_ _|refine blk_drew ?_|refine blk_alloc ?_ _));exact BK790.out) k_ hk_)⟩)) (below_size (by repeat (first|(with_reducible first|exact HB.out|apply below_alloc|apply pw_below_drewN|apply below_drew1|refine below_set ?_ GE785.out|refine below_set ?_ GE786.out|refine below_set ?_ GE790.out)|exact HB.out))))
         have n5_:=Aside0.mk (blk_below (g:=gb785) (o:=.cells #[.slice Ao32 t779.length co32] 38 (0,0)) (by (with_reducible repeat (first|refine blk_drewN ?_ _|refine blk_drew ?_|refine blk_alloc ?_ _));exact BK785.out) hb)
         have n6_:=Aside0.mk (blk_below (g:=gb786) (o:=.cells #[.slice Ao36 t782.length co36] 38 (0,0)) (by (with_reducible repeat (first|refine blk_drewN ?_ _|refine blk_drew ?_|refine blk_alloc ?_ _));exact BK786.out) hb)
         have n7_:=Aside0.mk (blk_below (g:=gb790) (o:=.cells #[.slice Ao43 t787.length co43] 38 (0,0)) (by (with_reducible repeat (first|refine blk_drewN ?_ _|refine blk_drew ?_|refine blk_alloc ?_ _));exact BK790.out) hb)
         have n8_:=Aside0.mk (below_step (by repeat (first|(with_reducible first|exact HB.out|apply below_alloc|apply pw_below_drewN|apply below_drew1|refine below_set ?_ GE785.out|refine below_set ?_ GE786.out|refine below_set ?_ GE790.out)|exact HB.out)) hb)
         clear HO781
         clear HO784
         clear HO789
         clear HO793
         clear BK785
         clear BK786
         clear BK790
         clear HB
         have HO781:=n0_
         have HO784:=n1_
         have HO789:=n2_
         have HO793:=n3_
         have HO796:=n4_
         have BK785:=n5_
         have BK786:=n6_
         have BK790:=n7_
         have HB:=n8_
         clear n0_ n1_ n2_ n3_ n4_ n5_ n6_ n7_ n8_
         (try clear hb)
         (try clear hb2)
         (try clear hk)
         (try clear hi)
         (try clear ho0)
         obtain ⟨Ao51,co51,eo51⟩:=Kd.V_slice HO793.out
         (first|subst eo51|(injection eo51 with f1_ f2_ f3_;have f4_:=f1_.symm;have f5_:=f3_.symm;clear f1_ f2_ f3_;subst f4_;subst f5_))
         obtain ⟨Ao52,co52,eo52⟩:=Kd.V_slice HO796.out
         (first|subst eo52|(injection eo52 with f1_ f2_ f3_;have f4_:=f1_.symm;have f5_:=f3_.symm;clear f1_ f2_ f3_;subst f4_;subst f5_))
         refine hK.out _ _ ((blk_cell BK790.out 0).trans rfl) (fun hHeld => ?_)
         clear hK K
         refine norm_ (a':=?_) ?_ ?_
         rotate_left
         ·show Act.put _ (some 37) _ = _
          simp only [Act.put,List.setIfInBounds_toArray,List.set_cons_zero,List.set_cons_succ,i64_w,i32_w]
          rfl
         refine one_ (i:=5) (N:=some 38) #[true,true,true,true,true,true,false,false] rfl rfl (one_of HT_.out (by kernel_rfl)) (by decide) (fun K hK => ?_)
         refine goes_ Try.func52 (by kernel_rfl) rfl #[.slice Ao51 t791.length co51,.slice Ao52 t794.length co52] (by rfl) rfl rfl (by (try simp only [List.map_toArray,List.map_cons,List.map_nil]);first|done|rfl|(simp only [List.length_drop,List.length_take];rfl)) ?_
         with_reducible refine (sacristyref01_Gcd.calls k (fun k_ => (k_ ≠ gb785 ∧ (k_ ≠ gb786 ∧ k_ ≠ gb790))) _ _ t791 (fun k_ => (k_ ≠ gb785 ∧ (k_ ≠ gb786 ∧ k_ ≠ gb790))) _ _ t794 t797 _ ?side1 ?side2 A16.out).mono ?_
         (case side1 => exact HO793.out)
         (case side2 => exact HO796.out)
         rintro e w53 ⟨v798,rfl,ho0,hb⟩
         refine ⟨_,rfl,?_⟩
         have n0_:=Aside0.mk (Kd.V_below (by (with_reducible repeat (first|apply Kd.V_alloc|apply Kd.V_drewN|apply Kd.V_drew));exact HO781.out) hb)
         have n1_:=Aside0.mk (Kd.V_below (by (with_reducible repeat (first|apply Kd.V_alloc|apply Kd.V_drewN|apply Kd.V_drew));exact HO784.out) hb)
         have n2_:=Aside0.mk (Kd.V_below (by (with_reducible repeat (first|apply Kd.V_alloc|apply Kd.V_drewN|apply Kd.V_drew));exact HO789.out) hb)
         have n3_:=Aside0.mk (Kd.V_below (by (with_reducible repeat (first|apply Kd.V_alloc|apply Kd.V_drewN|apply Kd.V_drew));exact HO793.out) hb)
         have n4_:=Aside0.mk (Kd.V_below (by (with_reducible repeat (first|apply Kd.V_alloc|apply Kd.V_drewN|apply Kd.V_drew));exact HO796.out) hb)
         have n5_:=Aside0.mk (Kd.V_lower (Kd.V_mono (ok':=fun k_ => k_ ≠ gb785 ∧ k_ ≠ gb786 ∧ k_ ≠ gb790) ho0 (fun k_ hk_ => ⟨Or.elim hk_ (fun hs_ => Or.elim hs_ (fun hs_ => hs_.1) (fun hs_ => hs_.1)) (fun hn_ => (Kd.freshB (g:=gb785) (o:=.cells #[.slice Ao32 t779.length co32] 38 (0,0)) (by (with_reducible repeat (first|refine blk_drewN ?_ _|refine blk_drew ?_|refine blk_alloc ?_ _));exact BK785.out) k_ hn_)),Or.elim hk_ (fun hs_ => Or.elim hs_ (fun hs_ => hs_.2.1) (fun hs_ => hs_.2.1)) (fun hn_ => (Kd.freshB (g:=gb786) (o:=.cells #[.slice Ao36 t782.length co36] 38 (0,0)) (by (with_reducible repeat (first|refine blk_drewN ?_ _|refine blk_drew ?_|refine blk_alloc ?_ _));exact BK786.out) k_ hn_)),Or.elim hk_ (fun hs_ => Or.elim hs_ (fun hs_ => hs_.2.2) (fun hs_ => hs_.2.2)) (fun hn_ => (Kd.freshB (g:=gb790) (o:=.cells #[.slice Ao43 t787.length co43] 38 (0,0)) (by (with_reducible repeat (first|refine blk_drewN ?_ _|refine blk_drew ?_|refine blk_alloc ?_ _));exact BK790.out) k_ hn_))⟩)) (below_size (by repeat (first|(with_reducible first|exact HB.out|apply below_alloc|apply pw_below_drewN|apply below_drew1|refine below_set ?_ GE785.out|refine below_set ?_ GE786.out|refine below_set ?_ GE790.out)|exact HB.out))))
         have n6_:=Aside0.mk (blk_below (g:=gb785) (o:=.cells #[.slice Ao32 t779.length co32] 38 (0,0)) (by (with_reducible repeat (first|refine blk_drewN ?_ _|refine blk_drew ?_|refine blk_alloc ?_ _));exact BK785.out) hb)
         have n7_:=Aside0.mk (blk_below (g:=gb786) (o:=.cells #[.slice Ao36 t782.length co36] 38 (0,0)) (by (with_reducible repeat (first|refine blk_drewN ?_ _|refine blk_drew ?_|refine blk_alloc ?_ _));exact BK786.out) hb)
         have n8_:=Aside0.mk (blk_below (g:=gb790) (o:=.cells #[.slice Ao43 t787.length co43] 38 (0,0)) (by (with_reducible repeat (first|refine blk_drewN ?_ _|refine blk_drew ?_|refine blk_alloc ?_ _));exact BK790.out) hb)
         have n9_:=Aside0.mk (below_step (by repeat (first|(with_reducible first|exact HB.out|apply below_alloc|apply pw_below_drewN|apply below_drew1|refine below_set ?_ GE785.out|refine below_set ?_ GE786.out|refine below_set ?_ GE790.out)|exact HB.out)) hb)
         clear HO781
         clear HO784
         clear HO789
         clear HO793
         clear HO796
         clear BK785
         clear BK786
         clear BK790
         clear HB
         have HO781:=n0_
         have HO784:=n1_
         have HO789:=n2_
         have HO793:=n3_
         have HO796:=n4_
         have HO799:=n5_
         have BK785:=n6_
         have BK786:=n7_
         have BK790:=n8_
         have HB:=n9_
         clear n0_ n1_ n2_ n3_ n4_ n5_ n6_ n7_ n8_ n9_
         (try clear hb)
         (try clear hb2)
         (try clear hk)
         (try clear hi)
         (try clear ho0)
         obtain ⟨Ao54,co54,eo54⟩:=Kd.V_slice HO799.out
         (first|subst eo54|(injection eo54 with f1_ f2_ f3_;have f4_:=f1_.symm;have f5_:=f3_.symm;clear f1_ f2_ f3_;subst f4_;subst f5_))
         refine hK.out _ _ ((blk_cell BK790.out 0).trans rfl) (fun hHeld => ?_)
         clear hK K
         refine norm_ (a':=?_) ?_ ?_
         rotate_left
         ·show Act.put _ (some 38) _ = _
          simp only [Act.put,List.setIfInBounds_toArray,List.set_cons_zero,List.set_cons_succ,i64_w,i32_w]
          rfl
         refine one_ (i:=6) (N:=some 39) #[true,true,true,true,true,true,true,false] rfl rfl (one_of HT_.out (by kernel_rfl)) (by decide) (fun K hK => ?_)
         refine goes_ Try.func37 (by kernel_rfl) rfl #[.agg #[.slice Ao43 t787.length co43],.slice Ao54 t797.length co54] (by rfl) rfl rfl (by (try simp only [List.map_toArray,List.map_cons,List.map_nil]);first|done|rfl|(simp only [List.length_drop,List.length_take];rfl)) ?_
         with_reducible refine (sacristylaw01_Same.calls k _ _ t787 _ _ t797 true _ ?side1 ?side2 ?side3 ?side4 A17.out).mono ?_
         (case side1 => repeat (first|exact (Kd.V_reads' HO789.out).2.2|(with_reducible refine Kd.C_alloc ?_ _)|(with_reducible refine Kd.C_drewN ?_ _)|(with_reducible refine Kd.C_drew ?_)))
         (case side2 => exact (Kd.V_reads' HO789.out).2.1)
         (case side3 => repeat (first|exact (Kd.V_reads' HO799.out).2.2|(with_reducible refine Kd.C_alloc ?_ _)|(with_reducible refine Kd.C_drewN ?_ _)|(with_reducible refine Kd.C_drew ?_)))
         (case side4 => exact (Kd.V_reads' HO799.out).2.1)
         rintro e w55 ⟨rfl,hb⟩
         refine ⟨_,rfl,?_⟩
         have n0_:=Aside0.mk (Kd.V_below (by (with_reducible repeat (first|apply Kd.V_alloc|apply Kd.V_drewN|apply Kd.V_drew));exact HO781.out) hb)
         have n1_:=Aside0.mk (Kd.V_below (by (with_reducible repeat (first|apply Kd.V_alloc|apply Kd.V_drewN|apply Kd.V_drew));exact HO784.out) hb)
         have n2_:=Aside0.mk (Kd.V_below (by (with_reducible repeat (first|apply Kd.V_alloc|apply Kd.V_drewN|apply Kd.V_drew));exact HO789.out) hb)
         have n3_:=Aside0.mk (Kd.V_below (by (with_reducible repeat (first|apply Kd.V_alloc|apply Kd.V_drewN|apply Kd.V_drew));exact HO793.out) hb)
         have n4_:=Aside0.mk (Kd.V_below (by (with_reducible repeat (first|apply Kd.V_alloc|apply Kd.V_drewN|apply Kd.V_drew));exact HO796.out) hb)
         have n5_:=Aside0.mk (Kd.V_below (by (with_reducible repeat (first|apply Kd.V_alloc|apply Kd.V_drewN|apply Kd.V_drew));exact HO799.out) hb)
         have n6_:=Aside0.mk (blk_below (g:=gb785) (o:=.cells #[.slice Ao32 t779.length co32] 38 (0,0)) (by (with_reducible repeat (first|refine blk_drewN ?_ _|refine blk_drew ?_|refine blk_alloc ?_ _));exact BK785.out) hb)
         have n7_:=Aside0.mk (blk_below (g:=gb786) (o:=.cells #[.slice Ao36 t782.length co36] 38 (0,0)) (by (with_reducible repeat (first|refine blk_drewN ?_ _|refine blk_drew ?_|refine blk_alloc ?_ _));exact BK786.out) hb)
         have n8_:=Aside0.mk (blk_below (g:=gb790) (o:=.cells #[.slice Ao43 t787.length co43] 38 (0,0)) (by (with_reducible repeat (first|refine blk_drewN ?_ _|refine blk_drew ?_|refine blk_alloc ?_ _));exact BK790.out) hb)
         have n9_:=Aside0.mk (below_step (by repeat (first|(with_reducible first|exact HB.out|apply below_alloc|apply pw_below_drewN|apply below_drew1|refine below_set ?_ GE785.out|refine below_set ?_ GE786.out|refine below_set ?_ GE790.out)|exact HB.out)) hb)
         clear HO781
         clear HO784
         clear HO789
         clear HO793
         clear HO796
         clear HO799
         clear BK785
         clear BK786
         clear BK790
         clear HB
         have HO781:=n0_
         have HO784:=n1_
         have HO789:=n2_
         have HO793:=n3_
         have HO796:=n4_
         have HO799:=n5_
         have BK785:=n6_
         have BK786:=n7_
         have BK790:=n8_
         have HB:=n9_
         clear n0_ n1_ n2_ n3_ n4_ n5_ n6_ n7_ n8_ n9_
         (try clear hb)
         (try clear hb2)
         (try clear hk)
         (try clear hi)
         refine hK.out _ _ ((blk_cell BK790.out 0).trans rfl) (fun hHeld => ?_)
         clear hK K
         refine norm_ (a':=?_) ?_ ?_
         rotate_left
         ·show Act.put _ (some 39) _ = _
          simp only [Act.put,List.setIfInBounds_toArray,List.set_cons_zero,List.set_cons_succ,i64_w,i32_w]
          rfl
         refine pure_ (i:=7) (N:=some 40) (v:=?_) (a':=?_) #[true,true,true,true,true,true,true,true] rfl rfl (any_of HT_.out (by kernel_rfl)) (fun _ _ _ h => h) (Or.inl ⟨by rfl,?_⟩) ?_ ?_
         rotate_left
         ·intro w'
          go_simp
          with_reducible rfl
         rotate_left
         ·simp only [Act.put,List.setIfInBounds_toArray,List.set_cons_zero,List.set_cons_succ,i64_w,i32_w]
          rfl
         refine done_ (done_of HT_.out (by kernel_rfl)) ?_
         have hcz56_0 : w55.cell? ⟨gb790,0,none⟩ = some (.slice Ao43 t787.length co43):=(blk_cell BK790.out 0).trans rfl
         have hfz56_0:=blk_frozen BK790.out 0
         try go_wp2_with (first|((with_reducible refine gate_callee (f:=44) rfl ?_);refine goesL_ (some 42) rfl rfl Try.func44 (by kernel_rfl) rfl #[.agg #[.slice Ao43 t787.length co43]] rfl (by (try simp only [List.map_toArray,List.map_cons,List.map_nil]);first|done|rfl|(simp only [List.length_drop,List.length_take];rfl)) ?_;(with_reducible refine (nat_Nat_Zero.calls _ _ t787 true _ ?side1 ?side2 A19.out).mono ?_);(case side1 => repeat (first|exact (Kd.V_reads' HO789.out).2.2|(with_reducible refine Kd.C_alloc ?_ _)|(with_reducible refine Kd.C_drewN ?_ _)|(with_reducible refine Kd.C_drew ?_)));(case side2 => exact (Kd.V_reads' HO789.out).2.1);rintro e w57 ⟨rfl,hb⟩;refine ⟨_,rfl,?_⟩;have n0_:=Aside0.mk (Kd.V_below (by (with_reducible repeat (first|apply Kd.V_alloc|apply Kd.V_drewN|apply Kd.V_drew));exact HO781.out) hb);have n1_:=Aside0.mk (Kd.V_below (by (with_reducible repeat (first|apply Kd.V_alloc|apply Kd.V_drewN|apply Kd.V_drew));exact HO784.out) hb);have n2_:=Aside0.mk (Kd.V_below (by (with_reducible repeat (first|apply Kd.V_alloc|apply Kd.V_drewN|apply Kd.V_drew));exact HO789.out) hb);have n3_:=Aside0.mk (Kd.V_below (by (with_reducible repeat (first|apply Kd.V_alloc|apply Kd.V_drewN|apply Kd.V_drew));exact HO793.out) hb);have n4_:=Aside0.mk (Kd.V_below (by (with_reducible repeat (first|apply Kd.V_alloc|apply Kd.V_drewN|apply Kd.V_drew));exact HO796.out) hb);have n5_:=Aside0.mk (Kd.V_below (by (with_reducible repeat (first|apply Kd.V_alloc|apply Kd.V_drewN|apply Kd.V_drew));exact HO799.out) hb);have n6_:=Aside0.mk (blk_below (g:=gb785) (o:=.cells #[.slice Ao32 t779.length co32] 38 (0,0)) (by (with_reducible repeat (first|refine blk_drewN ?_ _|refine blk_drew ?_|refine blk_alloc ?_ _));exact BK785.out) hb);have n7_:=Aside0.mk (blk_below (g:=gb786) (o:=.cells #[.slice Ao36 t782.length co36] 38 (0,0)) (by (with_reducible repeat (first|refine blk_drewN ?_ _|refine blk_drew ?_|refine blk_alloc ?_ _));exact BK786.out) hb);have n8_:=Aside0.mk (blk_below (g:=gb790) (o:=.cells #[.slice Ao43 t787.length co43] 38 (0,0)) (by (with_reducible repeat (first|refine blk_drewN ?_ _|refine blk_drew ?_|refine blk_alloc ?_ _));exact BK790.out) hb);have n9_:=Aside0.mk (below_step (by repeat (first|(with_reducible first|exact HB.out|apply below_alloc|apply pw_below_drewN|apply below_drew1|refine below_set ?_ GE785.out|refine below_set ?_ GE786.out|refine below_set ?_ GE790.out)|exact HB.out)) hb);clear HO781;clear HO784;clear HO789;clear HO793;clear HO796;clear HO799;clear BK785;clear BK786;clear BK790;clear HB;have HO781:=n0_;have HO784:=n1_;have HO789:=n2_;have HO793:=n3_;have HO796:=n4_;have HO799:=n5_;have BK785:=n6_;have BK786:=n7_;have BK790:=n8_;have HB:=n9_;clear n0_ n1_ n2_ n3_ n4_ n5_ n6_ n7_ n8_ n9_;(try clear hb);(try clear hb2);(try clear hk);(try clear hi);have hcz58_0 : w57.cell? ⟨gb785,0,none⟩ = some (.slice Ao32 t779.length co32):=(blk_cell BK785.out 0).trans rfl;have hfz58_0:=blk_frozen BK785.out 0)|((with_reducible refine gate_callee (f:=44) rfl ?_);refine goesL_ (some 44) rfl rfl Try.func44 (by kernel_rfl) rfl #[.agg #[.slice Ao32 t779.length co32]] rfl (by (try simp only [List.map_toArray,List.map_cons,List.map_nil]);first|done|rfl|(simp only [List.length_drop,List.length_take];rfl)) ?_;(with_reducible refine (nat_Nat_Zero.calls _ _ t779 true _ ?side1 ?side2 A21.out).mono ?_);(case side1 => repeat (first|exact (Kd.V_reads' HO781.out).2.2|(with_reducible refine Kd.C_alloc ?_ _)|(with_reducible refine Kd.C_drewN ?_ _)|(with_reducible refine Kd.C_drew ?_)));(case side2 => exact (Kd.V_reads' HO781.out).2.1);rintro e w59 ⟨rfl,hb⟩;refine ⟨_,rfl,?_⟩;have n0_:=Aside0.mk (Kd.V_below (by (with_reducible repeat (first|apply Kd.V_alloc|apply Kd.V_drewN|apply Kd.V_drew));exact HO781.out) hb);have n1_:=Aside0.mk (Kd.V_below (by (with_reducible repeat (first|apply Kd.V_alloc|apply Kd.V_drewN|apply Kd.V_drew));exact HO784.out) hb);have n2_:=Aside0.mk (Kd.V_below (by (with_reducible repeat (first|apply Kd.V_alloc|apply Kd.V_drewN|apply Kd.V_drew));exact HO789.out) hb);have n3_:=Aside0.mk (Kd.V_below (by (with_reducible repeat (first|apply Kd.V_alloc|apply Kd.V_drewN|apply Kd.V_drew));exact HO793.out) hb);have n4_:=Aside0.mk (Kd.V_below (by (with_reducible repeat (first|apply Kd.V_alloc|apply Kd.V_drewN|apply Kd.V_drew));exact HO796.out) hb);have n5_:=Aside0.mk (Kd.V_below (by (with_reducible repeat (first|apply Kd.V_alloc|apply Kd.V_drewN|apply Kd.V_drew));exact HO799.out) hb);have n6_:=Aside0.mk (blk_below (g:=gb785) (o:=.cells #[.slice Ao32 t779.length co32] 38 (0,0)) (by (with_reducible repeat (first|refine blk_drewN ?_ _|refine blk_drew ?_|refine blk_alloc ?_ _));exact BK785.out) hb);have n7_:=Aside0.mk (blk_below (g:=gb786) (o:=.cells #[.slice Ao36 t782.length co36] 38 (0,0)) (by (with_reducible repeat (first|refine blk_drewN ?_ _|refine blk_drew ?_|refine blk_alloc ?_ _));exact BK786.out) hb);have n8_:=Aside0.mk (blk_below (g:=gb790) (o:=.cells #[.slice Ao43 t787.length co43] 38 (0,0)) (by (with_reducible repeat (first|refine blk_drewN ?_ _|refine blk_drew ?_|refine blk_alloc ?_ _));exact BK790.out) hb);have n9_:=Aside0.mk (below_step (by repeat (first|(with_reducible first|exact HB.out|apply below_alloc|apply pw_below_drewN|apply below_drew1|refine below_set ?_ GE785.out|refine below_set ?_ GE786.out|refine below_set ?_ GE790.out)|exact HB.out)) hb);clear HO781;clear HO784;clear HO789;clear HO793;clear HO796;clear HO799;clear BK785;clear BK786;clear BK790;clear HB;have HO781:=n0_;have HO784:=n1_;have HO789:=n2_;have HO793:=n3_;have HO796:=n4_;have HO799:=n5_;have BK785:=n6_;have BK786:=n7_;have BK790:=n8_;have HB:=n9_;clear n0_ n1_ n2_ n3_ n4_ n5_ n6_ n7_ n8_ n9_;(try clear hb);(try clear hb2);(try clear hk);(try clear hi);have hcz60_0 : w59.cell? ⟨gb786,0,none⟩ = some (.slice Ao36 t782.length co36):=(blk_cell BK786.out 0).trans rfl;have hfz60_0:=blk_frozen BK786.out 0)|(go_at_call 44;(with_reducible refine (nat_Nat_Zero.calls _ _ t782 t803 _ ?side1 ?side2 A23.out).mono ?_);(case side1 => repeat (first|exact (Kd.V_reads' HO784.out).2.2|(with_reducible refine Kd.C_alloc ?_ _)|(with_reducible refine Kd.C_drewN ?_ _)|(with_reducible refine Kd.C_drew ?_)));(case side2 => exact (Kd.V_reads' HO784.out).2.1);rintro e w61 ⟨rfl,hb⟩;have n0_:=Aside0.mk (Kd.V_below (by (with_reducible repeat (first|apply Kd.V_alloc|apply Kd.V_drewN|apply Kd.V_drew));exact HO781.out) hb);have n1_:=Aside0.mk (Kd.V_below (by (with_reducible repeat (first|apply Kd.V_alloc|apply Kd.V_drewN|apply Kd.V_drew));exact HO784.out) hb);have n2_:=Aside0.mk (Kd.V_below (by (with_reducible repeat (first|apply Kd.V_alloc|apply Kd.V_drewN|apply Kd.V_drew));exact HO789.out) hb);have n3_:=Aside0.mk (Kd.V_below (by (with_reducible repeat (first|apply Kd.V_alloc|apply Kd.V_drewN|apply Kd.V_drew));exact HO793.out) hb);have n4_:=Aside0.mk (Kd.V_below (by (with_reducible repeat (first|apply Kd.V_alloc|apply Kd.V_drewN|apply Kd.V_drew));exact HO796.out) hb);have n5_:=Aside0.mk (Kd.V_below (by (with_reducible repeat (first|apply Kd.V_alloc|apply Kd.V_drewN|apply Kd.V_drew));exact HO799.out) hb);have n6_:=Aside0.mk (blk_below (g:=gb785) (o:=.cells #[.slice Ao32 t779.length co32] 38 (0,0)) (by (with_reducible repeat (first|refine blk_drewN ?_ _|refine blk_drew ?_|refine blk_alloc ?_ _));exact BK785.out) hb);have n7_:=Aside0.mk (blk_below (g:=gb786) (o:=.cells #[.slice Ao36 t782.length co36] 38 (0,0)) (by (with_reducible repeat (first|refine blk_drewN ?_ _|refine blk_drew ?_|refine blk_alloc ?_ _));exact BK786.out) hb);have n8_:=Aside0.mk (blk_below (g:=gb790) (o:=.cells #[.slice Ao43 t787.length co43] 38 (0,0)) (by (with_reducible repeat (first|refine blk_drewN ?_ _|refine blk_drew ?_|refine blk_alloc ?_ _));exact BK790.out) hb);have n9_:=Aside0.mk (below_step (by repeat (first|(with_reducible first|exact HB.out|apply below_alloc|apply pw_below_drewN|apply below_drew1|refine below_set ?_ GE785.out|refine below_set ?_ GE786.out|refine below_set ?_ GE790.out)|exact HB.out)) hb);clear HO781;clear HO784;clear HO789;clear HO793;clear HO796;clear HO799;clear BK785;clear BK786;clear BK790;clear HB;have HO781:=n0_;have HO784:=n1_;have HO789:=n2_;have HO793:=n3_;have HO796:=n4_;have HO799:=n5_;have BK785:=n6_;have BK786:=n7_;have BK790:=n8_;have HB:=n9_;clear n0_ n1_ n2_ n3_ n4_ n5_ n6_ n7_ n8_ n9_;(try clear hb);(try clear hb2);(try clear hk);(try clear hi)))
         (first|go_ret|(refine ⟨_,results_tmp rfl _ _ _,?_⟩))
         exact ⟨by first|rfl|(simp [errW_none,errW_some] <;> rfl)|(simp only [← hji5,← hji8];first|rfl|(simp [errW_none,errW_some] <;> rfl))|(simp [*,errW_none,errW_some] <;> rfl),by repeat (first|(with_reducible first|exact HB.out|apply below_alloc|apply pw_below_drewN|apply below_drew1|refine below_set ?_ GE785.out|refine below_set ?_ GE786.out|refine below_set ?_ GE790.out)|exact HB.out)⟩
        ·replace c22:=Bool.eq_false_iff.mpr c22
         subst c22
         have H1 : (none) = some r:=by rw [if_neg (show ¬ (false = true) by decide)] at H;exact H
         clear H
         have H:=H1
         clear H1
         exact absurd H (by simp)
       ·replace c20:=Bool.eq_false_iff.mpr c20
        subst c20
        have H1 : ((nat_Nat_Div.f k t779 t787).bind fun bt804 => ((nat_Nat_Div.f k t782 t787).bind fun bt813 => ((nat_Nat_Zero.f bt804.2.1).bind fun t822 => (if t822 = true then ((nat_Nat_Zero.f bt813.2.1).bind fun t823 => (some t823)) else (none))))) = some r:=by rw [if_neg (show ¬ (false = true) by decide)] at H;exact H
        clear H
        have H:=H1
        clear H1
        replace H:=Option.bind_eq_some_iff.mp H
        obtain ⟨⟨t804,t807,t810⟩,A620,H⟩:=H
        replace H : ((nat_Nat_Div.f k t782 t787).bind fun bt813 => ((nat_Nat_Zero.f t807).bind fun t822 => (if t822 = true then ((nat_Nat_Zero.f bt813.2.1).bind fun t823 => (some t823)) else (none)))) = some r:=H
        have A62:=Aside0.mk A620
        clear A620
        replace H:=Option.bind_eq_some_iff.mp H
        obtain ⟨⟨t813,t816,t819⟩,A630,H⟩:=H
        replace H : ((nat_Nat_Zero.f t807).bind fun t822 => (if t822 = true then ((nat_Nat_Zero.f t816).bind fun t823 => (some t823)) else (none))) = some r:=H
        have A63:=Aside0.mk A630
        clear A630
        replace H:=Option.bind_eq_some_iff.mp H
        obtain ⟨t822,A640,H⟩:=H
        replace H : (if t822 = true then ((nat_Nat_Zero.f t816).bind fun t823 => (some t823)) else (none)) = some r:=H
        have A64:=Aside0.mk A640
        clear A640
        by_cases c65 : t822 = true
        ·subst c65
         have H1 : ((nat_Nat_Zero.f t816).bind fun t823 => (some t823)) = some r:=by rw [if_pos rfl] at H;exact H
         clear H
         have H:=H1
         clear H1
         replace H:=Option.bind_eq_some_iff.mp H
         obtain ⟨t823,A660,H⟩:=H
         replace H : (some t823) = some r:=H
         have A66:=Aside0.mk A660
         clear A660
         obtain rfl:=Option.some.inj H
         go_enter Try.func10,Try.ntmps10
         try go_wp2_with (first|((with_reducible refine gate_callee (f:=34) rfl ?_);refine goesL_ (some 14) rfl rfl Try.func34 (by kernel_rfl) rfl #[] rfl (by (try simp only [List.map_toArray,List.map_cons,List.map_nil]);first|done|rfl|(simp only [List.length_drop,List.length_take];rfl)) ?_;(with_reducible refine (sacristylaw01_lives.calls k  true _ A3.out).mono ?_);rintro e w67 ⟨rfl,hb⟩;refine ⟨_,rfl,?_⟩;have n0_:=Aside0.mk (below_step (by repeat (first|(with_reducible first|exact HB.out|apply below_alloc|apply pw_below_drewN|apply below_drew1)|exact HB.out)) hb);clear HB;have HB:=n0_;clear n0_;(try clear hb);(try clear hb2);(try clear hk);(try clear hi)))
         have n0_:=Aside0.mk (below_drew1 HB.out)
         clear HB
         have HB:=n0_
         clear n0_
         obtain ⟨i069,hi069,_,hsz69,_⟩:=info_parts info5
         obtain ⟨hcut69,hA69,hC69⟩:=print_take_of (P:=Try.prog) (Value.int .u8) 0 22 5 .i64 Try.underlying22 hi069 hsz69 A0 c0 l0 (ji5) (of_decide_eq_true (by first|(with_reducible assumption)|assumption)) (of_decide_eq_true (by first|(with_reducible assumption)|assumption)) HC0.out
         have HR777:=Aside0.mk (Kd.C_of_reads (h1:=fun _ => rfl) (hA69 _ (Kd.reads_of_C HR0.out)))
         have HC777:=Aside0.mk hC69
         clear hA69 hC69 hi069 hsz69
         obtain ⟨i070,hi070,_,hsz70,_⟩:=info_parts info5
         obtain ⟨hcut70,hA70,hC70⟩:=print_take_of (P:=Try.prog) (Value.int .u8) 0 22 5 .i64 Try.underlying22 hi070 hsz70 A1 c1 l1 (ji8) (of_decide_eq_true (by first|(with_reducible assumption)|assumption)) (of_decide_eq_true (by first|(with_reducible assumption)|assumption)) HC1.out
         have HR778:=Aside0.mk (Kd.C_of_reads (h1:=fun _ => rfl) (hA70 _ (Kd.reads_of_C HR1.out)))
         have HC778:=Aside0.mk hC70
         clear hA70 hC70 hi070 hsz70
         refine start_ (n:=12) (S:=fun w' => True) (ds:=[]) #[false,false,false,false,false,false,false,false,false,false,false,false] (by kernel_rfl) rfl rfl trivial (fun hHeld => ?_);refine with_tabW sacristylaw01_NatGcds.tab3 sacristylaw01_NatGcds.bits3 (fun HT_ HW_ => ?_)
         generalize w67.drew = w68 at HB HR777 HR778 hHeld ⊢
         refine pure_ (i:=0) (N:=some 16) (v:=?_) (a':=?_) #[true,false,false,false,false,false,false,false,false,false,false,false] rfl rfl (any_of HT_.out (by kernel_rfl)) (fun _ _ _ h => h) (Or.inl ⟨by rfl,?_⟩) ?_ ?_
         rotate_left
         ·intro w'
          go_simp
          with_reducible rfl
         rotate_left
         ·simp only [Act.put,List.setIfInBounds_toArray,List.set_cons_zero,List.set_cons_succ,i64_w,i32_w]
          rfl
         refine pure_ (i:=1) (N:=some 17) (v:=?_) (a':=?_) #[true,true,false,false,false,false,false,false,false,false,false,false] rfl rfl (any_of HT_.out (by kernel_rfl)) (fun _ _ _ h => h) (Or.inl ⟨by rfl,?_⟩) ?_ ?_
         rotate_left
         ·intro w'
          go_simp
          with_reducible rfl
         rotate_left
         ·simp only [Act.put,List.setIfInBounds_toArray,List.set_cons_zero,List.set_cons_succ,i64_w,i32_w]
          rfl
         refine pure_ (i:=2) (N:=some 18) (v:=?_) (a':=?_) #[true,true,true,false,false,false,false,false,false,false,false,false] rfl rfl (any_of HT_.out (by kernel_rfl)) (fun _ _ _ h => h) (Or.inl ⟨by rfl,?_⟩) ?_ ?_
         rotate_left
         ·intro w'
          go_simp
          with_reducible rfl
         rotate_left
         ·simp only [Act.put,List.setIfInBounds_toArray,List.set_cons_zero,List.set_cons_succ,i64_w,i32_w]
          rfl
         refine pure_ (i:=3) (N:=some 19) (v:=?_) (a':=?_) #[true,true,true,true,false,false,false,false,false,false,false,false] rfl rfl (any_of HT_.out (by kernel_rfl)) (fun _ _ _ h => h) (Or.inl ⟨by rfl,?_⟩) ?_ ?_
         rotate_left
         ·intro w'
          go_simp
          with_reducible rfl
         rotate_left
         ·simp only [Act.put,List.setIfInBounds_toArray,List.set_cons_zero,List.set_cons_succ,i64_w,i32_w]
          rfl
         refine pure_ (i:=4) (N:=some 20) (v:=?_) (a':=?_) #[true,true,true,true,true,false,false,false,false,false,false,false] rfl rfl (any_of HT_.out (by kernel_rfl)) (fun _ _ _ h => h) (Or.inl ⟨by rfl,?_⟩) ?_ ?_
         rotate_left
         ·intro w'
          go_simp
          with_reducible rfl
         rotate_left
         ·simp only [Act.put,List.setIfInBounds_toArray,List.set_cons_zero,List.set_cons_succ,i64_w,i32_w]
          rfl
         refine pure_ (i:=5) (N:=some 21) (v:=?_) (a':=?_) #[true,true,true,true,true,true,false,false,false,false,false,false] rfl rfl (any_of HT_.out (by kernel_rfl)) (fun _ _ _ h => h) (Or.inl ⟨by rfl,?_⟩) ?_ ?_
         rotate_left
         ·intro w'
          go_simp
          with_reducible rfl
         rotate_left
         ·simp only [Act.put,List.setIfInBounds_toArray,List.set_cons_zero,List.set_cons_succ,i64_w,i32_w]
          rfl
         refine pure_ (i:=6) (N:=some 22) (v:=?_) (a':=?_) #[true,true,true,true,true,true,true,false,false,false,false,false] rfl rfl (any_of HT_.out (by kernel_rfl)) (fun _ _ _ h => h) (Or.inl ⟨by rfl,?_⟩) ?_ ?_
         rotate_left
         ·intro w'
          go_simp
          with_reducible rfl
         rotate_left
         ·simp only [Act.put,List.setIfInBounds_toArray,List.set_cons_zero,List.set_cons_succ,i64_w,i32_w]
          rfl
         refine pure_ (i:=7) (N:=some 23) (v:=?_) (a':=?_) #[true,true,true,true,true,true,true,true,false,false,false,false] rfl rfl (any_of HT_.out (by kernel_rfl)) (fun _ _ _ h => h) (Or.inl ⟨by rfl,?_⟩) ?_ ?_
         rotate_left
         ·intro w'
          go_simp
          with_reducible rfl
         rotate_left
         ·simp only [Act.put,List.setIfInBounds_toArray,List.set_cons_zero,List.set_cons_succ,i64_w,i32_w]
          rfl
         refine pure_ (i:=8) (N:=some 24) (v:=?_) (a':=?_) #[true,true,true,true,true,true,true,true,true,false,false,false] rfl rfl (any_of HT_.out (by kernel_rfl)) (fun _ _ _ h => h) (Or.inl ⟨by rfl,?_⟩) ?_ ?_
         rotate_left
         ·intro w'
          go_simp
          with_reducible rfl
         rotate_left
         ·simp only [Act.put,List.setIfInBounds_toArray,List.set_cons_zero,List.set_cons_succ,i64_w,i32_w]
          rfl
         refine pure_ (i:=9) (N:=some 25) (v:=?_) (a':=?_) #[true,true,true,true,true,true,true,true,true,true,false,false] rfl rfl (any_of HT_.out (by kernel_rfl)) (fun _ _ _ h => h) (Or.inl ⟨by rfl,?_⟩) ?_ ?_
         rotate_left
         ·intro w'
          go_simp
          with_reducible rfl
         rotate_left
         ·simp only [Act.put,List.setIfInBounds_toArray,List.set_cons_zero,List.set_cons_succ,i64_w,i32_w]
          rfl
         refine pure_ (i:=10) (N:=some 0) (v:=?_) (a':=?_) #[true,true,true,true,true,true,true,true,true,true,true,false] rfl rfl (any_of HT_.out (by kernel_rfl)) (fun _ _ _ h => h) (Or.inl ⟨by rfl,?_⟩) ?_ ?_
         rotate_left
         ·intro w'
          go_simp
          with_reducible rfl
         rotate_left
         ·simp only [Act.put,List.setIfInBounds_toArray,List.set_cons_zero,List.set_cons_succ,i64_w,i32_w]
          rfl
         refine pure_ (i:=11) (N:=some 1) (v:=?_) (a':=?_) #[true,true,true,true,true,true,true,true,true,true,true,true] rfl rfl (any_of HT_.out (by kernel_rfl)) (fun _ _ _ h => h) (Or.inl ⟨by rfl,?_⟩) ?_ ?_
         rotate_left
         ·intro w'
          go_simp
          with_reducible rfl
         rotate_left
         ·simp only [Act.put,List.setIfInBounds_toArray,List.set_cons_zero,List.set_cons_succ,i64_w,i32_w]
          rfl
         refine done_ (done_of HT_.out (by kernel_rfl)) ?_
         try go_wp2_with (first|((with_reducible refine gate_callee (f:=40) rfl ?_);refine goesL_ (some 27) rfl rfl Try.func40 (by kernel_rfl) rfl #[.slice A0 (l0.take ((ji5) : Int).toNat).length c0] rfl (by (try simp only [List.map_toArray,List.map_cons,List.map_nil]);first|done|(rw [show (l0.take ((ji5) : Int).toNat).length = (ji5).toNat from (by rw [List.length_take];have h_ : ((ji5) : Int) ≤ (l0.length : Int):=of_decide_eq_true (by first|(with_reducible assumption)|assumption);omega)] <;> rfl)|(simp only [hji5];rfl)|rfl|(simp only [List.length_drop,List.length_take];rfl)) ?_;(with_reducible refine (sacristylaw01_Num.calls k _ _ (l0.take ((ji5) : Int).toNat) t779 _ ?side1 ?side2 A11.out).mono ?_);(case side1 => repeat (first|exact (Kd.C_below HR777.out HB.out)|(with_reducible refine Kd.C_alloc ?_ _)|(with_reducible refine Kd.C_drewN ?_ _)|(with_reducible refine Kd.C_drew ?_)));(case side2 => exact HC777.out);rintro e w71 ⟨v780,rfl,ho0,hb⟩;refine ⟨_,rfl,?_⟩;have n0_:=Aside0.mk (Kd.V_lower (Kd.V_mono (ok':=fun k_ => True) ho0 (fun k_ hk_ => trivial)) (below_size (by repeat (first|(with_reducible first|exact HB.out|apply below_alloc|apply pw_below_drewN|apply below_drew1)|exact HB.out))));have n1_:=Aside0.mk (below_step (by repeat (first|(with_reducible first|exact HB.out|apply below_alloc|apply pw_below_drewN|apply below_drew1)|exact HB.out)) hb);clear HB;have HO781:=n0_;have HB:=n1_;clear n0_ n1_;(try clear hb);(try clear hb2);(try clear hk);(try clear hi);(try clear ho0))|((with_reducible refine gate_callee (f:=40) rfl ?_);refine goesL_ (some 29) rfl rfl Try.func40 (by kernel_rfl) rfl #[.slice A1 (l1.take ((ji8) : Int).toNat).length c1] rfl (by (try simp only [List.map_toArray,List.map_cons,List.map_nil]);first|done|(rw [show (l1.take ((ji8) : Int).toNat).length = (ji8).toNat from (by rw [List.length_take];have h_ : ((ji8) : Int) ≤ (l1.length : Int):=of_decide_eq_true (by first|(with_reducible assumption)|assumption);omega)] <;> rfl)|(simp only [hji8];rfl)|rfl|(simp only [List.length_drop,List.length_take];rfl)) ?_;(with_reducible refine (sacristylaw01_Num.calls k _ _ (l1.take ((ji8) : Int).toNat) t782 _ ?side1 ?side2 A12.out).mono ?_);(case side1 => repeat (first|exact (Kd.C_below HR778.out HB.out)|(with_reducible refine Kd.C_alloc ?_ _)|(with_reducible refine Kd.C_drewN ?_ _)|(with_reducible refine Kd.C_drew ?_)));(case side2 => exact HC778.out);rintro e w72 ⟨v783,rfl,ho0,hb⟩;refine ⟨_,rfl,?_⟩;have n0_:=Aside0.mk (Kd.V_below (by (with_reducible repeat (first|apply Kd.V_alloc|apply Kd.V_drewN|apply Kd.V_drew));exact HO781.out) hb);have n1_:=Aside0.mk (Kd.V_lower (Kd.V_mono (ok':=fun k_ => True) ho0 (fun k_ hk_ => trivial)) (below_size (by repeat (first|(with_reducible first|exact HB.out|apply below_alloc|apply pw_below_drewN|apply below_drew1)|exact HB.out))));have n2_:=Aside0.mk (below_step (by repeat (first|(with_reducible first|exact HB.out|apply below_alloc|apply pw_below_drewN|apply below_drew1)|exact HB.out)) hb);clear HO781;clear HB;have HO781:=n0_;have HO784:=n1_;have HB:=n2_;clear n0_ n1_ n2_;(try clear hb);(try clear hb2);(try clear hk);(try clear hi);(try clear ho0))|((with_reducible refine gate_dst (N:=5) rfl ?_);refine box_event ?hg (N:=5) ?hd (cs:=#[.slice none 0 0]) (t:=38) ?hr ?_;(case hd => rfl);(case hg => rfl);(case hr => first|(go_simp;done)|(go_simp;rfl));intro gb785 hg w73 hbox hb;have n0_:=Aside0.mk (Kd.V_below (Kd.V_elderB (by (with_reducible repeat (first|apply Kd.V_alloc|apply Kd.V_drewN|apply Kd.V_drew));exact HO781.out) gb785 (Nat.le_of_eq hg.symm)) hb);have n1_:=Aside0.mk (Kd.V_below (Kd.V_elderB (by (with_reducible repeat (first|apply Kd.V_alloc|apply Kd.V_drewN|apply Kd.V_drew));exact HO784.out) gb785 (Nat.le_of_eq hg.symm)) hb);have n2_:=Aside0.mk (below_step (by repeat (first|(with_reducible first|exact HB.out|apply below_alloc|apply pw_below_drewN|apply below_drew1)|exact HB.out)) hb);have n3_:=Aside0.mk (hbox);have n4_:=Aside0.mk ((by rw [hg];exact (below_size (by repeat (first|(with_reducible first|exact HB.out|apply below_alloc|apply pw_below_drewN|apply below_drew1)|exact HB.out))) : w.heap.size ≤ gb785));have n5_:=Aside0.mk ((by rw [hg];exact (below_size (by repeat (first|(with_reducible first|exact HB.out|apply below_alloc|apply pw_below_drewN|apply below_drew1)|exact HB.out))) : w.heap.size ≤ gb785));clear HO781;clear HO784;clear HB;have HO781:=n0_;have HO784:=n1_;have HB:=n2_;have BK785:=n3_;have GW785:=n4_;have GE785:=n5_;clear n0_ n1_ n2_ n3_ n4_ n5_;clear hb hbox hg)|((with_reducible refine gate_dst (N:=6) rfl ?_);refine box_event ?hg (N:=6) ?hd (cs:=#[.slice none 0 0]) (t:=38) ?hr ?_;(case hd => rfl);(case hg => rfl);(case hr => first|(go_simp;done)|(go_simp;rfl));intro gb786 hg w74 hbox hb;have n0_:=Aside0.mk (Kd.V_below (Kd.V_elderB (by (with_reducible repeat (first|apply Kd.V_alloc|apply Kd.V_drewN|apply Kd.V_drew));exact HO781.out) gb786 (Nat.le_of_eq hg.symm)) hb);have n1_:=Aside0.mk (Kd.V_below (Kd.V_elderB (by (with_reducible repeat (first|apply Kd.V_alloc|apply Kd.V_drewN|apply Kd.V_drew));exact HO784.out) gb786 (Nat.le_of_eq hg.symm)) hb);have n2_:=Aside0.mk (blk_below (g:=gb785) (o:=.cells #[.slice none 0 0] 38 (0,0)) (by (with_reducible repeat (first|refine blk_drewN ?_ _|refine blk_drew ?_|refine blk_alloc ?_ _));exact BK785.out) hb);have n3_:=Aside0.mk (below_step (by repeat (first|(with_reducible first|exact HB.out|apply below_alloc|apply pw_below_drewN|apply below_drew1|refine below_set ?_ GE785.out)|exact HB.out)) hb);have n4_:=Aside0.mk (hbox);have n5_:=Aside0.mk ((by rw [hg];exact (below_size (by repeat (first|(with_reducible first|exact HB.out|apply below_alloc|apply pw_below_drewN|apply below_drew1|refine below_set ?_ GE785.out)|exact HB.out))) : w.heap.size ≤ gb786));have n6_:=Aside0.mk ((by rw [hg];exact (below_size (by repeat (first|(with_reducible first|exact HB.out|apply below_alloc|apply pw_below_drewN|apply below_drew1|refine below_set ?_ GE785.out)|exact HB.out))) : w.heap.size ≤ gb786));have n7_:=Aside0.mk ((by rw [hg];exact Nat.ne_of_lt (blk_lt (g:=gb785) (o:=.cells #[.slice none 0 0] 38 (0,0)) (by (with_reducible repeat (first|refine blk_drewN ?_ _|refine blk_drew ?_|refine blk_alloc ?_ _));exact BK785.out)) : gb785 ≠ gb786));have n8_:=Aside0.mk ((by rw [hg];exact Nat.ne_of_gt (blk_lt (g:=gb785) (o:=.cells #[.slice none 0 0] 38 (0,0)) (by (with_reducible repeat (first|refine blk_drewN ?_ _|refine blk_drew ?_|refine blk_alloc ?_ _));exact BK785.out)) : gb786 ≠ gb785));clear HO781;clear HO784;clear BK785;clear HB;have HO781:=n0_;have HO784:=n1_;have BK785:=n2_;have HB:=n3_;have BK786:=n4_;have GW786:=n5_;have GE786:=n6_;have NB785_786:=n7_;have NB786_785:=n8_;clear n0_ n1_ n2_ n3_ n4_ n5_ n6_ n7_ n8_;clear hb hbox hg;obtain ⟨Ao75,co75,eo75⟩:=Kd.V_slice HO781.out;subst eo75;have hnb76:=NB785_786.out;have hnc76:=NB786_785.out;have hcz77_0 : w74.cell? ⟨gb785,0,none⟩ = some (.slice none 0 0):=(blk_cell BK785.out 0).trans rfl;have hfz77_0:=blk_frozen BK785.out 0)|((with_reducible refine gate_store (t:=38) (p:=5) rfl ?_);refine store_event (t:=38) (p:=5) (v:=?vo_w78) (w1:=(w74.setCell ⟨gb785,0,none⟩ (.slice Ao75 t779.length co75))) ?hg ?ho ?hn ?hr ?_;(case ho => rfl);(case hg => rfl);(case hn => rfl);(case hr => first|(go_simp;done)|(go_simp;rfl));intro w78 hw;have n0_ : Aside0 (Kd.V (Kd.int .u32) 23 w78 w.heap.size (fun k_ => k_ ≠ gb785 ∧ k_ ≠ gb786) (.slice Ao75 t779.length co75) t779):=⟨(by rw [hw];exact (by (with_reducible repeat (first|apply Kd.V_alloc|apply Kd.V_drewN|apply Kd.V_drew));exact Kd.V_mono (Kd.V_far (p:=⟨gb785,0,none⟩) (Kd.V_mono HO781.out (fun k_ hk => (⟨hk,hk.1.2⟩ : _ ∧ k_ ≠ gb785))) (fun _ hk => hk.2) (.slice Ao75 t779.length co75)) (fun _ hk => ⟨hk.1.1.2,hk.1.2⟩)))⟩;have n1_ : Aside0 (Kd.V (Kd.int .u32) 23 w78 w.heap.size (fun k_ => k_ ≠ gb785 ∧ k_ ≠ gb786) v783 t782):=⟨(by rw [hw];exact (by (with_reducible repeat (first|apply Kd.V_alloc|apply Kd.V_drewN|apply Kd.V_drew));exact Kd.V_mono (Kd.V_far (p:=⟨gb785,0,none⟩) (Kd.V_mono HO784.out (fun k_ hk => (⟨hk,hk.1.2⟩ : _ ∧ k_ ≠ gb785))) (fun _ hk => hk.2) (.slice Ao75 t779.length co75)) (fun _ hk => ⟨hk.1.1.2,hk.1.2⟩)))⟩;have n2_ : Aside0 (w78.heap[gb785]? = some (.cells #[.slice Ao75 t779.length co75] 38 (0,0))):=⟨(by rw [hw];exact (by (with_reducible repeat (first|refine blk_drewN ?_ _|refine blk_drew ?_|refine blk_alloc ?_ _));refine blk_put (cs:=#[.slice none 0 0]) ?_ 0 _ rfl;(with_reducible repeat (first|refine blk_drewN ?_ _|refine blk_drew ?_|refine blk_alloc ?_ _));exact BK785.out))⟩;have n3_ : Aside0 (w78.heap[gb786]? = some (.cells #[.slice none 0 0] 38 (0,0))):=⟨(by rw [hw];exact (by (with_reducible repeat (first|refine blk_drewN ?_ _|refine blk_drew ?_|refine blk_alloc ?_ _));refine blk_far ?_ NB786_785.out _;(with_reducible repeat (first|refine blk_drewN ?_ _|refine blk_drew ?_|refine blk_alloc ?_ _));exact BK786.out))⟩;have n4_ : Aside0 (Below w.heap.size w w78):=⟨(by rw [hw];exact (by repeat (first|(with_reducible first|exact HB.out|apply below_alloc|apply pw_below_drewN|apply below_drew1|refine below_set ?_ GE785.out|refine below_set ?_ GE786.out)|exact HB.out)))⟩;clear hw;clear HO781;clear HO784;clear BK785;clear BK786;clear HB;have HO781:=n0_;have HO784:=n1_;have BK785:=n2_;have BK786:=n3_;have HB:=n4_;clear n0_ n1_ n2_ n3_ n4_;obtain ⟨Ao79,co79,eo79⟩:=Kd.V_slice HO784.out;subst eo79;have hcz80_0 : w78.cell? ⟨gb786,0,none⟩ = some (.slice none 0 0):=(blk_cell BK786.out 0).trans rfl;have hfz80_0:=blk_frozen BK786.out 0)|((with_reducible refine gate_store (t:=38) (p:=6) rfl ?_);refine store_event (t:=38) (p:=6) (v:=?vo_w81) (w1:=(w78.setCell ⟨gb786,0,none⟩ (.slice Ao79 t782.length co79))) ?hg ?ho ?hn ?hr ?_;(case ho => rfl);(case hg => rfl);(case hn => rfl);(case hr => first|(go_simp;done)|(go_simp;rfl));intro w81 hw;have n0_ : Aside0 (Kd.V (Kd.int .u32) 23 w81 w.heap.size (fun k_ => k_ ≠ gb785 ∧ k_ ≠ gb786) (.slice Ao75 t779.length co75) t779):=⟨(by rw [hw];exact (by (with_reducible repeat (first|apply Kd.V_alloc|apply Kd.V_drewN|apply Kd.V_drew));exact Kd.V_mono (Kd.V_far (p:=⟨gb786,0,none⟩) (Kd.V_mono HO781.out (fun k_ hk => (⟨hk,hk.2⟩ : _ ∧ k_ ≠ gb786))) (fun _ hk => hk.2) (.slice Ao79 t782.length co79)) (fun _ hk => ⟨hk.1.1,hk.1.2⟩)))⟩;have n1_ : Aside0 (Kd.V (Kd.int .u32) 23 w81 w.heap.size (fun k_ => k_ ≠ gb785 ∧ k_ ≠ gb786) (.slice Ao79 t782.length co79) t782):=⟨(by rw [hw];exact (by (with_reducible repeat (first|apply Kd.V_alloc|apply Kd.V_drewN|apply Kd.V_drew));exact Kd.V_mono (Kd.V_far (p:=⟨gb786,0,none⟩) (Kd.V_mono HO784.out (fun k_ hk => (⟨hk,hk.2⟩ : _ ∧ k_ ≠ gb786))) (fun _ hk => hk.2) (.slice Ao79 t782.length co79)) (fun _ hk => ⟨hk.1.1,hk.1.2⟩)))⟩;have n2_ : Aside0 (w81.heap[gb785]? = some (.cells #[.slice Ao75 t779.length co75] 38 (0,0))):=⟨(by rw [hw];exact (by (with_reducible repeat (first|refine blk_drewN ?_ _|refine blk_drew ?_|refine blk_alloc ?_ _));refine blk_far ?_ NB785_786.out _;(with_reducible repeat (first|refine blk_drewN ?_ _|refine blk_drew ?_|refine blk_alloc ?_ _));exact BK785.out))⟩;have n3_ : Aside0 (w81.heap[gb786]? = some (.cells #[.slice Ao79 t782.length co79] 38 (0,0))):=⟨(by rw [hw];exact (by (with_reducible repeat (first|refine blk_drewN ?_ _|refine blk_drew ?_|refine blk_alloc ?_ _));refine blk_put (cs:=#[.slice none 0 0]) ?_ 0 _ rfl;(with_reducible repeat (first|refine blk_drewN ?_ _|refine blk_drew ?_|refine blk_alloc ?_ _));exact BK786.out))⟩;have n4_ : Aside0 (Below w.heap.size w w81):=⟨(by rw [hw];exact (by repeat (first|(with_reducible first|exact HB.out|apply below_alloc|apply pw_below_drewN|apply below_drew1|refine below_set ?_ GE785.out|refine below_set ?_ GE786.out)|exact HB.out)))⟩;clear hw;clear HO781;clear HO784;clear BK785;clear BK786;clear HB;have HO781:=n0_;have HO784:=n1_;have BK785:=n2_;have BK786:=n3_;have HB:=n4_;clear n0_ n1_ n2_ n3_ n4_;have hcz82_0 : w81.cell? ⟨gb785,0,none⟩ = some (.slice Ao75 t779.length co75):=(blk_cell BK785.out 0).trans rfl;have hfz82_0:=blk_frozen BK785.out 0;have hcz83_0 : w81.cell? ⟨gb786,0,none⟩ = some (.slice Ao79 t782.length co79):=(blk_cell BK786.out 0).trans rfl;have hfz83_0:=blk_frozen BK786.out 0)|((with_reducible refine gate_callee (f:=51) rfl ?_);refine goesL_ (some 32) rfl rfl Try.func51 (by kernel_rfl) rfl #[.agg #[.slice Ao75 t779.length co75],.agg #[.slice Ao79 t782.length co79]] rfl (by (try simp only [List.map_toArray,List.map_cons,List.map_nil]);first|done|rfl|(simp only [List.length_drop,List.length_take];rfl)) ?_;(with_reducible refine (nat_Nat_Gcd.calls k (fun k_ => (k_ ≠ gb785 ∧ k_ ≠ gb786)) _ _ t779 (fun k_ => (k_ ≠ gb785 ∧ k_ ≠ gb786)) _ _ t782 t787 _ ?side1 ?side2 A13.out).mono ?_);(case side1 => exact HO781.out);(case side2 => exact HO784.out);rintro e w84 ⟨v788,rfl,ho0,hb⟩;refine ⟨_,rfl,?_⟩;have n0_:=Aside0.mk (Kd.V_below (by (with_reducible repeat (first|apply Kd.V_alloc|apply Kd.V_drewN|apply Kd.V_drew));exact HO781.out) hb);have n1_:=Aside0.mk (Kd.V_below (by (with_reducible repeat (first|apply Kd.V_alloc|apply Kd.V_drewN|apply Kd.V_drew));exact HO784.out) hb);have n2_:=Aside0.mk (Kd.V_lower (Kd.V_mono (ok':=fun k_ => k_ ≠ gb785 ∧ k_ ≠ gb786) ho0 (fun k_ hk_ => ⟨Or.elim hk_ (fun hs_ => Or.elim hs_ (fun hs_ => hs_.1) (fun hs_ => hs_.1)) (fun hn_ => (Kd.freshB (g:=gb785) (o:=.cells #[.slice Ao75 t779.length co75] 38 (0,0)) (by (with_reducible repeat (first|refine blk_drewN ?_ _|refine blk_drew ?_|refine blk_alloc ?_ _));exact BK785.out) k_ hn_)),Or.elim hk_ (fun hs_ => Or.elim hs_ (fun hs_ => hs_.2) (fun hs_ => hs_.2)) (fun hn_ => (Kd.freshB (g:=gb786) (o:=.cells #[.slice Ao79 t782.length co79] 38 (0,0)) (by (with_reducible repeat (first|refine blk_drewN ?_ _|refine blk_drew ?_|refine blk_alloc ?_ _));exact BK786.out) k_ hn_))⟩)) (below_size (by repeat (first|(with_reducible first|exact HB.out|apply below_alloc|apply pw_below_drewN|apply below_drew1|refine below_set ?_ GE785.out|refine below_set ?_ GE786.out)|exact HB.out))));have n3_:=Aside0.mk (blk_below (g:=gb785) (o:=.cells #[.slice Ao75 t779.length co75] 38 (0,0)) (by (with_reducible repeat (first|refine blk_drewN ?_ _|refine blk_drew ?_|refine blk_alloc ?_ _));exact BK785.out) hb);have n4_:=Aside0.mk (blk_below (g:=gb786) (o:=.cells #[.slice Ao79 t782.length co79] 38 (0,0)) (by (with_reducible repeat (first|refine blk_drewN ?_ _|refine blk_drew ?_|refine blk_alloc ?_ _));exact BK786.out) hb);have n5_:=Aside0.mk (below_step (by repeat (first|(with_reducible first|exact HB.out|apply below_alloc|apply pw_below_drewN|apply below_drew1|refine below_set ?_ GE785.out|refine below_set ?_ GE786.out)|exact HB.out)) hb);clear HO781;clear HO784;clear BK785;clear BK786;clear HB;have HO781:=n0_;have HO784:=n1_;have HO789:=n2_;have BK785:=n3_;have BK786:=n4_;have HB:=n5_;clear n0_ n1_ n2_ n3_ n4_ n5_;(try clear hb);(try clear hb2);(try clear hk);(try clear hi);(try clear ho0))|((with_reducible refine gate_dst (N:=7) rfl ?_);refine box_event ?hg (N:=7) ?hd (cs:=#[.slice none 0 0]) (t:=38) ?hr ?_;(case hd => rfl);(case hg => rfl);(case hr => first|(go_simp;done)|(go_simp;rfl));intro gb790 hg w85 hbox hb;have n0_:=Aside0.mk (Kd.V_below (Kd.V_elderB (by (with_reducible repeat (first|apply Kd.V_alloc|apply Kd.V_drewN|apply Kd.V_drew));exact HO781.out) gb790 (Nat.le_of_eq hg.symm)) hb);have n1_:=Aside0.mk (Kd.V_below (Kd.V_elderB (by (with_reducible repeat (first|apply Kd.V_alloc|apply Kd.V_drewN|apply Kd.V_drew));exact HO784.out) gb790 (Nat.le_of_eq hg.symm)) hb);have n2_:=Aside0.mk (Kd.V_below (Kd.V_elderB (by (with_reducible repeat (first|apply Kd.V_alloc|apply Kd.V_drewN|apply Kd.V_drew));exact HO789.out) gb790 (Nat.le_of_eq hg.symm)) hb);have n3_:=Aside0.mk (blk_below (g:=gb785) (o:=.cells #[.slice Ao75 t779.length co75] 38 (0,0)) (by (with_reducible repeat (first|refine blk_drewN ?_ _|refine blk_drew ?_|refine blk_alloc ?_ _));exact BK785.out) hb);have n4_:=Aside0.mk (blk_below (g:=gb786) (o:=.cells #[.slice Ao79 t782.length co79] 38 (0,0)) (by (with_reducible repeat (first|refine blk_drewN ?_ _|refine blk_drew ?_|refine blk_alloc ?_ _));exact BK786.out) hb);have n5_:=Aside0.mk (below_step (by repeat (first|(with_reducible first|exact HB.out|apply below_alloc|apply pw_below_drewN|apply below_drew1|refine below_set ?_ GE785.out|refine below_set ?_ GE786.out)|exact HB.out)) hb);have n6_:=Aside0.mk (hbox);have n7_:=Aside0.mk ((by rw [hg];exact (below_size (by repeat (first|(with_reducible first|exact HB.out|apply below_alloc|apply pw_below_drewN|apply below_drew1|refine below_set ?_ GE785.out|refine below_set ?_ GE786.out)|exact HB.out))) : w.heap.size ≤ gb790));have n8_:=Aside0.mk ((by rw [hg];exact (below_size (by repeat (first|(with_reducible first|exact HB.out|apply below_alloc|apply pw_below_drewN|apply below_drew1|refine below_set ?_ GE785.out|refine below_set ?_ GE786.out)|exact HB.out))) : w.heap.size ≤ gb790));have n9_:=Aside0.mk ((by rw [hg];exact Nat.ne_of_lt (blk_lt (g:=gb785) (o:=.cells #[.slice Ao75 t779.length co75] 38 (0,0)) (by (with_reducible repeat (first|refine blk_drewN ?_ _|refine blk_drew ?_|refine blk_alloc ?_ _));exact BK785.out)) : gb785 ≠ gb790));have n10_:=Aside0.mk ((by rw [hg];exact Nat.ne_of_gt (blk_lt (g:=gb785) (o:=.cells #[.slice Ao75 t779.length co75] 38 (0,0)) (by (with_reducible repeat (first|refine blk_drewN ?_ _|refine blk_drew ?_|refine blk_alloc ?_ _));exact BK785.out)) : gb790 ≠ gb785));have n11_:=Aside0.mk ((by rw [hg];exact Nat.ne_of_lt (blk_lt (g:=gb786) (o:=.cells #[.slice Ao79 t782.length co79] 38 (0,0)) (by (with_reducible repeat (first|refine blk_drewN ?_ _|refine blk_drew ?_|refine blk_alloc ?_ _));exact BK786.out)) : gb786 ≠ gb790));have n12_:=Aside0.mk ((by rw [hg];exact Nat.ne_of_gt (blk_lt (g:=gb786) (o:=.cells #[.slice Ao79 t782.length co79] 38 (0,0)) (by (with_reducible repeat (first|refine blk_drewN ?_ _|refine blk_drew ?_|refine blk_alloc ?_ _));exact BK786.out)) : gb790 ≠ gb786));clear HO781;clear HO784;clear HO789;clear BK785;clear BK786;clear HB;have HO781:=n0_;have HO784:=n1_;have HO789:=n2_;have BK785:=n3_;have BK786:=n4_;have HB:=n5_;have BK790:=n6_;have GW790:=n7_;have GE790:=n8_;have NB785_790:=n9_;have NB790_785:=n10_;have NB786_790:=n11_;have NB790_786:=n12_;clear n0_ n1_ n2_ n3_ n4_ n5_ n6_ n7_ n8_ n9_ n10_ n11_ n12_;clear hb hbox hg;obtain ⟨Ao86,co86,eo86⟩:=Kd.V_slice HO789.out;subst eo86;have hnb87:=NB790_785.out;have hnc87:=NB785_790.out;have hnb88:=NB790_786.out;have hnc88:=NB786_790.out;have hcz89_0 : w85.cell? ⟨gb790,0,none⟩ = some (.slice none 0 0):=(blk_cell BK790.out 0).trans rfl;have hfz89_0:=blk_frozen BK790.out 0))
         have n0_ : Aside0 (Kd.V (Kd.int .u32) 23 (w85.setCell ⟨gb790,0,none⟩ (.slice Ao86 t787.length co86)) w.heap.size (fun k_ => k_ ≠ gb785 ∧ k_ ≠ gb786 ∧ k_ ≠ gb790) (.slice Ao75 t779.length co75) t779):=⟨by (with_reducible repeat (first|apply Kd.V_alloc|apply Kd.V_drewN|apply Kd.V_drew));exact Kd.V_mono (Kd.V_far (p:=⟨gb790,0,none⟩) (Kd.V_mono HO781.out (fun k_ hk => (⟨hk,hk.2⟩ : _ ∧ k_ ≠ gb790))) (fun _ hk => hk.2) (.slice Ao86 t787.length co86)) (fun _ hk => ⟨hk.1.1.1,⟨hk.1.1.2,hk.1.2⟩⟩)⟩
         have n1_ : Aside0 (Kd.V (Kd.int .u32) 23 (w85.setCell ⟨gb790,0,none⟩ (.slice Ao86 t787.length co86)) w.heap.size (fun k_ => k_ ≠ gb785 ∧ k_ ≠ gb786 ∧ k_ ≠ gb790) (.slice Ao79 t782.length co79) t782):=⟨by (with_reducible repeat (first|apply Kd.V_alloc|apply Kd.V_drewN|apply Kd.V_drew));exact Kd.V_mono (Kd.V_far (p:=⟨gb790,0,none⟩) (Kd.V_mono HO784.out (fun k_ hk => (⟨hk,hk.2⟩ : _ ∧ k_ ≠ gb790))) (fun _ hk => hk.2) (.slice Ao86 t787.length co86)) (fun _ hk => ⟨hk.1.1.1,⟨hk.1.1.2,hk.1.2⟩⟩)⟩
         have n2_ : Aside0 (Kd.V (Kd.int .u32) 23 (w85.setCell ⟨gb790,0,none⟩ (.slice Ao86 t787.length co86)) w.heap.size (fun k_ => k_ ≠ gb785 ∧ k_ ≠ gb786 ∧ k_ ≠ gb790) (.slice Ao86 t787.length co86) t787):=⟨by (with_reducible repeat (first|apply Kd.V_alloc|apply Kd.V_drewN|apply Kd.V_drew));exact Kd.V_mono (Kd.V_far (p:=⟨gb790,0,none⟩) (Kd.V_mono HO789.out (fun k_ hk => (⟨hk,hk.2⟩ : _ ∧ k_ ≠ gb790))) (fun _ hk => hk.2) (.slice Ao86 t787.length co86)) (fun _ hk => ⟨hk.1.1.1,⟨hk.1.1.2,hk.1.2⟩⟩)⟩
         have n3_ : Aside0 ((w85.setCell ⟨gb790,0,none⟩ (.slice Ao86 t787.length co86)).heap[gb785]? = some (.cells #[.slice Ao75 t779.length co75] 38 (0,0))):=⟨by (with_reducible repeat (first|refine blk_drewN ?_ _|refine blk_drew ?_|refine blk_alloc ?_ _));refine blk_far ?_ NB785_790.out _;(with_reducible repeat (first|refine blk_drewN ?_ _|refine blk_drew ?_|refine blk_alloc ?_ _));exact BK785.out⟩
         have n4_ : Aside0 ((w85.setCell ⟨gb790,0,none⟩ (.slice Ao86 t787.length co86)).heap[gb786]? = some (.cells #[.slice Ao79 t782.length co79] 38 (0,0))):=⟨by (with_reducible repeat (first|refine blk_drewN ?_ _|refine blk_drew ?_|refine blk_alloc ?_ _));refine blk_far ?_ NB786_790.out _;(with_reducible repeat (first|refine blk_drewN ?_ _|refine blk_drew ?_|refine blk_alloc ?_ _));exact BK786.out⟩
         have n5_ : Aside0 ((w85.setCell ⟨gb790,0,none⟩ (.slice Ao86 t787.length co86)).heap[gb790]? = some (.cells #[.slice Ao86 t787.length co86] 38 (0,0))):=⟨by (with_reducible repeat (first|refine blk_drewN ?_ _|refine blk_drew ?_|refine blk_alloc ?_ _));refine blk_put (cs:=#[.slice none 0 0]) ?_ 0 _ rfl;(with_reducible repeat (first|refine blk_drewN ?_ _|refine blk_drew ?_|refine blk_alloc ?_ _));exact BK790.out⟩
         have n6_ : Aside0 (Below w.heap.size w (w85.setCell ⟨gb790,0,none⟩ (.slice Ao86 t787.length co86))):=⟨by repeat (first|(with_reducible first|exact HB.out|apply below_alloc|apply pw_below_drewN|apply below_drew1|refine below_set ?_ GE785.out|refine below_set ?_ GE786.out|refine below_set ?_ GE790.out)|exact HB.out)⟩
         (try clear HO781)
         (try clear HO784)
         (try clear HO789)
         (try clear BK785)
         (try clear BK786)
         (try clear BK790)
         (try clear HB)
         generalize (w85.setCell ⟨gb790,0,none⟩ (.slice Ao86 t787.length co86)) = w90 at n0_ n1_ n2_ n3_ n4_ n5_ n6_ ⊢
         have HO781:=n0_
         have HO784:=n1_
         have HO789:=n2_
         have BK785:=n3_
         have BK786:=n4_
         have BK790:=n5_
         have HB:=n6_
         clear n0_ n1_ n2_ n3_ n4_ n5_ n6_
         have n0_:=Aside0.mk (Kd.V_drew HO781.out)
         have n1_:=Aside0.mk (Kd.V_drew HO784.out)
         have n2_:=Aside0.mk (Kd.V_drew HO789.out)
         have n3_:=Aside0.mk (blk_drew BK785.out)
         have n4_:=Aside0.mk (blk_drew BK786.out)
         have n5_:=Aside0.mk (blk_drew BK790.out)
         have n6_:=Aside0.mk (below_drew1 HB.out)
         clear HO781
         clear HO784
         clear HO789
         clear BK785
         clear BK786
         clear BK790
         clear HB
         have HO781:=n0_
         have HO784:=n1_
         have HO789:=n2_
         have BK785:=n3_
         have BK786:=n4_
         have BK790:=n5_
         have HB:=n6_
         clear n0_ n1_ n2_ n3_ n4_ n5_ n6_
         refine start_ (n:=8) (S:=fun w' => w'.cell? ⟨gb790,0,none⟩ = some (.slice Ao86 t787.length co86)) (ds:=[]) #[false,false,false,false,false,false,false,false] (by kernel_rfl) rfl rfl ((blk_cell BK790.out 0).trans rfl) (fun hHeld => ?_);refine with_tabW sacristylaw01_NatGcds.tab6 sacristylaw01_NatGcds.bits6 (fun HT_ HW_ => ?_)
         generalize w90.drew = w91 at HO781 HO784 HO789 BK785 BK786 BK790 HB hHeld ⊢
         refine pure_ (i:=1) (N:=some 34) (v:=?_) (a':=?_) #[false,true,false,false,false,false,false,false] rfl rfl (any_of HT_.out (by kernel_rfl)) (fun _ _ _ h => h) (Or.inl ⟨by rfl,?_⟩) ?_ ?_
         rotate_left
         ·intro w'
          go_simp
          with_reducible rfl
         rotate_left
         ·simp only [Act.put,List.setIfInBounds_toArray,List.set_cons_zero,List.set_cons_succ,i64_w,i32_w]
          rfl
         refine pure_ (i:=3) (N:=some 36) (v:=?_) (a':=?_) #[false,true,false,true,false,false,false,false] rfl rfl (any_of HT_.out (by kernel_rfl)) (fun _ _ _ h => h) (Or.inl ⟨by rfl,?_⟩) ?_ ?_
         rotate_left
         ·intro w'
          go_simp
          with_reducible rfl
         rotate_left
         ·simp only [Act.put,List.setIfInBounds_toArray,List.set_cons_zero,List.set_cons_succ,i64_w,i32_w]
          rfl
         refine take_ (i:=0) (N:=some 33) (v:=?_) (a':=?_) #[true,true,false,true,false,false,false,false] rfl rfl (take_ofW HT_.out HW_.out (by kernel_rfl)) (fun _ _ _ h => h) (Or.inl ⟨by rfl,?_⟩) hHeld ?_ ?_
         rotate_left
         ·intro w' s0
          go_simp
          with_reducible rfl
         rotate_left
         ·simp only [Act.put,List.setIfInBounds_toArray,List.set_cons_zero,List.set_cons_succ,i64_w,i32_w]
          rfl
         refine one_ (i:=2) (N:=some 35) #[true,true,true,true,false,false,false,false] rfl rfl (one_of HT_.out (by kernel_rfl)) (by decide) (fun K hK => ?_)
         refine goes_ Try.func41 (by kernel_rfl) rfl #[.slice A0 (l0.take ((ji5) : Int).toNat).length c0] (by rfl) rfl rfl (by (try simp only [List.map_toArray,List.map_cons,List.map_nil]);first|done|(rw [show (l0.take ((ji5) : Int).toNat).length = (ji5).toNat from (by rw [List.length_take];have h_ : ((ji5) : Int) ≤ (l0.length : Int):=of_decide_eq_true (by first|(with_reducible assumption)|assumption);omega)] <;> rfl)|(simp only [hji5];rfl)|rfl|(simp only [List.length_drop,List.length_take];rfl)) ?_
         with_reducible refine (sacristylaw01_ref.calls k _ _ (l0.take ((ji5) : Int).toNat) t791 _ ?side1 ?side2 A14.out).mono ?_
         (case side1 => repeat (first|exact (Kd.C_below HR777.out HB.out)|(with_reducible refine Kd.C_alloc ?_ _)|(with_reducible refine Kd.C_drewN ?_ _)|(with_reducible refine Kd.C_drew ?_)))
         (case side2 => exact HC777.out)
         rintro e w92 ⟨v792,rfl,ho0,hb⟩
         refine ⟨_,rfl,?_⟩
         have n0_:=Aside0.mk (Kd.V_below (by (with_reducible repeat (first|apply Kd.V_alloc|apply Kd.V_drewN|apply Kd.V_drew));exact HO781.out) hb)
         have n1_:=Aside0.mk (Kd.V_below (by (with_reducible repeat (first|apply Kd.V_alloc|apply Kd.V_drewN|apply Kd.V_drew));exact HO784.out) hb)
         have n2_:=Aside0.mk (Kd.V_below (by (with_reducible repeat (first|apply Kd.V_alloc|apply Kd.V_drewN|apply Kd.V_drew));exact HO789.out) hb)
         have n3_:=Aside0.mk (Kd.V_lower (Kd.V_mono (ok':=fun k_ => k_ ≠ gb785 ∧ k_ ≠ gb786 ∧ k_ ≠ gb790) ho0 (fun k_ hk_ => ⟨(Kd.freshB (g:=gb785) (o:=.cells #[.slice Ao75 t779.length co75] 38 (0,0)) (by (with_reducible repeat (first|refine blk_drewN ?_ _|refine blk_drew ?_|refine blk_alloc ?_ _));exact BK785.out) k_ hk_),(Kd.freshB (g:=gb786) (o:=.cells #[.slice Ao79 t782.length co79] 38 (0,0)) (by (with_reducible repeat (first|refine blk_drewN ?_ _|refine blk_drew ?_|refine blk_alloc ?_ _));exact BK786.out) k_ hk_),(Kd.freshB (g:=gb790) (o:=.cells #[.slice Ao86 t787.length co86] 38 (0,0)) (by (with_reducible repeat (first|refine blk_drewN ?_ _|refine blk_drew ?_|refine blk_alloc ?_ _));exact BK790.out) k_ hk_)⟩)) (below_size (by repeat (first|(with_reducible first|exact HB.out|apply below_alloc|apply pw_below_drewN|apply below_drew1|refine below_set ?_ GE785.out|refine below_set ?_ GE786.out|refine below_set ?_ GE790.out)|exact HB.out))))
         have n4_:=Aside0.mk (blk_below (g:=gb785) (o:=.cells #[.slice Ao75 t779.length co75] 38 (0,0)) (by (with_reducible repeat (first|refine blk_drewN ?_ _|refine blk_drew ?_|refine blk_alloc ?_ _));exact BK785.out) hb)
         have n5_:=Aside0.mk (blk_below (g:=gb786) (o:=.cells #[.slice Ao79 t782.length co79] 38 (0,0)) (by (with_reducible repeat (first|refine blk_drewN ?_ _|refine blk_drew ?_|refine blk_alloc ?_ _));exact BK786.out) hb)
         have n6_:=Aside0.mk (blk_below (g:=gb790) (o:=.cells #[.slice Ao86 t787.length co86] 38 (0,0)) (by (with_reducible repeat (first|refine blk_drewN ?_ _|refine blk_drew ?_|refine blk_alloc ?_ _));exact BK790.out) hb)
         have n7_:=Aside0.mk (below_step (by repeat (first|(with_reducible first|exact HB.out|apply below_alloc|apply pw_below_drewN|apply below_drew1|refine below_set ?_ GE785.out|refine below_set ?_ GE786.out|refine below_set ?_ GE790.out)|exact HB.out)) hb)
         clear HO781
         clear HO784
         clear HO789
         clear BK785
         clear BK786
         clear BK790
         clear HB
         have HO781:=n0_
         have HO784:=n1_
         have HO789:=n2_
         have HO793:=n3_
         have BK785:=n4_
         have BK786:=n5_
         have BK790:=n6_
         have HB:=n7_
         clear n0_ n1_ n2_ n3_ n4_ n5_ n6_ n7_
         (try clear hb)
         (try clear hb2)
         (try clear hk)
         (try clear hi)
         (try clear ho0)
         refine hK.out _ _ ((blk_cell BK790.out 0).trans rfl) (fun hHeld => ?_)
         clear hK K
         refine norm_ (a':=?_) ?_ ?_
         rotate_left
         ·show Act.put _ (some 35) _ = _
          simp only [Act.put,List.setIfInBounds_toArray,List.set_cons_zero,List.set_cons_succ,i64_w,i32_w]
          rfl
         refine one_ (i:=4) (N:=some 37) #[true,true,true,true,true,false,false,false] rfl rfl (one_of HT_.out (by kernel_rfl)) (by decide) (fun K hK => ?_)
         refine goes_ Try.func41 (by kernel_rfl) rfl #[.slice A1 (l1.take ((ji8) : Int).toNat).length c1] (by rfl) rfl rfl (by (try simp only [List.map_toArray,List.map_cons,List.map_nil]);first|done|(rw [show (l1.take ((ji8) : Int).toNat).length = (ji8).toNat from (by rw [List.length_take];have h_ : ((ji8) : Int) ≤ (l1.length : Int):=of_decide_eq_true (by first|(with_reducible assumption)|assumption);omega)] <;> rfl)|(simp only [hji8];rfl)|rfl|(simp only [List.length_drop,List.length_take];rfl)) ?_
         with_reducible refine (sacristylaw01_ref.calls k _ _ (l1.take ((ji8) : Int).toNat) t794 _ ?side1 ?side2 A15.out).mono ?_
         (case side1 => repeat (first|exact (Kd.C_below HR778.out HB.out)|(with_reducible refine Kd.C_alloc ?_ _)|(with_reducible refine Kd.C_drewN ?_ _)|(with_reducible refine Kd.C_drew ?_)))
         (case side2 => exact HC778.out)
         rintro e w93 ⟨v795,rfl,ho0,hb⟩
         refine ⟨_,rfl,?_⟩
         have n0_:=Aside0.mk (Kd.V_below (by (with_reducible repeat (first|apply Kd.V_alloc|apply Kd.V_drewN|apply Kd.V_drew));exact HO781.out) hb)
         have n1_:=Aside0.mk (Kd.V_below (by (with_reducible repeat (first|apply Kd.V_alloc|apply Kd.V_drewN|apply Kd.V_drew));exact HO784.out) hb)
         have n2_:=Aside0.mk (Kd.V_below (by (with_reducible repeat (first|apply Kd.V_alloc|apply Kd.V_drewN|apply Kd.V_drew));exact HO789.out) hb)
         have n3_:=Aside0.mk (Kd.V_below (by (with_reducible repeat (first|apply Kd.V_alloc|apply Kd.V_drewN|apply Kd.V_drew));exact HO793.out) hb)
         have n4_:=Aside0.mk (Kd.V_lower (Kd.V_mono (ok':=fun k_ => k_ ≠ gb785 ∧ k_ ≠ gb786 ∧ k_ ≠ gb790) ho0 (fun k_ hk_ => ⟨(Kd.freshB (g:=gb785) (o:=.cells #[.slice Ao75 t779.length co75] 38 (0,0)) (by (with_reducible repeat (first|refine blk_drewN ?_ _|refine blk_drew ?_|refine blk_alloc ?_ _));exact BK785.out) k_ hk_),(Kd.freshB (g:=gb786) (o:=.cells #[.slice Ao79 t782.length co79] 38 (0,0)) (by (with_reducible repeat (first|refine blk_drewN ?_ _|refine blk_drew ?_|refine blk_alloc ?_ _));exact BK786.out) k_ hk_),(Kd.freshB (g:=gb790) (o:=.cells #[.slice Ao86 t787.length co86] 38 (0,0)) (by (with_reducible repeat (first|refine blk_drewN ?_ _|refine blk_drew ?_|refine blk_alloc ?_ _));exact BK790.out) k_ hk_)⟩)) (below_size (by repeat (first|(with_reducible first|exact HB.out|apply below_alloc|apply pw_below_drewN|apply below_drew1|refine below_set ?_ GE785.out|refine below_set ?_ GE786.out|refine below_set ?_ GE790.out)|exact HB.out))))
         have n5_:=Aside0.mk (blk_below (g:=gb785) (o:=.cells #[.slice Ao75 t779.length co75] 38 (0,0)) (by (with_reducible repeat (first|refine blk_drewN ?_ _|refine blk_drew ?_|refine blk_alloc ?_ _));exact BK785.out) hb)
         have n6_:=Aside0.mk (blk_below (g:=gb786) (o:=.cells #[.slice Ao79 t782.length co79] 38 (0,0)) (by (with_reducible repeat (first|refine blk_drewN ?_ _|refine blk_drew ?_|refine blk_alloc ?_ _));exact BK786.out) hb)
         have n7_:=Aside0.mk (blk_below (g:=gb790) (o:=.cells #[.slice Ao86 t787.length co86] 38 (0,0)) (by (with_reducible repeat (first|refine blk_drewN ?_ _|refine blk_drew ?_|refine blk_alloc ?_ _));exact BK790.out) hb)
         have n8_:=Aside0.mk (below_step (by repeat (first|(with_reducible first|exact HB.out|apply below_alloc|apply pw_below_drewN|apply below_drew1|refine below_set ?_ GE785.out|refine below_set ?_ GE786.out|refine below_set ?_ GE790.out)|exact HB.out)) hb)
         clear HO781
         clear HO784
         clear HO789
         clear HO793
         clear BK785
         clear BK786
         clear BK790
         clear HB
         have HO781:=n0_
         have HO784:=n1_
         have HO789:=n2_
         have HO793:=n3_
         have HO796:=n4_
         have BK785:=n5_
         have BK786:=n6_
         have BK790:=n7_
         have HB:=n8_
         clear n0_ n1_ n2_ n3_ n4_ n5_ n6_ n7_ n8_
         (try clear hb)
         (try clear hb2)
         (try clear hk)
         (try clear hi)
         (try clear ho0)
         obtain ⟨Ao94,co94,eo94⟩:=Kd.V_slice HO793.out
         (first|subst eo94|(injection eo94 with f1_ f2_ f3_;have f4_:=f1_.symm;have f5_:=f3_.symm;clear f1_ f2_ f3_;subst f4_;subst f5_))
         obtain ⟨Ao95,co95,eo95⟩:=Kd.V_slice HO796.out
         (first|subst eo95|(injection eo95 with f1_ f2_ f3_;have f4_:=f1_.symm;have f5_:=f3_.symm;clear f1_ f2_ f3_;subst f4_;subst f5_))
         refine hK.out _ _ ((blk_cell BK790.out 0).trans rfl) (fun hHeld => ?_)
         clear hK K
         refine norm_ (a':=?_) ?_ ?_
         rotate_left
         ·show Act.put _ (some 37) _ = _
          simp only [Act.put,List.setIfInBounds_toArray,List.set_cons_zero,List.set_cons_succ,i64_w,i32_w]
          rfl
         refine one_ (i:=5) (N:=some 38) #[true,true,true,true,true,true,false,false] rfl rfl (one_of HT_.out (by kernel_rfl)) (by decide) (fun K hK => ?_)
         refine goes_ Try.func52 (by kernel_rfl) rfl #[.slice Ao94 t791.length co94,.slice Ao95 t794.length co95] (by rfl) rfl rfl (by (try simp only [List.map_toArray,List.map_cons,List.map_nil]);first|done|rfl|(simp only [List.length_drop,List.length_take];rfl)) ?_
         with_reducible refine (sacristyref01_Gcd.calls k (fun k_ => (k_ ≠ gb785 ∧ (k_ ≠ gb786 ∧ k_ ≠ gb790))) _ _ t791 (fun k_ => (k_ ≠ gb785 ∧ (k_ ≠ gb786 ∧ k_ ≠ gb790))) _ _ t794 t797 _ ?side1 ?side2 A16.out).mono ?_
         (case side1 => exact HO793.out)
         (case side2 => exact HO796.out)
         rintro e w96 ⟨v798,rfl,ho0,hb⟩
         refine ⟨_,rfl,?_⟩
         have n0_:=Aside0.mk (Kd.V_below (by (with_reducible repeat (first|apply Kd.V_alloc|apply Kd.V_drewN|apply Kd.V_drew));exact HO781.out) hb)
         have n1_:=Aside0.mk (Kd.V_below (by (with_reducible repeat (first|apply Kd.V_alloc|apply Kd.V_drewN|apply Kd.V_drew));exact HO784.out) hb)
         have n2_:=Aside0.mk (Kd.V_below (by (with_reducible repeat (first|apply Kd.V_alloc|apply Kd.V_drewN|apply Kd.V_drew));exact HO789.out) hb)
         have n3_:=Aside0.mk (Kd.V_below (by (with_reducible repeat (first|apply Kd.V_alloc|apply Kd.V_drewN|apply Kd.V_drew));exact HO793.out) hb)
         have n4_:=Aside0.mk (Kd.V_below (by (with_reducible repeat (first|apply Kd.V_alloc|apply Kd.V_drewN|apply Kd.V_drew));exact HO796.out) hb)
         have n5_:=Aside0.mk (Kd.V_lower (Kd.V_mono (ok':=fun k_ => k_ ≠ gb785 ∧ k_ ≠ gb786 ∧ k_ ≠ gb790) ho0 (fun k_ hk_ => ⟨Or.elim hk_ (fun hs_ => Or.elim hs_ (fun hs_ => hs_.1) (fun hs_ => hs_.1)) (fun hn_ => (Kd.freshB (g:=gb785) (o:=.cells #[.slice Ao75 t779.length co75] 38 (0,0)) (by (with_reducible repeat (first|refine blk_drewN ?_ _|refine blk_drew ?_|refine blk_alloc ?_ _));exact BK785.out) k_ hn_)),Or.elim hk_ (fun hs_ => Or.elim hs_ (fun hs_ => hs_.2.1) (fun hs_ => hs_.2.1)) (fun hn_ => (Kd.freshB (g:=gb786) (o:=.cells #[.slice Ao79 t782.length co79] 38 (0,0)) (by (with_reducible repeat (first|refine blk_drewN ?_ _|refine blk_drew ?_|refine blk_alloc ?_ _));exact BK786.out) k_ hn_)),Or.elim hk_ (fun hs_ => Or.elim hs_ (fun hs_ => hs_.2.2) (fun hs_ => hs_.2.2)) (fun hn_ => (Kd.freshB (g:=gb790) (o:=.cells #[.slice Ao86 t787.length co86] 38 (0,0)) (by (with_reducible repeat (first|refine blk_drewN ?_ _|refine blk_drew ?_|refine blk_alloc ?_ _));exact BK790.out) k_ hn_))⟩)) (below_size (by repeat (first|(with_reducible first|exact HB.out|apply below_alloc|apply pw_below_drewN|apply below_drew1|refine below_set ?_ GE785.out|refine below_set ?_ GE786.out|refine below_set ?_ GE790.out)|exact HB.out))))
         have n6_:=Aside0.mk (blk_below (g:=gb785) (o:=.cells #[.slice Ao75 t779.length co75] 38 (0,0)) (by (with_reducible repeat (first|refine blk_drewN ?_ _|refine blk_drew ?_|refine blk_alloc ?_ _));exact BK785.out) hb)
         have n7_:=Aside0.mk (blk_below (g:=gb786) (o:=.cells #[.slice Ao79 t782.length co79] 38 (0,0)) (by (with_reducible repeat (first|refine blk_drewN ?_ _|refine blk_drew ?_|refine blk_alloc ?_ _));exact BK786.out) hb)
         have n8_:=Aside0.mk (blk_below (g:=gb790) (o:=.cells #[.slice Ao86 t787.length co86] 38 (0,0)) (by (with_reducible repeat (first|refine blk_drewN ?_ _|refine blk_drew ?_|refine blk_alloc ?_ _));exact BK790.out) hb)
         have n9_:=Aside0.mk (below_step (by repeat (first|(with_reducible first|exact HB.out|apply below_alloc|apply pw_below_drewN|apply below_drew1|refine below_set ?_ GE785.out|refine below_set ?_ GE786.out|refine below_set ?_ GE790.out)|exact HB.out)) hb)
         clear HO781
         clear HO784
         clear HO789
         clear HO793
         clear HO796
         clear BK785
         clear BK786
         clear BK790
         clear HB
         have HO781:=n0_
         have HO784:=n1_
         have HO789:=n2_
         have HO793:=n3_
         have HO796:=n4_
         have HO799:=n5_
         have BK785:=n6_
         have BK786:=n7_
         have BK790:=n8_
         have HB:=n9_
         clear n0_ n1_ n2_ n3_ n4_ n5_ n6_ n7_ n8_ n9_
         (try clear hb)
         (try clear hb2)
         (try clear hk)
         (try clear hi)
         (try clear ho0)
         obtain ⟨Ao97,co97,eo97⟩:=Kd.V_slice HO799.out
         (first|subst eo97|(injection eo97 with f1_ f2_ f3_;have f4_:=f1_.symm;have f5_:=f3_.symm;clear f1_ f2_ f3_;subst f4_;subst f5_))
         refine hK.out _ _ ((blk_cell BK790.out 0).trans rfl) (fun hHeld => ?_)
         clear hK K
         refine norm_ (a':=?_) ?_ ?_
         rotate_left
         ·show Act.put _ (some 38) _ = _
          simp only [Act.put,List.setIfInBounds_toArray,List.set_cons_zero,List.set_cons_succ,i64_w,i32_w]
          rfl
         refine one_ (i:=6) (N:=some 39) #[true,true,true,true,true,true,true,false] rfl rfl (one_of HT_.out (by kernel_rfl)) (by decide) (fun K hK => ?_)
         refine goes_ Try.func37 (by kernel_rfl) rfl #[.agg #[.slice Ao86 t787.length co86],.slice Ao97 t797.length co97] (by rfl) rfl rfl (by (try simp only [List.map_toArray,List.map_cons,List.map_nil]);first|done|rfl|(simp only [List.length_drop,List.length_take];rfl)) ?_
         with_reducible refine (sacristylaw01_Same.calls k _ _ t787 _ _ t797 true _ ?side1 ?side2 ?side3 ?side4 A17.out).mono ?_
         (case side1 => repeat (first|exact (Kd.V_reads' HO789.out).2.2|(with_reducible refine Kd.C_alloc ?_ _)|(with_reducible refine Kd.C_drewN ?_ _)|(with_reducible refine Kd.C_drew ?_)))
         (case side2 => exact (Kd.V_reads' HO789.out).2.1)
         (case side3 => repeat (first|exact (Kd.V_reads' HO799.out).2.2|(with_reducible refine Kd.C_alloc ?_ _)|(with_reducible refine Kd.C_drewN ?_ _)|(with_reducible refine Kd.C_drew ?_)))
         (case side4 => exact (Kd.V_reads' HO799.out).2.1)
         rintro e w98 ⟨rfl,hb⟩
         refine ⟨_,rfl,?_⟩
         have n0_:=Aside0.mk (Kd.V_below (by (with_reducible repeat (first|apply Kd.V_alloc|apply Kd.V_drewN|apply Kd.V_drew));exact HO781.out) hb)
         have n1_:=Aside0.mk (Kd.V_below (by (with_reducible repeat (first|apply Kd.V_alloc|apply Kd.V_drewN|apply Kd.V_drew));exact HO784.out) hb)
         have n2_:=Aside0.mk (Kd.V_below (by (with_reducible repeat (first|apply Kd.V_alloc|apply Kd.V_drewN|apply Kd.V_drew));exact HO789.out) hb)
         have n3_:=Aside0.mk (Kd.V_below (by (with_reducible repeat (first|apply Kd.V_alloc|apply Kd.V_drewN|apply Kd.V_drew));exact HO793.out) hb)
         have n4_:=Aside0.mk (Kd.V_below (by (with_reducible repeat (first|apply Kd.V_alloc|apply Kd.V_drewN|apply Kd.V_drew));exact HO796.out) hb)
         have n5_:=Aside0.mk (Kd.V_below (by (with_reducible repeat (first|apply Kd.V_alloc|apply Kd.V_drewN|apply Kd.V_drew));exact HO799.out) hb)
         have n6_:=Aside0.mk (blk_below (g:=gb785) (o:=.cells #[.slice Ao75 t779.length co75] 38 (0,0)) (by (with_reducible repeat (first|refine blk_drewN ?_ _|refine blk_drew ?_|refine blk_alloc ?_ _));exact BK785.out) hb)
         have n7_:=Aside0.mk (blk_below (g:=gb786) (o:=.cells #[.slice Ao79 t782.length co79] 38 (0,0)) (by (with_reducible repeat (first|refine blk_drewN ?_ _|refine blk_drew ?_|refine blk_alloc ?_ _));exact BK786.out) hb)
         have n8_:=Aside0.mk (blk_below (g:=gb790) (o:=.cells #[.slice Ao86 t787.length co86] 38 (0,0)) (by (with_reducible repeat (first|refine blk_drewN ?_ _|refine blk_drew ?_|refine blk_alloc ?_ _));exact BK790.out) hb)
         have n9_:=Aside0.mk (below_step (by repeat (first|(with_reducible first|exact HB.out|apply below_alloc|apply pw_below_drewN|apply below_drew1|refine below_set ?_ GE785.out|refine below_set ?_ GE786.out|refine below_set ?_ GE790.out)|exact HB.out)) hb)
         clear HO781
         clear HO784
         clear HO789
         clear HO793
         clear HO796
         clear HO799
         clear BK785
         clear BK786
         clear BK790
         clear HB
         have HO781:=n0_
         have HO784:=n1_
         have HO789:=n2_
         have HO793:=n3_
         have HO796:=n4_
         have HO799:=n5_
         have BK785:=n6_
         have BK786:=n7_
         have BK790:=n8_
         have HB:=n9_
         clear n0_ n1_ n2_ n3_ n4_ n5_ n6_ n7_ n8_ n9_
         (try clear hb)
         (try clear hb2)
         (try clear hk)
         (try clear hi)
         refine hK.out _ _ ((blk_cell BK790.out 0).trans rfl) (fun hHeld => ?_)
         clear hK K
         refine norm_ (a':=?_) ?_ ?_
         rotate_left
         ·show Act.put _ (some 39) _ = _
          simp only [Act.put,List.setIfInBounds_toArray,List.set_cons_zero,List.set_cons_succ,i64_w,i32_w]
          rfl
         refine pure_ (i:=7) (N:=some 40) (v:=?_) (a':=?_) #[true,true,true,true,true,true,true,true] rfl rfl (any_of HT_.out (by kernel_rfl)) (fun _ _ _ h => h) (Or.inl ⟨by rfl,?_⟩) ?_ ?_
         rotate_left
         ·intro w'
          go_simp
          with_reducible rfl
         rotate_left
         ·simp only [Act.put,List.setIfInBounds_toArray,List.set_cons_zero,List.set_cons_succ,i64_w,i32_w]
          rfl
         refine done_ (done_of HT_.out (by kernel_rfl)) ?_
         have hcz99_0 : w98.cell? ⟨gb790,0,none⟩ = some (.slice Ao86 t787.length co86):=(blk_cell BK790.out 0).trans rfl
         have hfz99_0:=blk_frozen BK790.out 0
         try go_wp2_with (first|((with_reducible refine gate_callee (f:=44) rfl ?_);refine goesL_ (some 42) rfl rfl Try.func44 (by kernel_rfl) rfl #[.agg #[.slice Ao86 t787.length co86]] rfl (by (try simp only [List.map_toArray,List.map_cons,List.map_nil]);first|done|rfl|(simp only [List.length_drop,List.length_take];rfl)) ?_;(with_reducible refine (nat_Nat_Zero.calls _ _ t787 false _ ?side1 ?side2 A19.out).mono ?_);(case side1 => repeat (first|exact (Kd.V_reads' HO789.out).2.2|(with_reducible refine Kd.C_alloc ?_ _)|(with_reducible refine Kd.C_drewN ?_ _)|(with_reducible refine Kd.C_drew ?_)));(case side2 => exact (Kd.V_reads' HO789.out).2.1);rintro e w100 ⟨rfl,hb⟩;refine ⟨_,rfl,?_⟩;have n0_:=Aside0.mk (Kd.V_below (by (with_reducible repeat (first|apply Kd.V_alloc|apply Kd.V_drewN|apply Kd.V_drew));exact HO781.out) hb);have n1_:=Aside0.mk (Kd.V_below (by (with_reducible repeat (first|apply Kd.V_alloc|apply Kd.V_drewN|apply Kd.V_drew));exact HO784.out) hb);have n2_:=Aside0.mk (Kd.V_below (by (with_reducible repeat (first|apply Kd.V_alloc|apply Kd.V_drewN|apply Kd.V_drew));exact HO789.out) hb);have n3_:=Aside0.mk (Kd.V_below (by (with_reducible repeat (first|apply Kd.V_alloc|apply Kd.V_drewN|apply Kd.V_drew));exact HO793.out) hb);have n4_:=Aside0.mk (Kd.V_below (by (with_reducible repeat (first|apply Kd.V_alloc|apply Kd.V_drewN|apply Kd.V_drew));exact HO796.out) hb);have n5_:=Aside0.mk (Kd.V_below (by (with_reducible repeat (first|apply Kd.V_alloc|apply Kd.V_drewN|apply Kd.V_drew));exact HO799.out) hb);have n6_:=Aside0.mk (blk_below (g:=gb785) (o:=.cells #[.slice Ao75 t779.length co75] 38 (0,0)) (by (with_reducible repeat (first|refine blk_drewN ?_ _|refine blk_drew ?_|refine blk_alloc ?_ _));exact BK785.out) hb);have n7_:=Aside0.mk (blk_below (g:=gb786) (o:=.cells #[.slice Ao79 t782.length co79] 38 (0,0)) (by (with_reducible repeat (first|refine blk_drewN ?_ _|refine blk_drew ?_|refine blk_alloc ?_ _));exact BK786.out) hb);have n8_:=Aside0.mk (blk_below (g:=gb790) (o:=.cells #[.slice Ao86 t787.length co86] 38 (0,0)) (by (with_reducible repeat (first|refine blk_drewN ?_ _|refine blk_drew ?_|refine blk_alloc ?_ _));exact BK790.out) hb);have n9_:=Aside0.mk (below_step (by repeat (first|(with_reducible first|exact HB.out|apply below_alloc|apply pw_below_drewN|apply below_drew1|refine below_set ?_ GE785.out|refine below_set ?_ GE786.out|refine below_set ?_ GE790.out)|exact HB.out)) hb);clear HO781;clear HO784;clear HO789;clear HO793;clear HO796;clear HO799;clear BK785;clear BK786;clear BK790;clear HB;have HO781:=n0_;have HO784:=n1_;have HO789:=n2_;have HO793:=n3_;have HO796:=n4_;have HO799:=n5_;have BK785:=n6_;have BK786:=n7_;have BK790:=n8_;have HB:=n9_;clear n0_ n1_ n2_ n3_ n4_ n5_ n6_ n7_ n8_ n9_;(try clear hb);(try clear hb2);(try clear hk);(try clear hi);have hcz101_0 : w100.cell? ⟨gb785,0,none⟩ = some (.slice Ao75 t779.length co75):=(blk_cell BK785.out 0).trans rfl;have hfz101_0:=blk_frozen BK785.out 0;have hcz102_0 : w100.cell? ⟨gb790,0,none⟩ = some (.slice Ao86 t787.length co86):=(blk_cell BK790.out 0).trans rfl;have hfz102_0:=blk_frozen BK790.out 0)|((with_reducible refine gate_callee (f:=53) rfl ?_);refine goesL_ (some 52) rfl rfl Try.func53 (by kernel_rfl) rfl #[.agg #[.slice Ao75 t779.length co75],.agg #[.slice Ao86 t787.length co86]] rfl (by (try simp only [List.map_toArray,List.map_cons,List.map_nil]);first|done|rfl|(simp only [List.length_drop,List.length_take];rfl)) ?_;(with_reducible refine (nat_Nat_Div.calls k (fun k_ => (k_ ≠ gb785 ∧ (k_ ≠ gb786 ∧ k_ ≠ gb790))) _ _ t779 _ _ t787 t804 t807 t810 _ ?side1 ?side2 ?side3 A62.out).mono ?_);(case side1 => exact HO781.out);(case side2 => repeat (first|exact (Kd.V_reads' HO789.out).2.2|(with_reducible refine Kd.C_alloc ?_ _)|(with_reducible refine Kd.C_drewN ?_ _)|(with_reducible refine Kd.C_drew ?_)));(case side3 => exact (Kd.V_reads' HO789.out).2.1);rintro e w103 ⟨v805,v808,rfl,ho0,ho1,hb⟩;refine ⟨_,rfl,?_⟩;have n0_:=Aside0.mk (Kd.V_below (by (with_reducible repeat (first|apply Kd.V_alloc|apply Kd.V_drewN|apply Kd.V_drew));exact HO781.out) hb);have n1_:=Aside0.mk (Kd.V_below (by (with_reducible repeat (first|apply Kd.V_alloc|apply Kd.V_drewN|apply Kd.V_drew));exact HO784.out) hb);have n2_:=Aside0.mk (Kd.V_below (by (with_reducible repeat (first|apply Kd.V_alloc|apply Kd.V_drewN|apply Kd.V_drew));exact HO789.out) hb);have n3_:=Aside0.mk (Kd.V_below (by (with_reducible repeat (first|apply Kd.V_alloc|apply Kd.V_drewN|apply Kd.V_drew));exact HO793.out) hb);have n4_:=Aside0.mk (Kd.V_below (by (with_reducible repeat (first|apply Kd.V_alloc|apply Kd.V_drewN|apply Kd.V_drew));exact HO796.out) hb);have n5_:=Aside0.mk (Kd.V_below (by (with_reducible repeat (first|apply Kd.V_alloc|apply Kd.V_drewN|apply Kd.V_drew));exact HO799.out) hb);have n6_:=Aside0.mk (Kd.V_lower (Kd.V_mono (ok':=fun k_ => k_ ≠ gb785 ∧ k_ ≠ gb786 ∧ k_ ≠ gb790) ho0 (fun k_ hk_ => ⟨Or.elim hk_ (fun hs_ => hs_.1) (fun hn_ => (Kd.freshB (g:=gb785) (o:=.cells #[.slice Ao75 t779.length co75] 38 (0,0)) (by (with_reducible repeat (first|refine blk_drewN ?_ _|refine blk_drew ?_|refine blk_alloc ?_ _));exact BK785.out) k_ hn_)),Or.elim hk_ (fun hs_ => hs_.2.1) (fun hn_ => (Kd.freshB (g:=gb786) (o:=.cells #[.slice Ao79 t782.length co79] 38 (0,0)) (by (with_reducible repeat (first|refine blk_drewN ?_ _|refine blk_drew ?_|refine blk_alloc ?_ _));exact BK786.out) k_ hn_)),Or.elim hk_ (fun hs_ => hs_.2.2) (fun hn_ => (Kd.freshB (g:=gb790) (o:=.cells #[.slice Ao86 t787.length co86] 38 (0,0)) (by (with_reducible repeat (first|refine blk_drewN ?_ _|refine blk_drew ?_|refine blk_alloc ?_ _));exact BK790.out) k_ hn_))⟩)) (below_size (by repeat (first|(with_reducible first|exact HB.out|apply below_alloc|apply pw_below_drewN|apply below_drew1|refine below_set ?_ GE785.out|refine below_set ?_ GE786.out|refine below_set ?_ GE790.out)|exact HB.out))));have n7_:=Aside0.mk (Kd.V_lower (Kd.V_mono (ok':=fun k_ => k_ ≠ gb785 ∧ k_ ≠ gb786 ∧ k_ ≠ gb790) ho1 (fun k_ hk_ => ⟨Or.elim hk_ (fun hs_ => hs_.1) (fun hn_ => (Kd.freshB (g:=gb785) (o:=.cells #[.slice Ao75 t779.length co75] 38 (0,0)) (by (with_reducible repeat (first|refine blk_drewN ?_ _|refine blk_drew ?_|refine blk_alloc ?_ _));exact BK785.out) k_ hn_)),Or.elim hk_ (fun hs_ => hs_.2.1) (fun hn_ => (Kd.freshB (g:=gb786) (o:=.cells #[.slice Ao79 t782.length co79] 38 (0,0)) (by (with_reducible repeat (first|refine blk_drewN ?_ _|refine blk_drew ?_|refine blk_alloc ?_ _));exact BK786.out) k_ hn_)),Or.elim hk_ (fun hs_ => hs_.2.2) (fun hn_ => (Kd.freshB (g:=gb790) (o:=.cells #[.slice Ao86 t787.length co86] 38 (0,0)) (by (with_reducible repeat (first|refine blk_drewN ?_ _|refine blk_drew ?_|refine blk_alloc ?_ _));exact BK790.out) k_ hn_))⟩)) (below_size (by repeat (first|(with_reducible first|exact HB.out|apply below_alloc|apply pw_below_drewN|apply below_drew1|refine below_set ?_ GE785.out|refine below_set ?_ GE786.out|refine below_set ?_ GE790.out)|exact HB.out))));have n8_:=Aside0.mk (blk_below (g:=gb785) (o:=.cells #[.slice Ao75 t779.length co75] 38 (0,0)) (by (with_reducible repeat (first|refine blk_drewN ?_ _|refine blk_drew ?_|refine blk_alloc ?_ _));exact BK785.out) hb);have n9_:=Aside0.mk (blk_below (g:=gb786) (o:=.cells #[.slice Ao79 t782.length co79] 38 (0,0)) (by (with_reducible repeat (first|refine blk_drewN ?_ _|refine blk_drew ?_|refine blk_alloc ?_ _));exact BK786.out) hb);have n10_:=Aside0.mk (blk_below (g:=gb790) (o:=.cells #[.slice Ao86 t787.length co86] 38 (0,0)) (by (with_reducible repeat (first|refine blk_drewN ?_ _|refine blk_drew ?_|refine blk_alloc ?_ _));exact BK790.out) hb);have n11_:=Aside0.mk (below_step (by repeat (first|(with_reducible first|exact HB.out|apply below_alloc|apply pw_below_drewN|apply below_drew1|refine below_set ?_ GE785.out|refine below_set ?_ GE786.out|refine below_set ?_ GE790.out)|exact HB.out)) hb);clear HO781;clear HO784;clear HO789;clear HO793;clear HO796;clear HO799;clear BK785;clear BK786;clear BK790;clear HB;have HO781:=n0_;have HO784:=n1_;have HO789:=n2_;have HO793:=n3_;have HO796:=n4_;have HO799:=n5_;have HO806:=n6_;have HO809:=n7_;have BK785:=n8_;have BK786:=n9_;have BK790:=n10_;have HB:=n11_;clear n0_ n1_ n2_ n3_ n4_ n5_ n6_ n7_ n8_ n9_ n10_ n11_;(try clear hb);(try clear hb2);(try clear hk);(try clear hi);(try clear ho0);(try clear ho1))|((with_reducible refine gate_dst (N:=8) rfl ?_);refine box_event ?hg (N:=8) ?hd (cs:=#[.slice none 0 0]) (t:=38) ?hr ?_;(case hd => rfl);(case hg => rfl);(case hr => first|(go_simp;done)|(go_simp;rfl));intro gb811 hg w104 hbox hb;have n0_:=Aside0.mk (Kd.V_below (Kd.V_elderB (by (with_reducible repeat (first|apply Kd.V_alloc|apply Kd.V_drewN|apply Kd.V_drew));exact HO781.out) gb811 (Nat.le_of_eq hg.symm)) hb);have n1_:=Aside0.mk (Kd.V_below (Kd.V_elderB (by (with_reducible repeat (first|apply Kd.V_alloc|apply Kd.V_drewN|apply Kd.V_drew));exact HO784.out) gb811 (Nat.le_of_eq hg.symm)) hb);have n2_:=Aside0.mk (Kd.V_below (Kd.V_elderB (by (with_reducible repeat (first|apply Kd.V_alloc|apply Kd.V_drewN|apply Kd.V_drew));exact HO789.out) gb811 (Nat.le_of_eq hg.symm)) hb);have n3_:=Aside0.mk (Kd.V_below (Kd.V_elderB (by (with_reducible repeat (first|apply Kd.V_alloc|apply Kd.V_drewN|apply Kd.V_drew));exact HO793.out) gb811 (Nat.le_of_eq hg.symm)) hb);have n4_:=Aside0.mk (Kd.V_below (Kd.V_elderB (by (with_reducible repeat (first|apply Kd.V_alloc|apply Kd.V_drewN|apply Kd.V_drew));exact HO796.out) gb811 (Nat.le_of_eq hg.symm)) hb);have n5_:=Aside0.mk (Kd.V_below (Kd.V_elderB (by (with_reducible repeat (first|apply Kd.V_alloc|apply Kd.V_drewN|apply Kd.V_drew));exact HO799.out) gb811 (Nat.le_of_eq hg.symm)) hb);have n6_:=Aside0.mk (Kd.V_below (Kd.V_elderB (by (with_reducible repeat (first|apply Kd.V_alloc|apply Kd.V_drewN|apply Kd.V_drew));exact HO806.out) gb811 (Nat.le_of_eq hg.symm)) hb);have n7_:=Aside0.mk (Kd.V_below (Kd.V_elderB (by (with_reducible repeat (first|apply Kd.V_alloc|apply Kd.V_drewN|apply Kd.V_drew));exact HO809.out) gb811 (Nat.le_of_eq hg.symm)) hb);have n8_:=Aside0.mk (blk_below (g:=gb785) (o:=.cells #[.slice Ao75 t779.length co75] 38 (0,0)) (by (with_reducible repeat (first|refine blk_drewN ?_ _|refine blk_drew ?_|refine blk_alloc ?_ _));exact BK785.out) hb);have n9_:=Aside0.mk (blk_below (g:=gb786) (o:=.cells #[.slice Ao79 t782.length co79] 38 (0,0)) (by (with_reducible repeat (first|refine blk_drewN ?_ _|refine blk_drew ?_|refine blk_alloc ?_ _));exact BK786.out) hb);have n10_:=Aside0.mk (blk_below (g:=gb790) (o:=.cells #[.slice Ao86 t787.length co86] 38 (0,0)) (by (with_reducible repeat (first|refine blk_drewN ?_ _|refine blk_drew ?_|refine blk_alloc ?_ _));exact BK790.out) hb);have n11_:=Aside0.mk (below_step (by repeat (first|(with_reducible first|exact HB.out|apply below_alloc|apply pw_below_drewN|apply below_drew1|refine below_set ?_ GE785.out|refine below_set ?_ GE786.out|refine below_set ?_ GE790.out)|exact HB.out)) hb);have n12_:=Aside0.mk (hbox);have n13_:=Aside0.mk ((by rw [hg];exact (below_size (by repeat (first|(with_reducible first|exact HB.out|apply below_alloc|apply pw_below_drewN|apply below_drew1|refine below_set ?_ GE785.out|refine below_set ?_ GE786.out|refine below_set ?_ GE790.out)|exact HB.out))) : w.heap.size ≤ gb811));have n14_:=Aside0.mk ((by rw [hg];exact (below_size (by repeat (first|(with_reducible first|exact HB.out|apply below_alloc|apply pw_below_drewN|apply below_drew1|refine below_set ?_ GE785.out|refine below_set ?_ GE786.out|refine below_set ?_ GE790.out)|exact HB.out))) : w.heap.size ≤ gb811));have n15_:=Aside0.mk ((by rw [hg];exact Nat.ne_of_lt (blk_lt (g:=gb785) (o:=.cells #[.slice Ao75 t779.length co75] 38 (0,0)) (by (with_reducible repeat (first|refine blk_drewN ?_ _|refine blk_drew ?_|refine blk_alloc ?_ _));exact BK785.out)) : gb785 ≠ gb811));have n16_:=Aside0.mk ((by rw [hg];exact Nat.ne_of_gt (blk_lt (g:=gb785) (o:=.cells #[.slice Ao75 t779.length co75] 38 (0,0)) (by (with_reducible repeat (first|refine blk_drewN ?_ _|refine blk_drew ?_|refine blk_alloc ?_ _));exact BK785.out)) : gb811 ≠ gb785));have n17_:=Aside0.mk ((by rw [hg];exact Nat.ne_of_lt (blk_lt (g:=gb786) (o:=.cells #[.slice Ao79 t782.length co79] 38 (0,0)) (by (with_reducible repeat (first|refine blk_drewN ?_ _|refine blk_drew ?_|refine blk_alloc ?_ _));exact BK786.out)) : gb786 ≠ gb811));have n18_:=Aside0.mk ((by rw [hg];exact Nat.ne_of_gt (blk_lt (g:=gb786) (o:=.cells #[.slice Ao79 t782.length co79] 38 (0,0)) (by (with_reducible repeat (first|refine blk_drewN ?_ _|refine blk_drew ?_|refine blk_alloc ?_ _));exact BK786.out)) : gb811 ≠ gb786));have n19_:=Aside0.mk ((by rw [hg];exact Nat.ne_of_lt (blk_lt (g:=gb790) (o:=.cells #[.slice Ao86 t787.length co86] 38 (0,0)) (by (with_reducible repeat (first|refine blk_drewN ?_ _|refine blk_drew ?_|refine blk_alloc ?_ _));exact BK790.out)) : gb790 ≠ gb811));have n20_:=Aside0.mk ((by rw [hg];exact Nat.ne_of_gt (blk_lt (g:=gb790) (o:=.cells #[.slice Ao86 t787.length co86] 38 (0,0)) (by (with_reducible repeat (first|refine blk_drewN ?_ _|refine blk_drew ?_|refine blk_alloc ?_ _));exact BK790.out)) : gb811 ≠ gb790));clear HO781;clear HO784;clear HO789;clear HO793;clear HO796;clear HO799;clear HO806;clear HO809;clear BK785;clear BK786;clear BK790;clear HB;have HO781:=n0_;have HO784:=n1_;have HO789:=n2_;have HO793:=n3_;have HO796:=n4_;have HO799:=n5_;have HO806:=n6_;have HO809:=n7_;have BK785:=n8_;have BK786:=n9_;have BK790:=n10_;have HB:=n11_;have BK811:=n12_;have GW811:=n13_;have GE811:=n14_;have NB785_811:=n15_;have NB811_785:=n16_;have NB786_811:=n17_;have NB811_786:=n18_;have NB790_811:=n19_;have NB811_790:=n20_;clear n0_ n1_ n2_ n3_ n4_ n5_ n6_ n7_ n8_ n9_ n10_ n11_ n12_ n13_ n14_ n15_ n16_ n17_ n18_ n19_ n20_;clear hb hbox hg)|((with_reducible refine gate_dst (N:=9) rfl ?_);refine box_event ?hg (N:=9) ?hd (cs:=#[.slice none 0 0]) (t:=38) ?hr ?_;(case hd => rfl);(case hg => rfl);(case hr => first|(go_simp;done)|(go_simp;rfl));intro gb812 hg w105 hbox hb;have n0_:=Aside0.mk (Kd.V_below (Kd.V_elderB (by (with_reducible repeat (first|apply Kd.V_alloc|apply Kd.V_drewN|apply Kd.V_drew));exact HO781.out) gb812 (Nat.le_of_eq hg.symm)) hb);have n1_:=Aside0.mk (Kd.V_below (Kd.V_elderB (by (with_reducible repeat (first|apply Kd.V_alloc|apply Kd.V_drewN|apply Kd.V_drew));exact HO784.out) gb812 (Nat.le_of_eq hg.symm)) hb);have n2_:=Aside0.mk (Kd.V_below (Kd.V_elderB (by (with_reducible repeat (first|apply Kd.V_alloc|apply Kd.V_drewN|apply Kd.V_drew));exact HO789.out) gb812 (Nat.le_of_eq hg.symm)) hb);have n3_:=Aside0.mk (Kd.V_below (Kd.V_elderB (by (with_reducible repeat (first|apply Kd.V_alloc|apply Kd.V_drewN|apply Kd.V_drew));exact HO793.out) gb812 (Nat.le_of_eq hg.symm)) hb);have n4_:=Aside0.mk (Kd.V_below (Kd.V_elderB (by (with_reducible repeat (first|apply Kd.V_alloc|apply Kd.V_drewN|apply Kd.V_drew));exact HO796.out) gb812 (Nat.le_of_eq hg.symm)) hb);have n5_:=Aside0.mk (Kd.V_below (Kd.V_elderB (by (with_reducible repeat (first|apply Kd.V_alloc|apply Kd.V_drewN|apply Kd.V_drew));exact HO799.out) gb812 (Nat.le_of_eq hg.symm)) hb);have n6_:=Aside0.mk (Kd.V_below (Kd.V_elderB (by (with_reducible repeat (first|apply Kd.V_alloc|apply Kd.V_drewN|apply Kd.V_drew));exact HO806.out) gb812 (Nat.le_of_eq hg.symm)) hb);have n7_:=Aside0.mk (Kd.V_below (Kd.V_elderB (by (with_reducible repeat (first|apply Kd.V_alloc|apply Kd.V_drewN|apply Kd.V_drew));exact HO809.out) gb812 (Nat.le_of_eq hg.symm)) hb);have n8_:=Aside0.mk (blk_below (g:=gb785) (o:=.cells #[.slice Ao75 t779.length co75] 38 (0,0)) (by (with_reducible repeat (first|refine blk_drewN ?_ _|refine blk_drew ?_|refine blk_alloc ?_ _));exact BK785.out) hb);have n9_:=Aside0.mk (blk_below (g:=gb786) (o:=.cells #[.slice Ao79 t782.length co79] 38 (0,0)) (by (with_reducible repeat (first|refine blk_drewN ?_ _|refine blk_drew ?_|refine blk_alloc ?_ _));exact BK786.out) hb);have n10_:=Aside0.mk (blk_below (g:=gb790) (o:=.cells #[.slice Ao86 t787.length co86] 38 (0,0)) (by (with_reducible repeat (first|refine blk_drewN ?_ _|refine blk_drew ?_|refine blk_alloc ?_ _));exact BK790.out) hb);have n11_:=Aside0.mk (blk_below (g:=gb811) (o:=.cells #[.slice none 0 0] 38 (0,0)) (by (with_reducible repeat (first|refine blk_drewN ?_ _|refine blk_drew ?_|refine blk_alloc ?_ _));exact BK811.out) hb);have n12_:=Aside0.mk (below_step (by repeat (first|(with_reducible first|exact HB.out|apply below_alloc|apply pw_below_drewN|apply below_drew1|refine below_set ?_ GE785.out|refine below_set ?_ GE786.out|refine below_set ?_ GE790.out|refine below_set ?_ GE811.out)|exact HB.out)) hb);have n13_:=Aside0.mk (hbox);have n14_:=Aside0.mk ((by rw [hg];exact (below_size (by repeat (first|(with_reducible first|exact HB.out|apply below_alloc|apply pw_below_drewN|apply below_drew1|refine below_set ?_ GE785.out|refine below_set ?_ GE786.out|refine below_set ?_ GE790.out|refine below_set ?_ GE811.out)|exact HB.out))) : w.heap.size ≤ gb812));have n15_:=Aside0.mk ((by rw [hg];exact (below_size (by repeat (first|(with_reducible first|exact HB.out|apply below_alloc|apply pw_below_drewN|apply below_drew1|refine below_set ?_ GE785.out|refine below_set ?_ GE786.out|refine below_set ?_ GE790.out|refine below_set ?_ GE811.out)|exact HB.out))) : w.heap.size ≤ gb812));have n16_:=Aside0.mk ((by rw [hg];exact Nat.ne_of_lt (blk_lt (g:=gb785) (o:=.cells #[.slice Ao75 t779.length co75] 38 (0,0)) (by (with_reducible repeat (first|refine blk_drewN ?_ _|refine blk_drew ?_|refine blk_alloc ?_ _));exact BK785.out)) : gb785 ≠ gb812));have n17_:=Aside0.mk ((by rw [hg];exact Nat.ne_of_gt (blk_lt (g:=gb785) (o:=.cells #[.slice Ao75 t779.length co75] 38 (0,0)) (by (with_reducible repeat (first|refine blk_drewN ?_ _|refine blk_drew ?_|refine blk_alloc ?_ _));exact BK785.out)) : gb812 ≠ gb785));have n18_:=Aside0.mk ((by rw [hg];exact Nat.ne_of_lt (blk_lt (g:=gb786) (o:=.cells #[.slice Ao79 t782.length co79] 38 (0,0)) (by (with_reducible repeat (first|refine blk_drewN ?_ _|refine blk_drew ?_|refine blk_alloc ?_ _));exact BK786.out)) : gb786 ≠ gb812));have n19_:=Aside0.mk ((by rw [hg];exact Nat.ne_of_gt (blk_lt (g:=gb786) (o:=.cells #[.slice Ao79 t782.length co79] 38 (0,0)) (by (with_reducible repeat (first|refine blk_drewN ?_ _|refine blk_drew ?_|refine blk_alloc ?_ _));exact BK786.out)) : gb812 ≠ gb786));have n20_:=Aside0.mk ((by rw [hg];exact Nat.ne_of_lt (blk_lt (g:=gb790) (o:=.cells #[.slice Ao86 t787.length co86] 38 (0,0)) (by (with_reducible repeat (first|refine blk_drewN ?_ _|refine blk_drew ?_|refine blk_alloc ?_ _));exact BK790.out)) : gb790 ≠ gb812));have n21_:=Aside0.mk ((by rw [hg];exact Nat.ne_of_gt (blk_lt (g:=gb790) (o:=.cells #[.slice Ao86 t787.length co86] 38 (0,0)) (by (with_reducible repeat (first|refine blk_drewN ?_ _|refine blk_drew ?_|refine blk_alloc ?_ _));exact BK790.out)) : gb812 ≠ gb790));have n22_:=Aside0.mk ((by rw [hg];exact Nat.ne_of_lt (blk_lt (g:=gb811) (o:=.cells #[.slice none 0 0] 38 (0,0)) (by (with_reducible repeat (first|refine blk_drewN ?_ _|refine blk_drew ?_|refine blk_alloc ?_ _));exact BK811.out)) : gb811 ≠ gb812));have n23_:=Aside0.mk ((by rw [hg];exact Nat.ne_of_gt (blk_lt (g:=gb811) (o:=.cells #[.slice none 0 0] 38 (0,0)) (by (with_reducible repeat (first|refine blk_drewN ?_ _|refine blk_drew ?_|refine blk_alloc ?_ _));exact BK811.out)) : gb812 ≠ gb811));clear HO781;clear HO784;clear HO789;clear HO793;clear HO796;clear HO799;clear HO806;clear HO809;clear BK785;clear BK786;clear BK790;clear BK811;clear HB;have HO781:=n0_;have HO784:=n1_;have HO789:=n2_;have HO793:=n3_;have HO796:=n4_;have HO799:=n5_;have HO806:=n6_;have HO809:=n7_;have BK785:=n8_;have BK786:=n9_;have BK790:=n10_;have BK811:=n11_;have HB:=n12_;have BK812:=n13_;have GW812:=n14_;have GE812:=n15_;have NB785_812:=n16_;have NB812_785:=n17_;have NB786_812:=n18_;have NB812_786:=n19_;have NB790_812:=n20_;have NB812_790:=n21_;have NB811_812:=n22_;have NB812_811:=n23_;clear n0_ n1_ n2_ n3_ n4_ n5_ n6_ n7_ n8_ n9_ n10_ n11_ n12_ n13_ n14_ n15_ n16_ n17_ n18_ n19_ n20_ n21_ n22_ n23_;clear hb hbox hg;obtain ⟨Ao106,co106,eo106⟩:=Kd.V_slice HO806.out;subst eo106;have hnb107:=NB811_785.out;have hnc107:=NB785_811.out;have hnb108:=NB811_786.out;have hnc108:=NB786_811.out;have hnb109:=NB811_790.out;have hnc109:=NB790_811.out;have hnb110:=NB811_812.out;have hnc110:=NB812_811.out;have hcz111_0 : w105.cell? ⟨gb811,0,none⟩ = some (.slice none 0 0):=(blk_cell BK811.out 0).trans rfl;have hfz111_0:=blk_frozen BK811.out 0)|((with_reducible refine gate_store (t:=38) (p:=8) rfl ?_);refine store_event (t:=38) (p:=8) (v:=?vo_w112) (w1:=(w105.setCell ⟨gb811,0,none⟩ (.slice Ao106 t804.length co106))) ?hg ?ho ?hn ?hr ?_;(case ho => rfl);(case hg => rfl);(case hn => rfl);(case hr => first|(go_simp;done)|(go_simp;rfl));intro w112 hw;have n0_ : Aside0 (Kd.V (Kd.int .u32) 23 w112 w.heap.size (fun k_ => k_ ≠ gb785 ∧ k_ ≠ gb786 ∧ k_ ≠ gb790 ∧ k_ ≠ gb811 ∧ k_ ≠ gb812) (.slice Ao75 t779.length co75) t779):=⟨(by rw [hw];exact (by (with_reducible repeat (first|apply Kd.V_alloc|apply Kd.V_drewN|apply Kd.V_drew));exact Kd.V_mono (Kd.V_far (p:=⟨gb811,0,none⟩) (Kd.V_mono HO781.out (fun k_ hk => (⟨hk,hk.1.2⟩ : _ ∧ k_ ≠ gb811))) (fun _ hk => hk.2) (.slice Ao106 t804.length co106)) (fun _ hk => ⟨hk.1.1.1.1,⟨hk.1.1.1.2.1,⟨hk.1.1.1.2.2,⟨hk.1.1.2,hk.1.2⟩⟩⟩⟩)))⟩;have n1_ : Aside0 (Kd.V (Kd.int .u32) 23 w112 w.heap.size (fun k_ => k_ ≠ gb785 ∧ k_ ≠ gb786 ∧ k_ ≠ gb790 ∧ k_ ≠ gb811 ∧ k_ ≠ gb812) (.slice Ao79 t782.length co79) t782):=⟨(by rw [hw];exact (by (with_reducible repeat (first|apply Kd.V_alloc|apply Kd.V_drewN|apply Kd.V_drew));exact Kd.V_mono (Kd.V_far (p:=⟨gb811,0,none⟩) (Kd.V_mono HO784.out (fun k_ hk => (⟨hk,hk.1.2⟩ : _ ∧ k_ ≠ gb811))) (fun _ hk => hk.2) (.slice Ao106 t804.length co106)) (fun _ hk => ⟨hk.1.1.1.1,⟨hk.1.1.1.2.1,⟨hk.1.1.1.2.2,⟨hk.1.1.2,hk.1.2⟩⟩⟩⟩)))⟩;have n2_ : Aside0 (Kd.V (Kd.int .u32) 23 w112 w.heap.size (fun k_ => k_ ≠ gb785 ∧ k_ ≠ gb786 ∧ k_ ≠ gb790 ∧ k_ ≠ gb811 ∧ k_ ≠ gb812) (.slice Ao86 t787.length co86) t787):=⟨(by rw [hw];exact (by (with_reducible repeat (first|apply Kd.V_alloc|apply Kd.V_drewN|apply Kd.V_drew));exact Kd.V_mono (Kd.V_far (p:=⟨gb811,0,none⟩) (Kd.V_mono HO789.out (fun k_ hk => (⟨hk,hk.1.2⟩ : _ ∧ k_ ≠ gb811))) (fun _ hk => hk.2) (.slice Ao106 t804.length co106)) (fun _ hk => ⟨hk.1.1.1.1,⟨hk.1.1.1.2.1,⟨hk.1.1.1.2.2,⟨hk.1.1.2,hk.1.2⟩⟩⟩⟩)))⟩;have n3_ : Aside0 (Kd.V Kd.bool 4 w112 w.heap.size (fun k_ => k_ ≠ gb785 ∧ k_ ≠ gb786 ∧ k_ ≠ gb790 ∧ k_ ≠ gb811 ∧ k_ ≠ gb812) (.slice Ao94 t791.length co94) t791):=⟨(by rw [hw];exact (by (with_reducible repeat (first|apply Kd.V_alloc|apply Kd.V_drewN|apply Kd.V_drew));exact Kd.V_mono (Kd.V_far (p:=⟨gb811,0,none⟩) (Kd.V_mono HO793.out (fun k_ hk => (⟨hk,hk.1.2⟩ : _ ∧ k_ ≠ gb811))) (fun _ hk => hk.2) (.slice Ao106 t804.length co106)) (fun _ hk => ⟨hk.1.1.1.1,⟨hk.1.1.1.2.1,⟨hk.1.1.1.2.2,⟨hk.1.1.2,hk.1.2⟩⟩⟩⟩)))⟩;have n4_ : Aside0 (Kd.V Kd.bool 4 w112 w.heap.size (fun k_ => k_ ≠ gb785 ∧ k_ ≠ gb786 ∧ k_ ≠ gb790 ∧ k_ ≠ gb811 ∧ k_ ≠ gb812) (.slice Ao95 t794.length co95) t794):=⟨(by rw [hw];exact (by (with_reducible repeat (first|apply Kd.V_alloc|apply Kd.V_drewN|apply Kd.V_drew));exact Kd.V_mono (Kd.V_far (p:=⟨gb811,0,none⟩) (Kd.V_mono HO796.out (fun k_ hk => (⟨hk,hk.1.2⟩ : _ ∧ k_ ≠ gb811))) (fun _ hk => hk.2) (.slice Ao106 t804.length co106)) (fun _ hk => ⟨hk.1.1.1.1,⟨hk.1.1.1.2.1,⟨hk.1.1.1.2.2,⟨hk.1.1.2,hk.1.2⟩⟩⟩⟩)))⟩;have n5_ : Aside0 (Kd.V Kd.bool 4 w112 w.heap.size (fun k_ => k_ ≠ gb785 ∧ k_ ≠ gb786 ∧ k_ ≠ gb790 ∧ k_ ≠ gb811 ∧ k_ ≠ gb812) (.slice Ao97 t797.length co97) t797):=⟨(by rw [hw];exact (by (with_reducible repeat (first|apply Kd.V_alloc|apply Kd.V_drewN|apply Kd.V_drew));exact Kd.V_mono (Kd.V_far (p:=⟨gb811,0,none⟩) (Kd.V_mono HO799.out (fun k_ hk => (⟨hk,hk.1.2⟩ : _ ∧ k_ ≠ gb811))) (fun _ hk => hk.2) (.slice Ao106 t804.length co106)) (fun _ hk => ⟨hk.1.1.1.1,⟨hk.1.1.1.2.1,⟨hk.1.1.1.2.2,⟨hk.1.1.2,hk.1.2⟩⟩⟩⟩)))⟩;have n6_ : Aside0 (Kd.V (Kd.int .u32) 23 w112 w.heap.size (fun k_ => k_ ≠ gb785 ∧ k_ ≠ gb786 ∧ k_ ≠ gb790 ∧ k_ ≠ gb811 ∧ k_ ≠ gb812) (.slice Ao106 t804.length co106) t804):=⟨(by rw [hw];exact (by (with_reducible repeat (first|apply Kd.V_alloc|apply Kd.V_drewN|apply Kd.V_drew));exact Kd.V_mono (Kd.V_far (p:=⟨gb811,0,none⟩) (Kd.V_mono HO806.out (fun k_ hk => (⟨hk,hk.1.2⟩ : _ ∧ k_ ≠ gb811))) (fun _ hk => hk.2) (.slice Ao106 t804.length co106)) (fun _ hk => ⟨hk.1.1.1.1,⟨hk.1.1.1.2.1,⟨hk.1.1.1.2.2,⟨hk.1.1.2,hk.1.2⟩⟩⟩⟩)))⟩;have n7_ : Aside0 (Kd.V (Kd.int .u32) 23 w112 w.heap.size (fun k_ => k_ ≠ gb785 ∧ k_ ≠ gb786 ∧ k_ ≠ gb790 ∧ k_ ≠ gb811 ∧ k_ ≠ gb812) v808 t807):=⟨(by rw [hw];exact (by (with_reducible repeat (first|apply Kd.V_alloc|apply Kd.V_drewN|apply Kd.V_drew));exact Kd.V_mono (Kd.V_far (p:=⟨gb811,0,none⟩) (Kd.V_mono HO809.out (fun k_ hk => (⟨hk,hk.1.2⟩ : _ ∧ k_ ≠ gb811))) (fun _ hk => hk.2) (.slice Ao106 t804.length co106)) (fun _ hk => ⟨hk.1.1.1.1,⟨hk.1.1.1.2.1,⟨hk.1.1.1.2.2,⟨hk.1.1.2,hk.1.2⟩⟩⟩⟩)))⟩;have n8_ : Aside0 (w112.heap[gb785]? = some (.cells #[.slice Ao75 t779.length co75] 38 (0,0))):=⟨(by rw [hw];exact (by (with_reducible repeat (first|refine blk_drewN ?_ _|refine blk_drew ?_|refine blk_alloc ?_ _));refine blk_far ?_ NB785_811.out _;(with_reducible repeat (first|refine blk_drewN ?_ _|refine blk_drew ?_|refine blk_alloc ?_ _));exact BK785.out))⟩;have n9_ : Aside0 (w112.heap[gb786]? = some (.cells #[.slice Ao79 t782.length co79] 38 (0,0))):=⟨(by rw [hw];exact (by (with_reducible repeat (first|refine blk_drewN ?_ _|refine blk_drew ?_|refine blk_alloc ?_ _));refine blk_far ?_ NB786_811.out _;(with_reducible repeat (first|refine blk_drewN ?_ _|refine blk_drew ?_|refine blk_alloc ?_ _));exact BK786.out))⟩;have n10_ : Aside0 (w112.heap[gb790]? = some (.cells #[.slice Ao86 t787.length co86] 38 (0,0))):=⟨(by rw [hw];exact (by (with_reducible repeat (first|refine blk_drewN ?_ _|refine blk_drew ?_|refine blk_alloc ?_ _));refine blk_far ?_ NB790_811.out _;(with_reducible repeat (first|refine blk_drewN ?_ _|refine blk_drew ?_|refine blk_alloc ?_ _));exact BK790.out))⟩;have n11_ : Aside0 (w112.heap[gb811]? = some (.cells #[.slice Ao106 t804.length co106] 38 (0,0))):=⟨(by rw [hw];exact (by (with_reducible repeat (first|refine blk_drewN ?_ _|refine blk_drew ?_|refine blk_alloc ?_ _));refine blk_put (cs:=#[.slice none 0 0]) ?_ 0 _ rfl;(with_reducible repeat (first|refine blk_drewN ?_ _|refine blk_drew ?_|refine blk_alloc ?_ _));exact BK811.out))⟩;have n12_ : Aside0 (w112.heap[gb812]? = some (.cells #[.slice none 0 0] 38 (0,0))):=⟨(by rw [hw];exact (by (with_reducible repeat (first|refine blk_drewN ?_ _|refine blk_drew ?_|refine blk_alloc ?_ _));refine blk_far ?_ NB812_811.out _;(with_reducible repeat (first|refine blk_drewN ?_ _|refine blk_drew ?_|refine blk_alloc ?_ _));exact BK812.out))⟩;have n13_ : Aside0 (Below w.heap.size w w112):=⟨(by rw [hw];exact (by repeat (first|(with_reducible first|exact HB.out|apply below_alloc|apply pw_below_drewN|apply below_drew1|refine below_set ?_ GE785.out|refine below_set ?_ GE786.out|refine below_set ?_ GE790.out|refine below_set ?_ GE811.out|refine below_set ?_ GE812.out)|exact HB.out)))⟩;clear hw;clear HO781;clear HO784;clear HO789;clear HO793;clear HO796;clear HO799;clear HO806;clear HO809;clear BK785;clear BK786;clear BK790;clear BK811;clear BK812;clear HB;have HO781:=n0_;have HO784:=n1_;have HO789:=n2_;have HO793:=n3_;have HO796:=n4_;have HO799:=n5_;have HO806:=n6_;have HO809:=n7_;have BK785:=n8_;have BK786:=n9_;have BK790:=n10_;have BK811:=n11_;have BK812:=n12_;have HB:=n13_;clear n0_ n1_ n2_ n3_ n4_ n5_ n6_ n7_ n8_ n9_ n10_ n11_ n12_ n13_;obtain ⟨Ao113,co113,eo113⟩:=Kd.V_slice HO809.out;subst eo113;have hnb114:=NB812_785.out;have hnc114:=NB785_812.out;have hnb115:=NB812_786.out;have hnc115:=NB786_812.out;have hnb116:=NB812_790.out;have hnc116:=NB790_812.out;have hcz117_0 : w112.cell? ⟨gb812,0,none⟩ = some (.slice none 0 0):=(blk_cell BK812.out 0).trans rfl;have hfz117_0:=blk_frozen BK812.out 0)|((with_reducible refine gate_store (t:=38) (p:=9) rfl ?_);refine store_event (t:=38) (p:=9) (v:=?vo_w118) (w1:=(w112.setCell ⟨gb812,0,none⟩ (.slice Ao113 t807.length co113))) ?hg ?ho ?hn ?hr ?_;(case ho => rfl);(case hg => rfl);(case hn => rfl);(case hr => first|(go_simp;done)|(go_simp;rfl));intro w118 hw;have n0_ : Aside0 (Kd.V (Kd.int .u32) 23 w118 w.heap.size (fun k_ => k_ ≠ gb785 ∧ k_ ≠ gb786 ∧ k_ ≠ gb790 ∧ k_ ≠ gb811 ∧ k_ ≠ gb812) (.slice Ao75 t779.length co75) t779):=⟨(by rw [hw];exact (by (with_reducible repeat (first|apply Kd.V_alloc|apply Kd.V_drewN|apply Kd.V_drew));exact Kd.V_mono (Kd.V_far (p:=⟨gb812,0,none⟩) (Kd.V_mono HO781.out (fun k_ hk => (⟨hk,hk.2.2.2.2⟩ : _ ∧ k_ ≠ gb812))) (fun _ hk => hk.2) (.slice Ao113 t807.length co113)) (fun _ hk => ⟨hk.1.1,⟨hk.1.2.1,⟨hk.1.2.2.1,⟨hk.1.2.2.2.1,hk.1.2.2.2.2⟩⟩⟩⟩)))⟩;have n1_ : Aside0 (Kd.V (Kd.int .u32) 23 w118 w.heap.size (fun k_ => k_ ≠ gb785 ∧ k_ ≠ gb786 ∧ k_ ≠ gb790 ∧ k_ ≠ gb811 ∧ k_ ≠ gb812) (.slice Ao79 t782.length co79) t782):=⟨(by rw [hw];exact (by (with_reducible repeat (first|apply Kd.V_alloc|apply Kd.V_drewN|apply Kd.V_drew));exact Kd.V_mono (Kd.V_far (p:=⟨gb812,0,none⟩) (Kd.V_mono HO784.out (fun k_ hk => (⟨hk,hk.2.2.2.2⟩ : _ ∧ k_ ≠ gb812))) (fun _ hk => hk.2) (.slice Ao113 t807.length co113)) (fun _ hk => ⟨hk.1.1,⟨hk.1.2.1,⟨hk.1.2.2.1,⟨hk.1.2.2.2.1,hk.1.2.2.2.2⟩⟩⟩⟩)))⟩;have n2_ : Aside0 (Kd.V (Kd.int .u32) 23 w118 w.heap.size (fun k_ => k_ ≠ gb785 ∧ k_ ≠ gb786 ∧ k_ ≠ gb790 ∧ k_ ≠ gb811 ∧ k_ ≠ gb812) (.slice Ao86 t787.length co86) t787):=⟨(by rw [hw];exact (by (with_reducible repeat (first|apply Kd.V_alloc|apply Kd.V_drewN|apply Kd.V_drew));exact Kd.V_mono (Kd.V_far (p:=⟨gb812,0,none⟩) (Kd.V_mono HO789.out (fun k_ hk => (⟨hk,hk.2.2.2.2⟩ : _ ∧ k_ ≠ gb812))) (fun _ hk => hk.2) (.slice Ao113 t807.length co113)) (fun _ hk => ⟨hk.1.1,⟨hk.1.2.1,⟨hk.1.2.2.1,⟨hk.1.2.2.2.1,hk.1.2.2.2.2⟩⟩⟩⟩)))⟩;have n3_ : Aside0 (Kd.V Kd.bool 4 w118 w.heap.size (fun k_ => k_ ≠ gb785 ∧ k_ ≠ gb786 ∧ k_ ≠ gb790 ∧ k_ ≠ gb811 ∧ k_ ≠ gb812) (.slice Ao94 t791.length co94) t791):=⟨(by rw [hw];exact (by (with_reducible repeat (first|apply Kd.V_alloc|apply Kd.V_drewN|apply Kd.V_drew));exact Kd.V_mono (Kd.V_far (p:=⟨gb812,0,none⟩) (Kd.V_mono HO793.out (fun k_ hk => (⟨hk,hk.2.2.2.2⟩ : _ ∧ k_ ≠ gb812))) (fun _ hk => hk.2) (.slice Ao113 t807.length co113)) (fun _ hk => ⟨hk.1.1,⟨hk.1.2.1,⟨hk.1.2.2.1,⟨hk.1.2.2.2.1,hk.1.2.2.2.2⟩⟩⟩⟩)))⟩;have n4_ : Aside0 (Kd.V Kd.bool 4 w118 w.heap.size (fun k_ => k_ ≠ gb785 ∧ k_ ≠ gb786 ∧ k_ ≠ gb790 ∧ k_ ≠ gb811 ∧ k_ ≠ gb812) (.slice Ao95 t794.length co95) t794):=⟨(by rw [hw];exact (by (with_reducible repeat (first|apply Kd.V_alloc|apply Kd.V_drewN|apply Kd.V_drew));exact Kd.V_mono (Kd.V_far (p:=⟨gb812,0,none⟩) (Kd.V_mono HO796.out (fun k_ hk => (⟨hk,hk.2.2.2.2⟩ : _ ∧ k_ ≠ gb812))) (fun _ hk => hk.2) (.slice Ao113 t807.length co113)) (fun _ hk => ⟨hk.1.1,⟨hk.1.2.1,⟨hk.1.2.2.1,⟨hk.1.2.2.2.1,hk.1.2.2.2.2⟩⟩⟩⟩)))⟩;have n5_ : Aside0 (Kd.V Kd.bool 4 w118 w.heap.size (fun k_ => k_ ≠ gb785 ∧ k_ ≠ gb786 ∧ k_ ≠ gb790 ∧ k_ ≠ gb811 ∧ k_ ≠ gb812) (.slice Ao97 t797.length co97) t797):=⟨(by rw [hw];exact (by (with_reducible repeat (first|apply Kd.V_alloc|apply Kd.V_drewN|apply Kd.V_drew));exact Kd.V_mono (Kd.V_far (p:=⟨gb812,0,none⟩) (Kd.V_mono HO799.out (fun k_ hk => (⟨hk,hk.2.2.2.2⟩ : _ ∧ k_ ≠ gb812))) (fun _ hk => hk.2) (.slice Ao113 t807.length co113)) (fun _ hk => ⟨hk.1.1,⟨hk.1.2.1,⟨hk.1.2.2.1,⟨hk.1.2.2.2.1,hk.1.2.2.2.2⟩⟩⟩⟩)))⟩;have n6_ : Aside0 (Kd.V (Kd.int .u32) 23 w118 w.heap.size (fun k_ => k_ ≠ gb785 ∧ k_ ≠ gb786 ∧ k_ ≠ gb790 ∧ k_ ≠ gb811 ∧ k_ ≠ gb812) (.slice Ao106 t804.length co106) t804):=⟨(by rw [hw];exact (by (with_reducible repeat (first|apply Kd.V_alloc|apply Kd.V_drewN|apply Kd.V_drew));exact Kd.V_mono (Kd.V_far (p:=⟨gb812,0,none⟩) (Kd.V_mono HO806.out (fun k_ hk => (⟨hk,hk.2.2.2.2⟩ : _ ∧ k_ ≠ gb812))) (fun _ hk => hk.2) (.slice Ao113 t807.length co113)) (fun _ hk => ⟨hk.1.1,⟨hk.1.2.1,⟨hk.1.2.2.1,⟨hk.1.2.2.2.1,hk.1.2.2.2.2⟩⟩⟩⟩)))⟩;have n7_ : Aside0 (Kd.V (Kd.int .u32) 23 w118 w.heap.size (fun k_ => k_ ≠ gb785 ∧ k_ ≠ gb786 ∧ k_ ≠ gb790 ∧ k_ ≠ gb811 ∧ k_ ≠ gb812) (.slice Ao113 t807.length co113) t807):=⟨(by rw [hw];exact (by (with_reducible repeat (first|apply Kd.V_alloc|apply Kd.V_drewN|apply Kd.V_drew));exact Kd.V_mono (Kd.V_far (p:=⟨gb812,0,none⟩) (Kd.V_mono HO809.out (fun k_ hk => (⟨hk,hk.2.2.2.2⟩ : _ ∧ k_ ≠ gb812))) (fun _ hk => hk.2) (.slice Ao113 t807.length co113)) (fun _ hk => ⟨hk.1.1,⟨hk.1.2.1,⟨hk.1.2.2.1,⟨hk.1.2.2.2.1,hk.1.2.2.2.2⟩⟩⟩⟩)))⟩;have n8_ : Aside0 (w118.heap[gb785]? = some (.cells #[.slice Ao75 t779.length co75] 38 (0,0))):=⟨(by rw [hw];exact (by (with_reducible repeat (first|refine blk_drewN ?_ _|refine blk_drew ?_|refine blk_alloc ?_ _));refine blk_far ?_ NB785_812.out _;(with_reducible repeat (first|refine blk_drewN ?_ _|refine blk_drew ?_|refine blk_alloc ?_ _));exact BK785.out))⟩;have n9_ : Aside0 (w118.heap[gb786]? = some (.cells #[.slice Ao79 t782.length co79] 38 (0,0))):=⟨(by rw [hw];exact (by (with_reducible repeat (first|refine blk_drewN ?_ _|refine blk_drew ?_|refine blk_alloc ?_ _));refine blk_far ?_ NB786_812.out _;(with_reducible repeat (first|refine blk_drewN ?_ _|refine blk_drew ?_|refine blk_alloc ?_ _));exact BK786.out))⟩;have n10_ : Aside0 (w118.heap[gb790]? = some (.cells #[.slice Ao86 t787.length co86] 38 (0,0))):=⟨(by rw [hw];exact (by (with_reducible repeat (first|refine blk_drewN ?_ _|refine blk_drew ?_|refine blk_alloc ?_ _));refine blk_far ?_ NB790_812.out _;(with_reducible repeat (first|refine blk_drewN ?_ _|refine blk_drew ?_|refine blk_alloc ?_ _));exact BK790.out))⟩;have n11_ : Aside0 (w118.heap[gb811]? = some (.cells #[.slice Ao106 t804.length co106] 38 (0,0))):=⟨(by rw [hw];exact (by (with_reducible repeat (first|refine blk_drewN ?_ _|refine blk_drew ?_|refine blk_alloc ?_ _));refine blk_far ?_ NB811_812.out _;(with_reducible repeat (first|refine blk_drewN ?_ _|refine blk_drew ?_|refine blk_alloc ?_ _));exact BK811.out))⟩;have n12_ : Aside0 (w118.heap[gb812]? = some (.cells #[.slice Ao113 t807.length co113] 38 (0,0))):=⟨(by rw [hw];exact (by (with_reducible repeat (first|refine blk_drewN ?_ _|refine blk_drew ?_|refine blk_alloc ?_ _));refine blk_put (cs:=#[.slice none 0 0]) ?_ 0 _ rfl;(with_reducible repeat (first|refine blk_drewN ?_ _|refine blk_drew ?_|refine blk_alloc ?_ _));exact BK812.out))⟩;have n13_ : Aside0 (Below w.heap.size w w118):=⟨(by rw [hw];exact (by repeat (first|(with_reducible first|exact HB.out|apply below_alloc|apply pw_below_drewN|apply below_drew1|refine below_set ?_ GE785.out|refine below_set ?_ GE786.out|refine below_set ?_ GE790.out|refine below_set ?_ GE811.out|refine below_set ?_ GE812.out)|exact HB.out)))⟩;clear hw;clear HO781;clear HO784;clear HO789;clear HO793;clear HO796;clear HO799;clear HO806;clear HO809;clear BK785;clear BK786;clear BK790;clear BK811;clear BK812;clear HB;have HO781:=n0_;have HO784:=n1_;have HO789:=n2_;have HO793:=n3_;have HO796:=n4_;have HO799:=n5_;have HO806:=n6_;have HO809:=n7_;have BK785:=n8_;have BK786:=n9_;have BK790:=n10_;have BK811:=n11_;have BK812:=n12_;have HB:=n13_;clear n0_ n1_ n2_ n3_ n4_ n5_ n6_ n7_ n8_ n9_ n10_ n11_ n12_ n13_;have hcz119_0 : w118.cell? ⟨gb786,0,none⟩ = some (.slice Ao79 t782.length co79):=(blk_cell BK786.out 0).trans rfl;have hfz119_0:=blk_frozen BK786.out 0;have hcz120_0 : w118.cell? ⟨gb790,0,none⟩ = some (.slice Ao86 t787.length co86):=(blk_cell BK790.out 0).trans rfl;have hfz120_0:=blk_frozen BK790.out 0)|((with_reducible refine gate_callee (f:=53) rfl ?_);refine goesL_ (some 59) rfl rfl Try.func53 (by kernel_rfl) rfl #[.agg #[.slice Ao79 t782.length co79],.agg #[.slice Ao86 t787.length co86]] rfl (by (try simp only [List.map_toArray,List.map_cons,List.map_nil]);first|done|rfl|(simp only [List.length_drop,List.length_take];rfl)) ?_;(with_reducible refine (nat_Nat_Div.calls k (fun k_ => (k_ ≠ gb785 ∧ (k_ ≠ gb786 ∧ (k_ ≠ gb790 ∧ (k_ ≠ gb811 ∧ k_ ≠ gb812))))) _ _ t782 _ _ t787 t813 t816 t819 _ ?side1 ?side2 ?side3 A63.out).mono ?_);(case side1 => exact HO784.out);(case side2 => repeat (first|exact (Kd.V_reads' HO789.out).2.2|(with_reducible refine Kd.C_alloc ?_ _)|(with_reducible refine Kd.C_drewN ?_ _)|(with_reducible refine Kd.C_drew ?_)));(case side3 => exact (Kd.V_reads' HO789.out).2.1);rintro e w121 ⟨v814,v817,rfl,ho0,ho1,hb⟩;refine ⟨_,rfl,?_⟩;have n0_:=Aside0.mk (Kd.V_below (by (with_reducible repeat (first|apply Kd.V_alloc|apply Kd.V_drewN|apply Kd.V_drew));exact HO781.out) hb);have n1_:=Aside0.mk (Kd.V_below (by (with_reducible repeat (first|apply Kd.V_alloc|apply Kd.V_drewN|apply Kd.V_drew));exact HO784.out) hb);have n2_:=Aside0.mk (Kd.V_below (by (with_reducible repeat (first|apply Kd.V_alloc|apply Kd.V_drewN|apply Kd.V_drew));exact HO789.out) hb);have n3_:=Aside0.mk (Kd.V_below (by (with_reducible repeat (first|apply Kd.V_alloc|apply Kd.V_drewN|apply Kd.V_drew));exact HO793.out) hb);have n4_:=Aside0.mk (Kd.V_below (by (with_reducible repeat (first|apply Kd.V_alloc|apply Kd.V_drewN|apply Kd.V_drew));exact HO796.out) hb);have n5_:=Aside0.mk (Kd.V_below (by (with_reducible repeat (first|apply Kd.V_alloc|apply Kd.V_drewN|apply Kd.V_drew));exact HO799.out) hb);have n6_:=Aside0.mk (Kd.V_below (by (with_reducible repeat (first|apply Kd.V_alloc|apply Kd.V_drewN|apply Kd.V_drew));exact HO806.out) hb);have n7_:=Aside0.mk (Kd.V_below (by (with_reducible repeat (first|apply Kd.V_alloc|apply Kd.V_drewN|apply Kd.V_drew));exact HO809.out) hb);have n8_:=Aside0.mk (Kd.V_lower (Kd.V_mono (ok':=fun k_ => k_ ≠ gb785 ∧ k_ ≠ gb786 ∧ k_ ≠ gb790 ∧ k_ ≠ gb811 ∧ k_ ≠ gb812) ho0 (fun k_ hk_ => ⟨Or.elim hk_ (fun hs_ => hs_.1) (fun hn_ => (Kd.freshB (g:=gb785) (o:=.cells #[.slice Ao75 t779.length co75] 38 (0,0)) (by (with_reducible repeat (first|refine blk_drewN ?_ _|refine blk_drew ?_|refine blk_alloc ?_ _));exact BK785.out) k_ hn_)),Or.elim hk_ (fun hs_ => hs_.2.1) (fun hn_ => (Kd.freshB (g:=gb786) (o:=.cells #[.slice Ao79 t782.length co79] 38 (0,0)) (by (with_reducible repeat (first|refine blk_drewN ?_ _|refine blk_drew ?_|refine blk_alloc ?_ _));exact BK786.out) k_ hn_)),Or.elim hk_ (fun hs_ => hs_.2.2.1) (fun hn_ => (Kd.freshB (g:=gb790) (o:=.cells #[.slice Ao86 t787.length co86] 38 (0,0)) (by (with_reducible repeat (first|refine blk_drewN ?_ _|refine blk_drew ?_|refine blk_alloc ?_ _));exact BK790.out) k_ hn_)),Or.elim hk_ (fun hs_ => hs_.2.2.2.1) (fun hn_ => (Kd.freshB (g:=gb811) (o:=.cells #[.slice Ao106 t804.length co106] 38 (0,0)) (by (with_reducible repeat (first|refine blk_drewN ?_ _|refine blk_drew ?_|refine blk_alloc ?_ _));exact BK811.out) k_ hn_)),Or.elim hk_ (fun hs_ => hs_.2.2.2.2) (fun hn_ => (Kd.freshB (g:=gb812) (o:=.cells #[.slice Ao113 t807.length co113] 38 (0,0)) (by (with_reducible repeat (first|refine blk_drewN ?_ _|refine blk_drew ?_|refine blk_alloc ?_ _));exact BK812.out) k_ hn_))⟩)) (below_size (by repeat (first|(with_reducible first|exact HB.out|apply below_alloc|apply pw_below_drewN|apply below_drew1|refine below_set ?_ GE785.out|refine below_set ?_ GE786.out|refine below_set ?_ GE790.out|refine below_set ?_ GE811.out|refine below_set ?_ GE812.out)|exact HB.out))));have n9_:=Aside0.mk (Kd.V_lower (Kd.V_mono (ok':=fun k_ => k_ ≠ gb785 ∧ k_ ≠ gb786 ∧ k_ ≠ gb790 ∧ k_ ≠ gb811 ∧ k_ ≠ gb812) ho1 (fun k_ hk_ => ⟨Or.elim hk_ (fun hs_ => hs_.1) (fun hn_ => (Kd.freshB (g:=gb785) (o:=.cells #[.slice Ao75 t779.length co75] 38 (0,0)) (by (with_reducible repeat (first|refine blk_drewN ?_ _|refine blk_drew ?_|refine blk_alloc ?_ _));exact BK785.out) k_ hn_)),Or.elim hk_ (fun hs_ => hs_.2.1) (fun hn_ => (Kd.freshB (g:=gb786) (o:=.cells #[.slice Ao79 t782.length co79] 38 (0,0)) (by (with_reducible repeat (first|refine blk_drewN ?_ _|refine blk_drew ?_|refine blk_alloc ?_ _));exact BK786.out) k_ hn_)),Or.elim hk_ (fun hs_ => hs_.2.2.1) (fun hn_ => (Kd.freshB (g:=gb790) (o:=.cells #[.slice Ao86 t787.length co86] 38 (0,0)) (by (with_reducible repeat (first|refine blk_drewN ?_ _|refine blk_drew ?_|refine blk_alloc ?_ _));exact BK790.out) k_ hn_)),Or.elim hk_ (fun hs_ => hs_.2.2.2.1) (fun hn_ => (Kd.freshB (g:=gb811) (o:=.cells #[.slice Ao106 t804.length co106] 38 (0,0)) (by (with_reducible repeat (first|refine blk_drewN ?_ _|refine blk_drew ?_|refine blk_alloc ?_ _));exact BK811.out) k_ hn_)),Or.elim hk_ (fun hs_ => hs_.2.2.2.2) (fun hn_ => (Kd.freshB (g:=gb812) (o:=.cells #[.slice Ao113 t807.length co113] 38 (0,0)) (by (with_reducible repeat (first|refine blk_drewN ?_ _|refine blk_drew ?_|refine blk_alloc ?_ _));exact BK812.out) k_ hn_))⟩)) (below_size (by repeat (first|(with_reducible first|exact HB.out|apply below_alloc|apply pw_below_drewN|apply below_drew1|refine below_set ?_ GE785.out|refine below_set ?_ GE786.out|refine below_set ?_ GE790.out|refine below_set ?_ GE811.out|refine below_set ?_ GE812.out)|exact HB.out))));have n10_:=Aside0.mk (blk_below (g:=gb785) (o:=.cells #[.slice Ao75 t779.length co75] 38 (0,0)) (by (with_reducible repeat (first|refine blk_drewN ?_ _|refine blk_drew ?_|refine blk_alloc ?_ _));exact BK785.out) hb);have n11_:=Aside0.mk (blk_below (g:=gb786) (o:=.cells #[.slice Ao79 t782.length co79] 38 (0,0)) (by (with_reducible repeat (first|refine blk_drewN ?_ _|refine blk_drew ?_|refine blk_alloc ?_ _));exact BK786.out) hb);have n12_:=Aside0.mk (blk_below (g:=gb790) (o:=.cells #[.slice Ao86 t787.length co86] 38 (0,0)) (by (with_reducible repeat (first|refine blk_drewN ?_ _|refine blk_drew ?_|refine blk_alloc ?_ _));exact BK790.out) hb);have n13_:=Aside0.mk (blk_below (g:=gb811) (o:=.cells #[.slice Ao106 t804.length co106] 38 (0,0)) (by (with_reducible repeat (first|refine blk_drewN ?_ _|refine blk_drew ?_|refine blk_alloc ?_ _));exact BK811.out) hb);have n14_:=Aside0.mk (blk_below (g:=gb812) (o:=.cells #[.slice Ao113 t807.length co113] 38 (0,0)) (by (with_reducible repeat (first|refine blk_drewN ?_ _|refine blk_drew ?_|refine blk_alloc ?_ _));exact BK812.out) hb);have n15_:=Aside0.mk (below_step (by repeat (first|(with_reducible first|exact HB.out|apply below_alloc|apply pw_below_drewN|apply below_drew1|refine below_set ?_ GE785.out|refine below_set ?_ GE786.out|refine below_set ?_ GE790.out|refine below_set ?_ GE811.out|refine below_set ?_ GE812.out)|exact HB.out)) hb);clear HO781;clear HO784;clear HO789;clear HO793;clear HO796;clear HO799;clear HO806;clear HO809;clear BK785;clear BK786;clear BK790;clear BK811;clear BK812;clear HB;have HO781:=n0_;have HO784:=n1_;have HO789:=n2_;have HO793:=n3_;have HO796:=n4_;have HO799:=n5_;have HO806:=n6_;have HO809:=n7_;have HO815:=n8_;have HO818:=n9_;have BK785:=n10_;have BK786:=n11_;have BK790:=n12_;have BK811:=n13_;have BK812:=n14_;have HB:=n15_;clear n0_ n1_ n2_ n3_ n4_ n5_ n6_ n7_ n8_ n9_ n10_ n11_ n12_ n13_ n14_ n15_;(try clear hb);(try clear hb2);(try clear hk);(try clear hi);(try clear ho0);(try clear ho1))|((with_reducible refine gate_dst (N:=11) rfl ?_);refine box_event ?hg (N:=11) ?hd (cs:=#[.slice none 0 0]) (t:=38) ?hr ?_;(case hd => rfl);(case hg => rfl);(case hr => first|(go_simp;done)|(go_simp;rfl));intro gb820 hg w122 hbox hb;have n0_:=Aside0.mk (Kd.V_below (Kd.V_elderB (by (with_reducible repeat (first|apply Kd.V_alloc|apply Kd.V_drewN|apply Kd.V_drew));exact HO781.out) gb820 (Nat.le_of_eq hg.symm)) hb);have n1_:=Aside0.mk (Kd.V_below (Kd.V_elderB (by (with_reducible repeat (first|apply Kd.V_alloc|apply Kd.V_drewN|apply Kd.V_drew));exact HO784.out) gb820 (Nat.le_of_eq hg.symm)) hb);have n2_:=Aside0.mk (Kd.V_below (Kd.V_elderB (by (with_reducible repeat (first|apply Kd.V_alloc|apply Kd.V_drewN|apply Kd.V_drew));exact HO789.out) gb820 (Nat.le_of_eq hg.symm)) hb);have n3_:=Aside0.mk (Kd.V_below (Kd.V_elderB (by (with_reducible repeat (first|apply Kd.V_alloc|apply Kd.V_drewN|apply Kd.V_drew));exact HO793.out) gb820 (Nat.le_of_eq hg.symm)) hb);have n4_:=Aside0.mk (Kd.V_below (Kd.V_elderB (by (with_reducible repeat (first|apply Kd.V_alloc|apply Kd.V_drewN|apply Kd.V_drew));exact HO796.out) gb820 (Nat.le_of_eq hg.symm)) hb);have n5_:=Aside0.mk (Kd.V_below (Kd.V_elderB (by (with_reducible repeat (first|apply Kd.V_alloc|apply Kd.V_drewN|apply Kd.V_drew));exact HO799.out) gb820 (Nat.le_of_eq hg.symm)) hb);have n6_:=Aside0.mk (Kd.V_below (Kd.V_elderB (by (with_reducible repeat (first|apply Kd.V_alloc|apply Kd.V_drewN|apply Kd.V_drew));exact HO806.out) gb820 (Nat.le_of_eq hg.symm)) hb);have n7_:=Aside0.mk (Kd.V_below (Kd.V_elderB (by (with_reducible repeat (first|apply Kd.V_alloc|apply Kd.V_drewN|apply Kd.V_drew));exact HO809.out) gb820 (Nat.le_of_eq hg.symm)) hb);have n8_:=Aside0.mk (Kd.V_below (Kd.V_elderB (by (with_reducible repeat (first|apply Kd.V_alloc|apply Kd.V_drewN|apply Kd.V_drew));exact HO815.out) gb820 (Nat.le_of_eq hg.symm)) hb);have n9_:=Aside0.mk (Kd.V_below (Kd.V_elderB (by (with_reducible repeat (first|apply Kd.V_alloc|apply Kd.V_drewN|apply Kd.V_drew));exact HO818.out) gb820 (Nat.le_of_eq hg.symm)) hb);have n10_:=Aside0.mk (blk_below (g:=gb785) (o:=.cells #[.slice Ao75 t779.length co75] 38 (0,0)) (by (with_reducible repeat (first|refine blk_drewN ?_ _|refine blk_drew ?_|refine blk_alloc ?_ _));exact BK785.out) hb);have n11_:=Aside0.mk (blk_below (g:=gb786) (o:=.cells #[.slice Ao79 t782.length co79] 38 (0,0)) (by (with_reducible repeat (first|refine blk_drewN ?_ _|refine blk_drew ?_|refine blk_alloc ?_ _));exact BK786.out) hb);have n12_:=Aside0.mk (blk_below (g:=gb790) (o:=.cells #[.slice Ao86 t787.length co86] 38 (0,0)) (by (with_reducible repeat (first|refine blk_drewN ?_ _|refine blk_drew ?_|refine blk_alloc ?_ _));exact BK790.out) hb);have n13_:=Aside0.mk (blk_below (g:=gb811) (o:=.cells #[.slice Ao106 t804.length co106] 38 (0,0)) (by (with_reducible repeat (first|refine blk_drewN ?_ _|refine blk_drew ?_|refine blk_alloc ?_ _));exact BK811.out) hb);have n14_:=Aside0.mk (blk_below (g:=gb812) (o:=.cells #[.slice Ao113 t807.length co113] 38 (0,0)) (by (with_reducible repeat (first|refine blk_drewN ?_ _|refine blk_drew ?_|refine blk_alloc ?_ _));exact BK812.out) hb);have n15_:=Aside0.mk (below_step (by repeat (first|(with_reducible first|exact HB.out|apply below_alloc|apply pw_below_drewN|apply below_drew1|refine below_set ?_ GE785.out|refine below_set ?_ GE786.out|refine below_set ?_ GE790.out|refine below_set ?_ GE811.out|refine below_set ?_ GE812.out)|exact HB.out)) hb);have n16_:=Aside0.mk (hbox);have n17_:=Aside0.mk ((by rw [hg];exact (below_size (by repeat (first|(with_reducible first|exact HB.out|apply below_alloc|apply pw_below_drewN|apply below_drew1|refine below_set ?_ GE785.out|refine below_set ?_ GE786.out|refine below_set ?_ GE790.out|refine below_set ?_ GE811.out|refine below_set ?_ GE812.out)|exact HB.out))) : w.heap.size ≤ gb820));have n18_:=Aside0.mk ((by rw [hg];exact (below_size (by repeat (first|(with_reducible first|exact HB.out|apply below_alloc|apply pw_below_drewN|apply below_drew1|refine below_set ?_ GE785.out|refine below_set ?_ GE786.out|refine below_set ?_ GE790.out|refine below_set ?_ GE811.out|refine below_set ?_ GE812.out)|exact HB.out))) : w.heap.size ≤ gb820));have n19_:=Aside0.mk ((by rw [hg];exact Nat.ne_of_lt (blk_lt (g:=gb785) (o:=.cells #[.slice Ao75 t779.length co75] 38 (0,0)) (by (with_reducible repeat (first|refine blk_drewN ?_ _|refine blk_drew ?_|refine blk_alloc ?_ _));exact BK785.out)) : gb785 ≠ gb820));have n20_:=Aside0.mk ((by rw [hg];exact Nat.ne_of_gt (blk_lt (g:=gb785) (o:=.cells #[.slice Ao75 t779.length co75] 38 (0,0)) (by (with_reducible repeat (first|refine blk_drewN ?_ _|refine blk_drew ?_|refine blk_alloc ?_ _));exact BK785.out)) : gb820 ≠ gb785));have n21_:=Aside0.mk ((by rw [hg];exact Nat.ne_of_lt (blk_lt (g:=gb786) (o:=.cells #[.slice Ao79 t782.length co79] 38 (0,0)) (by (with_reducible repeat (first|refine blk_drewN ?_ _|refine blk_drew ?_|refine blk_alloc ?_ _));exact BK786.out)) : gb786 ≠ gb820));have n22_:=Aside0.mk ((by rw [hg];exact Nat.ne_of_gt (blk_lt (g:=gb786) (o:=.cells #[.slice Ao79 t782.length co79] 38 (0,0)) (by (with_reducible repeat (first|refine blk_drewN ?_ _|refine blk_drew ?_|refine blk_alloc ?_ _));exact BK786.out)) : gb820 ≠ gb786));have n23_:=Aside0.mk ((by rw [hg];exact Nat.ne_of_lt (blk_lt (g:=gb790) (o:=.cells #[.slice Ao86 t787.length co86] 38 (0,0)) (by (with_reducible repeat (first|refine blk_drewN ?_ _|refine blk_drew ?_|refine blk_alloc ?_ _));exact BK790.out)) : gb790 ≠ gb820));have n24_:=Aside0.mk ((by rw [hg];exact Nat.ne_of_gt (blk_lt (g:=gb790) (o:=.cells #[.slice Ao86 t787.length co86] 38 (0,0)) (by (with_reducible repeat (first|refine blk_drewN ?_ _|refine blk_drew ?_|refine blk_alloc ?_ _));exact BK790.out)) : gb820 ≠ gb790));have n25_:=Aside0.mk ((by rw [hg];exact Nat.ne_of_lt (blk_lt (g:=gb811) (o:=.cells #[.slice Ao106 t804.length co106] 38 (0,0)) (by (with_reducible repeat (first|refine blk_drewN ?_ _|refine blk_drew ?_|refine blk_alloc ?_ _));exact BK811.out)) : gb811 ≠ gb820));have n26_:=Aside0.mk ((by rw [hg];exact Nat.ne_of_gt (blk_lt (g:=gb811) (o:=.cells #[.slice Ao106 t804.length co106] 38 (0,0)) (by (with_reducible repeat (first|refine blk_drewN ?_ _|refine blk_drew ?_|refine blk_alloc ?_ _));exact BK811.out)) : gb820 ≠ gb811));have n27_:=Aside0.mk ((by rw [hg];exact Nat.ne_of_lt (blk_lt (g:=gb812) (o:=.cells #[.slice Ao113 t807.length co113] 38 (0,0)) (by (with_reducible repeat (first|refine blk_drewN ?_ _|refine blk_drew ?_|refine blk_alloc ?_ _));exact BK812.out)) : gb812 ≠ gb820));have n28_:=Aside0.mk ((by rw [hg];exact Nat.ne_of_gt (blk_lt (g:=gb812) (o:=.cells #[.slice Ao113 t807.length co113] 38 (0,0)) (by (with_reducible repeat (first|refine blk_drewN ?_ _|refine blk_drew ?_|refine blk_alloc ?_ _));exact BK812.out)) : gb820 ≠ gb812));clear HO781;clear HO784;clear HO789;clear HO793;clear HO796;clear HO799;clear HO806;clear HO809;clear HO815;clear HO818;clear BK785;clear BK786;clear BK790;clear BK811;clear BK812;clear HB;have HO781:=n0_;have HO784:=n1_;have HO789:=n2_;have HO793:=n3_;have HO796:=n4_;have HO799:=n5_;have HO806:=n6_;have HO809:=n7_;have HO815:=n8_;have HO818:=n9_;have BK785:=n10_;have BK786:=n11_;have BK790:=n12_;have BK811:=n13_;have BK812:=n14_;have HB:=n15_;have BK820:=n16_;have GW820:=n17_;have GE820:=n18_;have NB785_820:=n19_;have NB820_785:=n20_;have NB786_820:=n21_;have NB820_786:=n22_;have NB790_820:=n23_;have NB820_790:=n24_;have NB811_820:=n25_;have NB820_811:=n26_;have NB812_820:=n27_;have NB820_812:=n28_;clear n0_ n1_ n2_ n3_ n4_ n5_ n6_ n7_ n8_ n9_ n10_ n11_ n12_ n13_ n14_ n15_ n16_ n17_ n18_ n19_ n20_ n21_ n22_ n23_ n24_ n25_ n26_ n27_ n28_;clear hb hbox hg)|((with_reducible refine gate_dst (N:=12) rfl ?_);refine box_event ?hg (N:=12) ?hd (cs:=#[.slice none 0 0]) (t:=38) ?hr ?_;(case hd => rfl);(case hg => rfl);(case hr => first|(go_simp;done)|(go_simp;rfl));intro gb821 hg w123 hbox hb;have n0_:=Aside0.mk (Kd.V_below (Kd.V_elderB (by (with_reducible repeat (first|apply Kd.V_alloc|apply Kd.V_drewN|apply Kd.V_drew));exact HO781.out) gb821 (Nat.le_of_eq hg.symm)) hb);have n1_:=Aside0.mk (Kd.V_below (Kd.V_elderB (by (with_reducible repeat (first|apply Kd.V_alloc|apply Kd.V_drewN|apply Kd.V_drew));exact HO784.out) gb821 (Nat.le_of_eq hg.symm)) hb);have n2_:=Aside0.mk (Kd.V_below (Kd.V_elderB (by (with_reducible repeat (first|apply Kd.V_alloc|apply Kd.V_drewN|apply Kd.V_drew));exact HO789.out) gb821 (Nat.le_of_eq hg.symm)) hb);have n3_:=Aside0.mk (Kd.V_below (Kd.V_elderB (by (with_reducible repeat (first|apply Kd.V_alloc|apply Kd.V_drewN|apply Kd.V_drew));exact HO793.out) gb821 (Nat.le_of_eq hg.symm)) hb);have n4_:=Aside0.mk (Kd.V_below (Kd.V_elderB (by (with_reducible repeat (first|apply Kd.V_alloc|apply Kd.V_drewN|apply Kd.V_drew));exact HO796.out) gb821 (Nat.le_of_eq hg.symm)) hb);have n5_:=Aside0.mk (Kd.V_below (Kd.V_elderB (by (with_reducible repeat (first|apply Kd.V_alloc|apply Kd.V_drewN|apply Kd.V_drew));exact HO799.out) gb821 (Nat.le_of_eq hg.symm)) hb);have n6_:=Aside0.mk (Kd.V_below (Kd.V_elderB (by (with_reducible repeat (first|apply Kd.V_alloc|apply Kd.V_drewN|apply Kd.V_drew));exact HO806.out) gb821 (Nat.le_of_eq hg.symm)) hb);have n7_:=Aside0.mk (Kd.V_below (Kd.V_elderB (by (with_reducible repeat (first|apply Kd.V_alloc|apply Kd.V_drewN|apply Kd.V_drew));exact HO809.out) gb821 (Nat.le_of_eq hg.symm)) hb);have n8_:=Aside0.mk (Kd.V_below (Kd.V_elderB (by (with_reducible repeat (first|apply Kd.V_alloc|apply Kd.V_drewN|apply Kd.V_drew));exact HO815.out) gb821 (Nat.le_of_eq hg.symm)) hb);have n9_:=Aside0.mk (Kd.V_below (Kd.V_elderB (by (with_reducible repeat (first|apply Kd.V_alloc|apply Kd.V_drewN|apply Kd.V_drew));exact HO818.out) gb821 (Nat.le_of_eq hg.symm)) hb);have n10_:=Aside0.mk (blk_below (g:=gb785) (o:=.cells #[.slice Ao75 t779.length co75] 38 (0,0)) (by (with_reducible repeat (first|refine blk_drewN ?_ _|refine blk_drew ?_|refine blk_alloc ?_ _));exact BK785.out) hb);have n11_:=Aside0.mk (blk_below (g:=gb786) (o:=.cells #[.slice Ao79 t782.length co79] 38 (0,0)) (by (with_reducible repeat (first|refine blk_drewN ?_ _|refine blk_drew ?_|refine blk_alloc ?_ _));exact BK786.out) hb);have n12_:=Aside0.mk (blk_below (g:=gb790) (o:=.cells #[.slice Ao86 t787.length co86] 38 (0,0)) (by (with_reducible repeat (first|refine blk_drewN ?_ _|refine blk_drew ?_|refine blk_alloc ?_ _));exact BK790.out) hb);have n13_:=Aside0.mk (blk_below (g:=gb811) (o:=.cells #[.slice Ao106 t804.length co106] 38 (0,0)) (by (with_reducible repeat (first|refine blk_drewN ?_ _|refine blk_drew ?_|refine blk_alloc ?_ _));exact BK811.out) hb);have n14_:=Aside0.mk (blk_below (g:=gb812) (o:=.cells #[.slice Ao113 t807.length co113] 38 (0,0)) (by (with_reducible repeat (first|refine blk_drewN ?_ _|refine blk_drew ?_|refine blk_alloc ?_ _));exact BK812.out) hb);have n15_:=Aside0.mk (blk_below (g:=gb820) (o:=.cells #[.slice none 0 0] 38 (0,0)) (by (with_reducible repeat (first|refine blk_drewN ?_ _|refine blk_drew ?_|refine blk_alloc ?_ _));exact BK820.out) hb);have n16_:=Aside0.mk (below_step (by repeat (first|(with_reducible first|exact HB.out|apply below_alloc|apply pw_below_drewN|apply below_drew1|refine below_set ?_ GE785.out|refine below_set ?_ GE786.out|refine below_set ?_ GE790.out|refine below_set ?_ GE811.out|refine below_set ?_ GE812.out|refine below_set ?_ GE820.out)|exact HB.out)) hb);have n17_:=Aside0.mk (hbox);have n18_:=Aside0.mk ((by rw [hg];exact (below_size (by repeat (first|(with_reducible first|exact HB.out|apply below_alloc|apply pw_below_drewN|apply below_drew1|refine below_set ?_ GE785.out|refine below_set ?_ GE786.out|refine below_set ?_ GE790.out|refine below_set ?_ GE811.out|refine below_set ?_ GE812.out|refine below_set ?_ GE820.out)|exact HB.out))) : w.heap.size ≤ gb821));have n19_:=Aside0.mk ((by rw [hg];exact (below_size (by repeat (first|(with_reducible first|exact HB.out|apply below_alloc|apply pw_below_drewN|apply below_drew1|refine below_set ?_ GE785.out|refine below_set ?_ GE786.out|refine below_set ?_ GE790.out|refine below_set ?_ GE811.out|refine below_set ?_ GE812.out|refine below_set ?_ GE820.out)|exact HB.out))) : w.heap.size ≤ gb821));have n20_:=Aside0.mk ((by rw [hg];exact Nat.ne_of_lt (blk_lt (g:=gb785) (o:=.cells #[.slice Ao75 t779.length co75] 38 (0,0)) (by (with_reducible repeat (first|refine blk_drewN ?_ _|refine blk_drew ?_|refine blk_alloc ?_ _));exact BK785.out)) : gb785 ≠ gb821));have n21_:=Aside0.mk ((by rw [hg];exact Nat.ne_of_gt (blk_lt (g:=gb785) (o:=.cells #[.slice Ao75 t779.length co75] 38 (0,0)) (by (with_reducible repeat (first|refine blk_drewN ?_ _|refine blk_drew ?_|refine blk_alloc ?_ _));exact BK785.out)) : gb821 ≠ gb785));have n22_:=Aside0.mk ((by rw [hg];exact Nat.ne_of_lt (blk_lt (g:=gb786) (o:=.cells #[.slice Ao79 t782.length co79] 38 (0,0)) (by (with_reducible repeat (first|refine blk_drewN ?_ _|refine blk_drew ?_|refine blk_alloc ?_ _));exact BK786.out)) : gb786 ≠ gb821));have n23_:=Aside0.mk ((by rw [hg];exact Nat.ne_of_gt (blk_lt (g:=gb786) (o:=.cells #[.slice Ao79 t782.length co79] 38 (0,0)) (by (with_reducible repeat (first|refine blk_drewN ?_ _|refine blk_drew ?_|refine blk_alloc ?_ _));exact BK786.out)) : gb821 ≠ gb786));have n24_:=Aside0.mk ((by rw [hg];exact Nat.ne_of_lt (blk_lt (g:=gb790) (o:=.cells #[.slice Ao86 t787.length co86] 38 (0,0)) (by (with_reducible repeat (first|refine blk_drewN ?_ _|refine blk_drew ?_|refine blk_alloc ?_ _));exact BK790.out)) : gb790 ≠ gb821));have n25_:=Aside0.mk ((by rw [hg];exact Nat.ne_of_gt (blk_lt (g:=gb790) (o:=.cells #[.slice Ao86 t787.length co86] 38 (0,0)) (by (with_reducible repeat (first|refine blk_drewN ?_ _|refine blk_drew ?_|refine blk_alloc ?_ _));exact BK790.out)) : gb821 ≠ gb790));have n26_:=Aside0.mk ((by rw [hg];exact Nat.ne_of_lt (blk_lt (g:=gb811) (o:=.cells #[.slice Ao106 t804.length co106] 38 (0,0)) (by (with_reducible repeat (first|refine blk_drewN ?_ _|refine blk_drew ?_|refine blk_alloc ?_ _));exact BK811.out)) : gb811 ≠ gb821));have n27_:=Aside0.mk ((by rw [hg];exact Nat.ne_of_gt (blk_lt (g:=gb811) (o:=.cells #[.slice Ao106 t804.length co106] 38 (0,0)) (by (with_reducible repeat (first|refine blk_drewN ?_ _|refine blk_drew ?_|refine blk_alloc ?_ _));exact BK811.out)) : gb821 ≠ gb811));have n28_:=Aside0.mk ((by rw [hg];exact Nat.ne_of_lt (blk_lt (g:=gb812) (o:=.cells #[.slice Ao113 t807.length co113] 38 (0,0)) (by (with_reducible repeat (first|refine blk_drewN ?_ _|refine blk_drew ?_|refine blk_alloc ?_ _));exact BK812.out)) : gb812 ≠ gb821));have n29_:=Aside0.mk ((by rw [hg];exact Nat.ne_of_gt (blk_lt (g:=gb812) (o:=.cells #[.slice Ao113 t807.length co113] 38 (0,0)) (by (with_reducible repeat (first|refine blk_drewN ?_ _|refine blk_drew ?_|refine blk_alloc ?_ _));exact BK812.out)) : gb821 ≠ gb812));have n30_:=Aside0.mk ((by rw [hg];exact Nat.ne_of_lt (blk_lt (g:=gb820) (o:=.cells #[.slice none 0 0] 38 (0,0)) (by (with_reducible repeat (first|refine blk_drewN ?_ _|refine blk_drew ?_|refine blk_alloc ?_ _));exact BK820.out)) : gb820 ≠ gb821));have n31_:=Aside0.mk ((by rw [hg];exact Nat.ne_of_gt (blk_lt (g:=gb820) (o:=.cells #[.slice none 0 0] 38 (0,0)) (by (with_reducible repeat (first|refine blk_drewN ?_ _|refine blk_drew ?_|refine blk_alloc ?_ _));exact BK820.out)) : gb821 ≠ gb820));clear HO781;clear HO784;clear HO789;clear HO793;clear HO796;clear HO799;clear HO806;clear HO809;clear HO815;clear HO818;clear BK785;clear BK786;clear BK790;clear BK811;clear BK812;clear BK820;clear HB;have HO781:=n0_;have HO784:=n1_;have HO789:=n2_;have HO793:=n3_;have HO796:=n4_;have HO799:=n5_;have HO806:=n6_;have HO809:=n7_;have HO815:=n8_;have HO818:=n9_;have BK785:=n10_;have BK786:=n11_;have BK790:=n12_;have BK811:=n13_;have BK812:=n14_;have BK820:=n15_;have HB:=n16_;have BK821:=n17_;have GW821:=n18_;have GE821:=n19_;have NB785_821:=n20_;have NB821_785:=n21_;have NB786_821:=n22_;have NB821_786:=n23_;have NB790_821:=n24_;have NB821_790:=n25_;have NB811_821:=n26_;have NB821_811:=n27_;have NB812_821:=n28_;have NB821_812:=n29_;have NB820_821:=n30_;have NB821_820:=n31_;clear n0_ n1_ n2_ n3_ n4_ n5_ n6_ n7_ n8_ n9_ n10_ n11_ n12_ n13_ n14_ n15_ n16_ n17_ n18_ n19_ n20_ n21_ n22_ n23_ n24_ n25_ n26_ n27_ n28_ n29_ n30_ n31_;clear hb hbox hg;obtain ⟨Ao124,co124,eo124⟩:=Kd.V_slice HO815.out;subst eo124;have hnb125:=NB820_785.out;have hnc125:=NB785_820.out;have hnb126:=NB820_786.out;have hnc126:=NB786_820.out;have hnb127:=NB820_790.out;have hnc127:=NB790_820.out;have hnb128:=NB820_811.out;have hnc128:=NB811_820.out;have hnb129:=NB820_812.out;have hnc129:=NB812_820.out;have hnb130:=NB820_821.out;have hnc130:=NB821_820.out;have hcz131_0 : w123.cell? ⟨gb820,0,none⟩ = some (.slice none 0 0):=(blk_cell BK820.out 0).trans rfl;have hfz131_0:=blk_frozen BK820.out 0;obtain ⟨Ao132,co132,eo132⟩:=Kd.V_slice HO818.out;subst eo132;have hnb133:=NB821_785.out;have hnc133:=NB785_821.out;have hnb134:=NB821_786.out;have hnc134:=NB786_821.out;have hnb135:=NB821_790.out;have hnc135:=NB790_821.out;have hnb136:=NB821_811.out;have hnc136:=NB811_821.out;have hnb137:=NB821_812.out;have hnc137:=NB812_821.out;have hcz138_0 : w123.cell? ⟨gb821,0,none⟩ = some (.slice none 0 0):=(blk_cell BK821.out 0).trans rfl;have hfz138_0:=blk_frozen BK821.out 0;have hcz139_0 : w123.cell? ⟨gb812,0,none⟩ = some (.slice Ao113 t807.length co113):=(blk_cell BK812.out 0).trans rfl;have hfz139_0:=blk_frozen BK812.out 0)|((with_reducible refine gate_callee (f:=44) rfl ?_);refine goesL_ (some 64) rfl rfl Try.func44 (by kernel_rfl) rfl #[.agg #[.slice Ao113 t807.length co113]] rfl (by (try simp only [List.map_toArray,List.map_cons,List.map_nil]);first|done|rfl|(simp only [List.length_drop,List.length_take];rfl)) ?_;(with_reducible refine (nat_Nat_Zero.calls _ _ t807 true _ ?side1 ?side2 A64.out).mono ?_);(case side1 => refine (Kd.V_reads' (e:=23) (base:=w.heap.size) (ok:=fun k_ => (((k_ ≠ gb785 ∧ (k_ ≠ gb786 ∧ (k_ ≠ gb790 ∧ (k_ ≠ gb811 ∧ k_ ≠ gb812)))) ∧ k_ ≠ gb820) ∧ k_ ≠ gb821)) (n:=t807.length) (c:=co113) ?_).2.2;exact (by (with_reducible repeat (first|apply Kd.V_alloc|apply Kd.V_drewN|apply Kd.V_drew));exact (Kd.V_mono (Kd.V_mono (Kd.V_far (p:=⟨gb821,0,none⟩) (Kd.V_far (p:=⟨gb820,0,none⟩) (Kd.V_mono (Kd.V_mono HO809.out (fun k_ hk => (⟨hk,hk.1.2⟩ : _ ∧ k_ ≠ gb820))) (fun k_ hk => (⟨hk,hk.1.2⟩ : _ ∧ k_ ≠ gb821))) (fun _ hk => hk.1.2) (.slice Ao124 t813.length co124)) (fun _ hk => hk.2) (.slice Ao132 t816.length co132)) (fun _ h_ => h_.1)) (fun _ h_ => h_.1))));(case side2 => exact (Kd.V_reads' HO809.out).2.1);rintro e w140 ⟨rfl,hb⟩;refine ⟨_,rfl,?_⟩;have n0_:=Aside0.mk (Kd.V_below (by (with_reducible repeat (first|apply Kd.V_alloc|apply Kd.V_drewN|apply Kd.V_drew));exact (Kd.V_mono (Kd.V_mono (Kd.V_far (p:=⟨gb821,0,none⟩) (Kd.V_far (p:=⟨gb820,0,none⟩) (Kd.V_mono (Kd.V_mono HO781.out (fun k_ hk => (⟨hk,hk.1.2⟩ : _ ∧ k_ ≠ gb820))) (fun k_ hk => (⟨hk,hk.1.2⟩ : _ ∧ k_ ≠ gb821))) (fun _ hk => hk.1.2) (.slice Ao124 t813.length co124)) (fun _ hk => hk.2) (.slice Ao132 t816.length co132)) (fun _ h_ => h_.1)) (fun _ h_ => h_.1))) hb);have n1_:=Aside0.mk (Kd.V_below (by (with_reducible repeat (first|apply Kd.V_alloc|apply Kd.V_drewN|apply Kd.V_drew));exact (Kd.V_mono (Kd.V_mono (Kd.V_far (p:=⟨gb821,0,none⟩) (Kd.V_far (p:=⟨gb820,0,none⟩) (Kd.V_mono (Kd.V_mono HO784.out (fun k_ hk => (⟨hk,hk.1.2⟩ : _ ∧ k_ ≠ gb820))) (fun k_ hk => (⟨hk,hk.1.2⟩ : _ ∧ k_ ≠ gb821))) (fun _ hk => hk.1.2) (.slice Ao124 t813.length co124)) (fun _ hk => hk.2) (.slice Ao132 t816.length co132)) (fun _ h_ => h_.1)) (fun _ h_ => h_.1))) hb);have n2_:=Aside0.mk (Kd.V_below (by (with_reducible repeat (first|apply Kd.V_alloc|apply Kd.V_drewN|apply Kd.V_drew));exact (Kd.V_mono (Kd.V_mono (Kd.V_far (p:=⟨gb821,0,none⟩) (Kd.V_far (p:=⟨gb820,0,none⟩) (Kd.V_mono (Kd.V_mono HO789.out (fun k_ hk => (⟨hk,hk.1.2⟩ : _ ∧ k_ ≠ gb820))) (fun k_ hk => (⟨hk,hk.1.2⟩ : _ ∧ k_ ≠ gb821))) (fun _ hk => hk.1.2) (.slice Ao124 t813.length co124)) (fun _ hk => hk.2) (.slice Ao132 t816.length co132)) (fun _ h_ => h_.1)) (fun _ h_ => h_.1))) hb);have n3_:=Aside0.mk (Kd.V_below (by (with_reducible repeat (first|apply Kd.V_alloc|apply Kd.V_drewN|apply Kd.V_drew));exact (Kd.V_mono (Kd.V_mono (Kd.V_far (p:=⟨gb821,0,none⟩) (Kd.V_far (p:=⟨gb820,0,none⟩) (Kd.V_mono (Kd.V_mono HO793.out (fun k_ hk => (⟨hk,hk.1.2⟩ : _ ∧ k_ ≠ gb820))) (fun k_ hk => (⟨hk,hk.1.2⟩ : _ ∧ k_ ≠ gb821))) (fun _ hk => hk.1.2) (.slice Ao124 t813.length co124)) (fun _ hk => hk.2) (.slice Ao132 t816.length co132)) (fun _ h_ => h_.1)) (fun _ h_ => h_.1))) hb);have n4_:=Aside0.mk (Kd.V_below (by (with_reducible repeat (first|apply Kd.V_alloc|apply Kd.V_drewN|apply Kd.V_drew));exact (Kd.V_mono (Kd.V_mono (Kd.V_far (p:=⟨gb821,0,none⟩) (Kd.V_far (p:=⟨gb820,0,none⟩) (Kd.V_mono (Kd.V_mono HO796.out (fun k_ hk => (⟨hk,hk.1.2⟩ : _ ∧ k_ ≠ gb820))) (fun k_ hk => (⟨hk,hk.1.2⟩ : _ ∧ k_ ≠ gb821))) (fun _ hk => hk.1.2) (.slice Ao124 t813.length co124)) (fun _ hk => hk.2) (.slice Ao132 t816.length co132)) (fun _ h_ => h_.1)) (fun _ h_ => h_.1))) hb);have n5_:=Aside0.mk (Kd.V_below (by (with_reducible repeat (first|apply Kd.V_alloc|apply Kd.V_drewN|apply Kd.V_drew));exact (Kd.V_mono (Kd.V_mono (Kd.V_far (p:=⟨gb821,0,none⟩) (Kd.V_far (p:=⟨gb820,0,none⟩) (Kd.V_mono (Kd.V_mono HO799.out (fun k_ hk => (⟨hk,hk.1.2⟩ : _ ∧ k_ ≠ gb820))) (fun k_ hk => (⟨hk,hk.1.2⟩ : _ ∧ k_ ≠ gb821))) (fun _ hk => hk.1.2) (.slice Ao124 t813.length co124)) (fun _ hk => hk.2) (.slice Ao132 t816.length co132)) (fun _ h_ => h_.1)) (fun _ h_ => h_.1))) hb);have n6_:=Aside0.mk (Kd.V_below (by (with_reducible repeat (first|apply Kd.V_alloc|apply Kd.V_drewN|apply Kd.V_drew));exact (Kd.V_mono (Kd.V_mono (Kd.V_far (p:=⟨gb821,0,none⟩) (Kd.V_far (p:=⟨gb820,0,none⟩) (Kd.V_mono (Kd.V_mono HO806.out (fun k_ hk => (⟨hk,hk.1.2⟩ : _ ∧ k_ ≠ gb820))) (fun k_ hk => (⟨hk,hk.1.2⟩ : _ ∧ k_ ≠ gb821))) (fun _ hk => hk.1.2) (.slice Ao124 t813.length co124)) (fun _ hk => hk.2) (.slice Ao132 t816.length co132)) (fun _ h_ => h_.1)) (fun _ h_ => h_.1))) hb);have n7_:=Aside0.mk (Kd.V_below (by (with_reducible repeat (first|apply Kd.V_alloc|apply Kd.V_drewN|apply Kd.V_drew));exact (Kd.V_mono (Kd.V_mono (Kd.V_far (p:=⟨gb821,0,none⟩) (Kd.V_far (p:=⟨gb820,0,none⟩) (Kd.V_mono (Kd.V_mono HO809.out (fun k_ hk => (⟨hk,hk.1.2⟩ : _ ∧ k_ ≠ gb820))) (fun k_ hk => (⟨hk,hk.1.2⟩ : _ ∧ k_ ≠ gb821))) (fun _ hk => hk.1.2) (.slice Ao124 t813.length co124)) (fun _ hk => hk.2) (.slice Ao132 t816.length co132)) (fun _ h_ => h_.1)) (fun _ h_ => h_.1))) hb);have n8_:=Aside0.mk (Kd.V_below (by (with_reducible repeat (first|apply Kd.V_alloc|apply Kd.V_drewN|apply Kd.V_drew));exact (Kd.V_mono (Kd.V_mono (Kd.V_far (p:=⟨gb821,0,none⟩) (Kd.V_far (p:=⟨gb820,0,none⟩) (Kd.V_mono (Kd.V_mono HO815.out (fun k_ hk => (⟨hk,hk.1.2⟩ : _ ∧ k_ ≠ gb820))) (fun k_ hk => (⟨hk,hk.1.2⟩ : _ ∧ k_ ≠ gb821))) (fun _ hk => hk.1.2) (.slice Ao124 t813.length co124)) (fun _ hk => hk.2) (.slice Ao132 t816.length co132)) (fun _ h_ => h_.1)) (fun _ h_ => h_.1))) hb);have n9_:=Aside0.mk (Kd.V_below (by (with_reducible repeat (first|apply Kd.V_alloc|apply Kd.V_drewN|apply Kd.V_drew));exact (Kd.V_mono (Kd.V_mono (Kd.V_far (p:=⟨gb821,0,none⟩) (Kd.V_far (p:=⟨gb820,0,none⟩) (Kd.V_mono (Kd.V_mono HO818.out (fun k_ hk => (⟨hk,hk.1.2⟩ : _ ∧ k_ ≠ gb820))) (fun k_ hk => (⟨hk,hk.1.2⟩ : _ ∧ k_ ≠ gb821))) (fun _ hk => hk.1.2) (.slice Ao124 t813.length co124)) (fun _ hk => hk.2) (.slice Ao132 t816.length co132)) (fun _ h_ => h_.1)) (fun _ h_ => h_.1))) hb);have n10_:=Aside0.mk (blk_below (g:=gb785) (o:=.cells #[.slice Ao75 t779.length co75] 38 (0,0)) (by (with_reducible repeat (first|refine blk_drewN ?_ _|refine blk_drew ?_|refine blk_alloc ?_ _));refine blk_far ?_ NB785_821.out _;(with_reducible repeat (first|refine blk_drewN ?_ _|refine blk_drew ?_|refine blk_alloc ?_ _));refine blk_far ?_ NB785_820.out _;(with_reducible repeat (first|refine blk_drewN ?_ _|refine blk_drew ?_|refine blk_alloc ?_ _));exact BK785.out) hb);have n11_:=Aside0.mk (blk_below (g:=gb786) (o:=.cells #[.slice Ao79 t782.length co79] 38 (0,0)) (by (with_reducible repeat (first|refine blk_drewN ?_ _|refine blk_drew ?_|refine blk_alloc ?_ _));refine blk_far ?_ NB786_821.out _;(with_reducible repeat (first|refine blk_drewN ?_ _|refine blk_drew ?_|refine blk_alloc ?_ _));refine blk_far ?_ NB786_820.out _;(with_reducible repeat (first|refine blk_drewN ?_ _|refine blk_drew ?_|refine blk_alloc ?_ _));exact BK786.out) hb);have n12_:=Aside0.mk (blk_below (g:=gb790) (o:=.cells #[.slice Ao86 t787.length co86] 38 (0,0)) (by (with_reducible repeat (first|refine blk_drewN ?_ _|refine blk_drew ?_|refine blk_alloc ?_ _));refine blk_far ?_ NB790_821.out _;(with_reducible repeat (first|refine blk_drewN ?_ _|refine blk_drew ?_|refine blk_alloc ?_ _));refine blk_far ?_ NB790_820.out _;(with_reducible repeat (first|refine blk_drewN ?_ _|refine blk_drew ?_|refine blk_alloc ?_ _));exact BK790.out) hb);have n13_:=Aside0.mk (blk_below (g:=gb811) (o:=.cells #[.slice Ao106 t804.length co106] 38 (0,0)) (by (with_reducible repeat (first|refine blk_drewN ?_ _|refine blk_drew ?_|refine blk_alloc ?_ _));refine blk_far ?_ NB811_821.out _;(with_reducible repeat (first|refine blk_drewN ?_ _|refine blk_drew ?_|refine blk_alloc ?_ _));refine blk_far ?_ NB811_820.out _;(with_reducible repeat (first|refine blk_drewN ?_ _|refine blk_drew ?_|refine blk_alloc ?_ _));exact BK811.out) hb);have n14_:=Aside0.mk (blk_below (g:=gb812) (o:=.cells #[.slice Ao113 t807.length co113] 38 (0,0)) (by (with_reducible repeat (first|refine blk_drewN ?_ _|refine blk_drew ?_|refine blk_alloc ?_ _));refine blk_far ?_ NB812_821.out _;(with_reducible repeat (first|refine blk_drewN ?_ _|refine blk_drew ?_|refine blk_alloc ?_ _));refine blk_far ?_ NB812_820.out _;(with_reducible repeat (first|refine blk_drewN ?_ _|refine blk_drew ?_|refine blk_alloc ?_ _));exact BK812.out) hb);have n15_:=Aside0.mk (blk_below (g:=gb820) (o:=.cells #[.slice Ao124 t813.length co124] 38 (0,0)) (by (with_reducible repeat (first|refine blk_drewN ?_ _|refine blk_drew ?_|refine blk_alloc ?_ _));refine blk_far ?_ NB820_821.out _;(with_reducible repeat (first|refine blk_drewN ?_ _|refine blk_drew ?_|refine blk_alloc ?_ _));refine blk_put (cs:=#[.slice none 0 0]) ?_ 0 _ rfl;(with_reducible repeat (first|refine blk_drewN ?_ _|refine blk_drew ?_|refine blk_alloc ?_ _));exact BK820.out) hb);have n16_:=Aside0.mk (blk_below (g:=gb821) (o:=.cells #[.slice Ao132 t816.length co132] 38 (0,0)) (by (with_reducible repeat (first|refine blk_drewN ?_ _|refine blk_drew ?_|refine blk_alloc ?_ _));refine blk_put (cs:=#[.slice none 0 0]) ?_ 0 _ rfl;(with_reducible repeat (first|refine blk_drewN ?_ _|refine blk_drew ?_|refine blk_alloc ?_ _));refine blk_far ?_ NB821_820.out _;(with_reducible repeat (first|refine blk_drewN ?_ _|refine blk_drew ?_|refine blk_alloc ?_ _));exact BK821.out) hb);have n17_:=Aside0.mk (below_step (by repeat (first|(with_reducible first|exact HB.out|apply below_alloc|apply pw_below_drewN|apply below_drew1|refine below_set ?_ GE785.out|refine below_set ?_ GE786.out|refine below_set ?_ GE790.out|refine below_set ?_ GE811.out|refine below_set ?_ GE812.out|refine below_set ?_ GE820.out|refine below_set ?_ GE821.out)|exact HB.out)) hb);clear HO781;clear HO784;clear HO789;clear HO793;clear HO796;clear HO799;clear HO806;clear HO809;clear HO815;clear HO818;clear BK785;clear BK786;clear BK790;clear BK811;clear BK812;clear BK820;clear BK821;clear HB;have HO781:=n0_;have HO784:=n1_;have HO789:=n2_;have HO793:=n3_;have HO796:=n4_;have HO799:=n5_;have HO806:=n6_;have HO809:=n7_;have HO815:=n8_;have HO818:=n9_;have BK785:=n10_;have BK786:=n11_;have BK790:=n12_;have BK811:=n13_;have BK812:=n14_;have BK820:=n15_;have BK821:=n16_;have HB:=n17_;clear n0_ n1_ n2_ n3_ n4_ n5_ n6_ n7_ n8_ n9_ n10_ n11_ n12_ n13_ n14_ n15_ n16_ n17_;(try clear hb);(try clear hb2);(try clear hk);(try clear hi);have hcz141_0 : w140.cell? ⟨gb821,0,none⟩ = some (.slice Ao132 t816.length co132):=(blk_cell BK821.out 0).trans rfl;have hfz141_0:=blk_frozen BK821.out 0)|(go_at_call 44;(with_reducible refine (nat_Nat_Zero.calls _ _ t816 t823 _ ?side1 ?side2 A66.out).mono ?_);(case side1 => repeat (first|exact (Kd.V_reads' HO818.out).2.2|(with_reducible refine Kd.C_alloc ?_ _)|(with_reducible refine Kd.C_drewN ?_ _)|(with_reducible refine Kd.C_drew ?_)));(case side2 => exact (Kd.V_reads' HO818.out).2.1);rintro e w142 ⟨rfl,hb⟩;have n0_:=Aside0.mk (Kd.V_below (by (with_reducible repeat (first|apply Kd.V_alloc|apply Kd.V_drewN|apply Kd.V_drew));exact HO781.out) hb);have n1_:=Aside0.mk (Kd.V_below (by (with_reducible repeat (first|apply Kd.V_alloc|apply Kd.V_drewN|apply Kd.V_drew));exact HO784.out) hb);have n2_:=Aside0.mk (Kd.V_below (by (with_reducible repeat (first|apply Kd.V_alloc|apply Kd.V_drewN|apply Kd.V_drew));exact HO789.out) hb);have n3_:=Aside0.mk (Kd.V_below (by (with_reducible repeat (first|apply Kd.V_alloc|apply Kd.V_drewN|apply Kd.V_drew));exact HO793.out) hb);have n4_:=Aside0.mk (Kd.V_below (by (with_reducible repeat (first|apply Kd.V_alloc|apply Kd.V_drewN|apply Kd.V_drew));exact HO796.out) hb);have n5_:=Aside0.mk (Kd.V_below (by (with_reducible repeat (first|apply Kd.V_alloc|apply Kd.V_drewN|apply Kd.V_drew));exact HO799.out) hb);have n6_:=Aside0.mk (Kd.V_below (by (with_reducible repeat (first|apply Kd.V_alloc|apply Kd.V_drewN|apply Kd.V_drew));exact HO806.out) hb);have n7_:=Aside0.mk (Kd.V_below (by (with_reducible repeat (first|apply Kd.V_alloc|apply Kd.V_drewN|apply Kd.V_drew));exact HO809.out) hb);have n8_:=Aside0.mk (Kd.V_below (by (with_reducible repeat (first|apply Kd.V_alloc|apply Kd.V_drewN|apply Kd.V_drew));exact HO815.out) hb);have n9_:=Aside0.mk (Kd.V_below (by (with_reducible repeat (first|apply Kd.V_alloc|apply Kd.V_drewN|apply Kd.V_drew));exact HO818.out) hb);have n10_:=Aside0.mk (blk_below (g:=gb785) (o:=.cells #[.slice Ao75 t779.length co75] 38 (0,0)) (by (with_reducible repeat (first|refine blk_drewN ?_ _|refine blk_drew ?_|refine blk_alloc ?_ _));exact BK785.out) hb);have n11_:=Aside0.mk (blk_below (g:=gb786) (o:=.cells #[.slice Ao79 t782.length co79] 38 (0,0)) (by (with_reducible repeat (first|refine blk_drewN ?_ _|refine blk_drew ?_|refine blk_alloc ?_ _));exact BK786.out) hb);have n12_:=Aside0.mk (blk_below (g:=gb790) (o:=.cells #[.slice Ao86 t787.length co86] 38 (0,0)) (by (with_reducible repeat (first|refine blk_drewN ?_ _|refine blk_drew ?_|refine blk_alloc ?_ _));exact BK790.out) hb);have n13_:=Aside0.mk (blk_below (g:=gb811) (o:=.cells #[.slice Ao106 t804.length co106] 38 (0,0)) (by (with_reducible repeat (first|refine blk_drewN ?_ _|refine blk_drew ?_|refine blk_alloc ?_ _));exact BK811.out) hb);have n14_:=Aside0.mk (blk_below (g:=gb812) (o:=.cells #[.slice Ao113 t807.length co113] 38 (0,0)) (by (with_reducible repeat (first|refine blk_drewN ?_ _|refine blk_drew ?_|refine blk_alloc ?_ _));exact BK812.out) hb);have n15_:=Aside0.mk (blk_below (g:=gb820) (o:=.cells #[.slice Ao124 t813.length co124] 38 (0,0)) (by (with_reducible repeat (first|refine blk_drewN ?_ _|refine blk_drew ?_|refine blk_alloc ?_ _));exact BK820.out) hb);have n16_:=Aside0.mk (blk_below (g:=gb821) (o:=.cells #[.slice Ao132 t816.length co132] 38 (0,0)) (by (with_reducible repeat (first|refine blk_drewN ?_ _|refine blk_drew ?_|refine blk_alloc ?_ _));exact BK821.out) hb);have n17_:=Aside0.mk (below_step (by repeat (first|(with_reducible first|exact HB.out|apply below_alloc|apply pw_below_drewN|apply below_drew1|refine below_set ?_ GE785.out|refine below_set ?_ GE786.out|refine below_set ?_ GE790.out|refine below_set ?_ GE811.out|refine below_set ?_ GE812.out|refine below_set ?_ GE820.out|refine below_set ?_ GE821.out)|exact HB.out)) hb);clear HO781;clear HO784;clear HO789;clear HO793;clear HO796;clear HO799;clear HO806;clear HO809;clear HO815;clear HO818;clear BK785;clear BK786;clear BK790;clear BK811;clear BK812;clear BK820;clear BK821;clear HB;have HO781:=n0_;have HO784:=n1_;have HO789:=n2_;have HO793:=n3_;have HO796:=n4_;have HO799:=n5_;have HO806:=n6_;have HO809:=n7_;have HO815:=n8_;have HO818:=n9_;have BK785:=n10_;have BK786:=n11_;have BK790:=n12_;have BK811:=n13_;have BK812:=n14_;have BK820:=n15_;have BK821:=n16_;have HB:=n17_;clear n0_ n1_ n2_ n3_ n4_ n5_ n6_ n7_ n8_ n9_ n10_ n11_ n12_ n13_ n14_ n15_ n16_ n17_;(try clear hb);(try clear hb2);(try clear hk);(try clear hi)))
         (first|go_ret|(refine ⟨_,results_tmp rfl _ _ _,?_⟩))
         exact ⟨by first|rfl|(simp [errW_none,errW_some] <;> rfl)|(simp only [← hji5,← hji8];first|rfl|(simp [errW_none,errW_some] <;> rfl))|(simp [*,errW_none,errW_some] <;> rfl),by repeat (first|(with_reducible first|exact HB.out|apply below_alloc|apply pw_below_drewN|apply below_drew1|refine below_set ?_ GE785.out|refine below_set ?_ GE786.out|refine below_set ?_ GE790.out|refine below_set ?_ GE811.out|refine below_set ?_ GE812.out|refine below_set ?_ GE820.out|refine below_set ?_ GE821.out)|exact HB.out)⟩
        ·replace c65:=Bool.eq_false_iff.mpr c65
         subst c65
         have H1 : (none) = some r:=by rw [if_neg (show ¬ (false = true) by decide)] at H;exact H
         clear H
         have H:=H1
         clear H1
         exact absurd H (by simp)
      ·replace c18:=Bool.eq_false_iff.mpr c18
       subst c18
       have H1 : (none) = some r:=by rw [if_neg (show ¬ (false = true) by decide)] at H;exact H
       clear H
       have H:=H1
       clear H1
       exact absurd H (by simp)
     ·rw [if_neg c10] at H
      exact absurd H (by simp)
    ·rw [if_neg c9] at H
     exact absurd H (by simp)
   ·rw [if_neg c7] at H
    exact absurd H (by simp)
  ·rw [if_neg c6] at H
   exact absurd H (by simp)
 ·replace c4:=Bool.eq_false_iff.mpr c4
  subst c4
  have H1 : (none) = some r:=by rw [if_neg (show ¬ (false = true) by decide)] at H;exact H
  clear H
  have H:=H1
  clear H1
  exact absurd H (by simp)
def sacristylaw01_NatGcds.Pure : Prop:=∀ (l0 : List Int) (l1 : List Int),l0.length ≤ maxLen → l0.length * 1 ≤ 140737488351232 → (∀ x ∈ l0,(Lit.int .u8 x).wf = true) → l1.length ≤ maxLen → l1.length * 1 ≤ 140737488351232 → (∀ x ∈ l1,(Lit.int .u8 x).wf = true) → ∃ k,sacristylaw01_NatGcds.f k l0 l1 = some true
theorem sacristylaw01_NatGcds.walk (P : sacristylaw01_NatGcds.Pure) (a0 : Option Addr) (len0 cap0 : Nat) (z0 : List Int) (a1 : Option Addr) (len1 cap1 : Nat) (z1 : List Int) (w : World) (w0 : (a0 = none ∧ len0 = 0 ∧ cap0 = 0 ∧ z0 = []) ∨ ∃ x,a0 = some x ∧ len0 ≤ cap0 ∧ cap0 ≤ maxLen ∧ z0.length = cap0 ∧ (∀ i,i < z0.length → w.cell? (x.add i) = some (.int .u8 (z0.getD i 0))) ∧ ∀ n ∈ z0,(Lit.int .u8 n).wf = true) (y0 : len0 * 1 ≤ 140737488351232) (w1 : (a1 = none ∧ len1 = 0 ∧ cap1 = 0 ∧ z1 = []) ∨ ∃ x,a1 = some x ∧ len1 ≤ cap1 ∧ cap1 ≤ maxLen ∧ z1.length = cap1 ∧ (∀ i,i < z1.length → w.cell? (x.add i) = some (.int .u8 (z1.getD i 0))) ∧ ∀ n ∈ z1,(Lit.int .u8 n).wf = true) (y1 : len1 * 1 ≤ 140737488351232) :
  Calls Try.prog 10 #[.slice a0 len0 cap0,.slice a1 len1 cap1] w fun e w' => e = .returned (.bool true) ∧ Below w.heap.size w w':=by
 obtain ⟨l0,rfl,hr0,hm0,hw0,hc0⟩:=ReadsInt.ofRowC w0
 obtain ⟨l1,rfl,hr1,hm1,hw1,hc1⟩:=ReadsInt.ofRowC w1
 obtain ⟨k,h⟩:=P l0 l1 hm0 y0 hw0 hm1 y1 hw1
 refine (sacristylaw01_NatGcds.calls k _ _ l0 _ _ l1 true w (Kd.C_of_reads (d:=(0 : Int)) (h1:=fun _ => rfl) hr0) hc0 (Kd.C_of_reads (d:=(0 : Int)) (h1:=fun _ => rfl) hr1) hc1 h).mono ?_
 rintro e w' ⟨rfl,hd⟩
 exact ⟨rfl,hd⟩
end Go.Proofs.Yteejcpbngnojkaa.P
end
section
namespace Go.Proofs.Yteejcpbngnojkaa.P
open Go.RowKit Go.Proofs.YteejcpbngnojkaaW.PrintWords Go.Proofs.YteejcpbngnojkaaW.PrintLast Go.Proofs.YteejcpbngnojkaaW.PrintMore
attribute [local go_sem] max2_int min2_int max_two min_two max_three min_three max_four min_four
set_option linter.unusedVariables false
set_option linter.unusedSimpArgs false
mutual
def sacristyref01_Add.l0 : Nat → List Bool → List Bool → List Bool → Int → Int → Option (List Bool)
 |0,_,_,_,_,_ => none
 |k + 1,x0,x1,x5,x6,x7 => if x7 < (x0.length : Int) then (sacristyref01_Add.j1 k x0 x1 x5 x6 x7 true) else (if x7 < (x1.length : Int) then (sacristyref01_Add.j1 k x0 x1 x5 x6 x7 true) else (sacristyref01_Add.j1 k x0 x1 x5 x6 x7 (decide (x6 > 0))))
def sacristyref01_Add.j1 : Nat → List Bool → List Bool → List Bool → Int → Int → Bool → Option (List Bool)
 |0,_,_,_,_,_,_ => none
 |k + 1,x0,x1,x5,x6,x7,x23 => if x23 = true then ((sacristyref01_at.f x0 x7).bind fun t853 => ((sacristyref01_at.f x1 x7).bind fun t854 => (if x5.length < 140737488355328 then (sacristyref01_Add.l0 k x0 x1 (x5 ++ [((Int.tmod (wrap64 ((wrap64 (t853 + t854)) + x6)) 2) == 1)]) (wrap64 (Int.tdiv (wrap64 ((wrap64 (t853 + t854)) + x6)) 2)) (wrap64 (x7 + 1))) else (none)))) else ((sacristyref01_Trim.f k x5).bind fun t858 => (some t858))
end
def sacristyref01_Add.f (k : Nat) (l0 : List Bool) (l1 : List Bool) : Option (List Bool):=sacristyref01_Add.l0 k l0 l1 (([] : List Bool)) 0 0
theorem sacristyref01_Add.mono_l : ∀ k,(∀ y0 y1 y2 y3 y4,LeO (sacristyref01_Add.l0 k y0 y1 y2 y3 y4) (sacristyref01_Add.l0 (k + 1) y0 y1 y2 y3 y4)) ∧ (∀ y0 y1 y2 y3 y4 y5,LeO (sacristyref01_Add.j1 k y0 y1 y2 y3 y4 y5) (sacristyref01_Add.j1 (k + 1) y0 y1 y2 y3 y4 y5))
 |0 => ⟨fun _ _ _ _ _ r h => by simp [sacristyref01_Add.l0] at h,fun _ _ _ _ _ _ r h => by simp [sacristyref01_Add.j1] at h⟩
 |k + 1 => by
  obtain ⟨ih0,ih1⟩:=sacristyref01_Add.mono_l k
  refine ⟨?_,?_⟩
  ·intro y0 y1 y2 y3 y4
   unfold sacristyref01_Add.l0
   repeat' first
   |(with_reducible exact ih0 _ _ _ _ _)
   |(with_reducible exact ih1 _ _ _ _ _ _)
   |(with_reducible exact sacristyref01_Trim.mono _ _)
   |(with_reducible exact LeO.refl _)
   |(with_reducible exact LeO.none _)
   |(with_reducible refine LeO.ite ?_ ?_)
   |(with_reducible refine LeO.bind ?_ (fun _ => ?_))
   |exact ih0 _ _ _ _ _
   |exact ih1 _ _ _ _ _ _
   |exact sacristyref01_Trim.mono _ _
   |exact LeO.none _
   |refine LeO.ite ?_ ?_
   |refine LeO.bind ?_ (fun _ => ?_)
  ·intro y0 y1 y2 y3 y4 y5
   unfold sacristyref01_Add.j1
   repeat' first
   |(with_reducible exact ih0 _ _ _ _ _)
   |(with_reducible exact ih1 _ _ _ _ _ _)
   |(with_reducible exact sacristyref01_Trim.mono _ _)
   |(with_reducible exact LeO.refl _)
   |(with_reducible exact LeO.none _)
   |(with_reducible refine LeO.ite ?_ ?_)
   |(with_reducible refine LeO.bind ?_ (fun _ => ?_))
   |exact ih0 _ _ _ _ _
   |exact ih1 _ _ _ _ _ _
   |exact sacristyref01_Trim.mono _ _
   |exact LeO.none _
   |refine LeO.ite ?_ ?_
   |refine LeO.bind ?_ (fun _ => ?_)
theorem sacristyref01_Add.mono : ∀ a0 a1 k,LeO (sacristyref01_Add.f k a0 a1) (sacristyref01_Add.f (k + 1) a0 a1):=by
 intro a0 a1 k
 obtain ⟨ih0,ih1⟩:=sacristyref01_Add.mono_l k
 unfold sacristyref01_Add.f
 repeat' first
   |(with_reducible exact ih0 _ _ _ _ _)
   |(with_reducible exact ih1 _ _ _ _ _ _)
   |(with_reducible exact sacristyref01_Trim.mono _ _)
   |(with_reducible exact LeO.refl _)
   |(with_reducible exact LeO.none _)
   |(with_reducible refine LeO.ite ?_ ?_)
   |(with_reducible refine LeO.bind ?_ (fun _ => ?_))
   |exact ih0 _ _ _ _ _
   |exact ih1 _ _ _ _ _ _
   |exact sacristyref01_Trim.mono _ _
   |exact LeO.none _
   |refine LeO.ite ?_ ?_
   |refine LeO.bind ?_ (fun _ => ?_)
end Go.Proofs.Yteejcpbngnojkaa.P
end
section
namespace Go.Proofs.Yteejcpbngnojkaa.P
open Go.RowKit Go.Proofs.YteejcpbngnojkaaW.PrintWords Go.Proofs.YteejcpbngnojkaaW.PrintLast Go.Proofs.YteejcpbngnojkaaW.PrintMore
attribute [local go_sem] max2_int min2_int max_two min_two max_three min_three max_four min_four
set_option linter.unusedVariables false
set_option linter.unusedSimpArgs false
def sacristyref01_Shift.f (l0 : List Bool) (a1 : Int) : Option (List Bool):=if (l0.length : Int) = 0 then (some (([] : List Bool))) else (if 0 ≤ a1 then (if (a1 : Int).toNat ≤ 281474976710656 then ((some (List.replicate (a1 : Int).toNat false : List Bool)).bind fun y864 => (if y864.length + l0.length < 140737488355328 then (some (y864 ++ l0)) else (none))) else (none)) else (none))
end Go.Proofs.Yteejcpbngnojkaa.P
end
section
namespace Go.Proofs.Yteejcpbngnojkaa.P
open Go.RowKit Go.Proofs.YteejcpbngnojkaaW.PrintWords Go.Proofs.YteejcpbngnojkaaW.PrintLast Go.Proofs.YteejcpbngnojkaaW.PrintMore
attribute [local go_sem] max2_int min2_int max_two min_two max_three min_three max_four min_four
set_option linter.unusedVariables false
set_option linter.unusedSimpArgs false
def sacristyref01_Mul.l0 : Nat → List Bool → List Bool → List Bool → Int → Int → Option (List Bool)
 |0,_,_,_,_,_ => none
 |k + 1,x0,x5,x9,x10,x11 => if x11 < x10 then (if 0 ≤ x11 then (if x11 < (x9.length : Int) then (if rdOf false x9 x11 = true then ((sacristyref01_Shift.f x0 x11).bind fun t874 => ((sacristyref01_Add.f k x5 t874).bind fun t877 => (sacristyref01_Mul.l0 k x0 t877 x9 x10 (wrap64 (x11 + 1))))) else (sacristyref01_Mul.l0 k x0 x5 x9 x10 (wrap64 (x11 + 1)))) else (none)) else (none)) else (some x5)
def sacristyref01_Mul.f (k : Nat) (l0 : List Bool) (l1 : List Bool) : Option (List Bool):=sacristyref01_Mul.l0 k l0 (([] : List Bool)) l1 (l1.length : Int) 0
theorem sacristyref01_Mul.mono_l : ∀ k,(∀ y0 y1 y2 y3 y4,LeO (sacristyref01_Mul.l0 k y0 y1 y2 y3 y4) (sacristyref01_Mul.l0 (k + 1) y0 y1 y2 y3 y4))
 |0 => fun _ _ _ _ _ r h => by simp [sacristyref01_Mul.l0] at h
 |k + 1 => by
  have ih0:=sacristyref01_Mul.mono_l k
  ·intro y0 y1 y2 y3 y4
   unfold sacristyref01_Mul.l0
   repeat' first
   |(with_reducible exact ih0 _ _ _ _ _)
   |(with_reducible exact sacristyref01_Add.mono _ _ _)
   |(with_reducible exact LeO.refl _)
   |(with_reducible exact LeO.none _)
   |(with_reducible refine LeO.ite ?_ ?_)
   |(with_reducible refine LeO.bind ?_ (fun _ => ?_))
   |exact ih0 _ _ _ _ _
   |exact sacristyref01_Add.mono _ _ _
   |exact LeO.none _
   |refine LeO.ite ?_ ?_
   |refine LeO.bind ?_ (fun _ => ?_)
theorem sacristyref01_Mul.mono : ∀ a0 a1 k,LeO (sacristyref01_Mul.f k a0 a1) (sacristyref01_Mul.f (k + 1) a0 a1):=by
 intro a0 a1 k
 have ih0:=sacristyref01_Mul.mono_l k
 unfold sacristyref01_Mul.f
 repeat' first
   |(with_reducible exact ih0 _ _ _ _ _)
   |(with_reducible exact sacristyref01_Add.mono _ _ _)
   |(with_reducible exact LeO.refl _)
   |(with_reducible exact LeO.none _)
   |(with_reducible refine LeO.ite ?_ ?_)
   |(with_reducible refine LeO.bind ?_ (fun _ => ?_))
   |exact ih0 _ _ _ _ _
   |exact sacristyref01_Add.mono _ _ _
   |exact LeO.none _
   |refine LeO.ite ?_ ?_
   |refine LeO.bind ?_ (fun _ => ?_)
end Go.Proofs.Yteejcpbngnojkaa.P
end
