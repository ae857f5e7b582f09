/- Part of the proof: the walks and the plain arithmetic, in line (wip/tools/pack.py). -/
import Derived.Test.YteejcpbngnojkaaXLawNatBack3
import Derived.Lib.Bytes
import Derived.Lib.EndianBits
import Derived.Test.YteejcpbngnojkaaRows
import Derived.WalkKit
import Derived.ProofKit
import Derived.SizedLaws
import Derived.ChangeSlices
section
namespace Go.Proofs.Yteejcpbngnojkaa.P
open Go.RowKit Go.Proofs.YteejcpbngnojkaaW.PrintWords Go.Proofs.YteejcpbngnojkaaW.PrintLast Go.Proofs.YteejcpbngnojkaaW.PrintMore
attribute [local go_sem] max2_int min2_int max_two min_two max_three min_three max_four min_four
set_option linter.unusedVariables false
set_option linter.unusedSimpArgs false
def sacristylaw01_NatBack.f (k : Nat) (l0 : List Int) (l1 : List Int) : Option (Bool):=(sacristylaw01_lives.f k).bind fun t924 => (if t924 = true then ((sacristylaw01_Num.f k l0).bind fun t925 => ((sacristylaw01_Num.f k l1).bind fun t928 => ((nat_Nat_Div.f k t925 t928).bind fun bt933 => ((nat_Nat_Zero.f t928).bind fun t942 => (if t942 = true then (some (bt933.2.2 == 5)) else ((nat_Nat_Mul.f k t925 t928).bind fun t943 => ((nat_Nat_Div.f k t943 t928).bind fun bt946 => (if bt933.2.2 = 0 then (if bt946.2.2 = 0 then ((nat_Nat_Mul.f k bt933.1 t928).bind fun t955 => ((nat_Nat_Add.f k t955 bt933.2.1).bind fun t958 => ((nat_Nat_Cmp.f k t958 t925).bind fun t961 => (if t961 = 0 then ((nat_Nat_Cmp.f k bt933.2.1 t928).bind fun t962 => (if t962 < 0 then ((nat_Nat_Cmp.f k bt946.1 t925).bind fun t963 => (if t963 = 0 then ((nat_Nat_Zero.f bt946.2.1).bind fun t964 => (some t964)) else (none))) else (none))) else (none))))) else (none)) else (none))))))))) else (none))
theorem sacristylaw01_NatBack.mono : ∀ a0 a1 k,LeO (sacristylaw01_NatBack.f k a0 a1) (sacristylaw01_NatBack.f (k + 1) a0 a1):=by
 intro a0 a1 k
 unfold sacristylaw01_NatBack.f
 repeat' first
   |(with_reducible exact nat_Nat_Add.mono _ _ _)
   |(with_reducible exact nat_Nat_Cmp.mono _ _ _)
   |(with_reducible exact nat_Nat_Div.mono _ _ _)
   |(with_reducible exact nat_Nat_Mul.mono _ _ _)
   |(with_reducible exact sacristylaw01_Num.mono _ _)
   |(with_reducible exact sacristylaw01_lives.mono _)
   |(with_reducible exact LeO.refl _)
   |(with_reducible exact LeO.none _)
   |(with_reducible refine LeO.ite ?_ ?_)
   |(with_reducible refine LeO.bind ?_ (fun _ => ?_))
   |exact nat_Nat_Add.mono _ _ _
   |exact nat_Nat_Cmp.mono _ _ _
   |exact nat_Nat_Div.mono _ _ _
   |exact nat_Nat_Mul.mono _ _ _
   |exact sacristylaw01_Num.mono _ _
   |exact sacristylaw01_lives.mono _
   |exact LeO.none _
   |refine LeO.ite ?_ ?_
   |refine LeO.bind ?_ (fun _ => ?_)
def sacristylaw01_NatBack.T7 : Bool × List (List Nat × List Nat):=(true,[([],[]),([],[]),([0,1],[0,1]),([],[]),([2,3,2],[2,3]),([4],[4]),([5],[5]),([5],[5]),([5],[5]),([],[]),([],[]),([9,6,4,0,1,2,3,4,5,6,9,10],[6,9]),([10,7,11,0,1,2,3,4,5,6,7,9,10,11],[7,10]),([8,12,0,1,2,3,4,5,6,7,8,9,10,11,12],[8])])
def sacristylaw01_NatBack.B7 : List Nat:=[0,0,3,0,15,31,63,63,63,0,0,1663,3839,8191]
theorem sacristylaw01_NatBack.tab7 : rtab .any (opsOf Try.f14 7) = sacristylaw01_NatBack.T7:=by kernel_rfl
theorem sacristylaw01_NatBack.bits7 : waitsOk sacristylaw01_NatBack.T7.2 sacristylaw01_NatBack.B7 = true:=by kernel_rfl
def sacristylaw01_NatBack.T8 : Bool × List (List Nat × List Nat):=(true,[([],[]),([0],[0]),([1],[1]),([2],[2]),([3,2],[2,3]),([2,4],[2,4]),([5,2],[5]),([6],[6]),([6],[6]),([7,8,6,6],[6,7,8]),([6],[6]),([9,10,9,6],[6,9,10]),([6],[6]),([11,12,11,6],[6,11,12]),([13,6],[6,13]),([6,14],[6,14]),([15,13],[15]),([16],[16]),([16],[16]),([17,18,16,16],[16,17,18]),([19,16],[16,19]),([16,20],[16,20]),([21,19],[21]),([22],[22]),([22],[22]),([23,24,22,22],[22,23,24]),([25,22],[22,25]),([22,26],[22,26]),([27,25],[27]),([28],[28]),([29,28,28],[28,29]),([28,30],[28,30]),([31,30,0,1,2,3,4,5,6,7,8,9,10,11,12,13,14,15,16,17,18,19,20,21,22,23,24,25,26,27,28,29,30,31],[31])])
def sacristylaw01_NatBack.B8 : List Nat:=[0,1,3,7,15,31,63,127,127,511,127,2047,127,8191,16383,32767,65535,131071,131071,524287,1048575,2097151,4194303,8388607,8388607,33554431,67108863,134217727,268435455,536870911,1073741823,2147483647,4294967295]
theorem sacristylaw01_NatBack.tab8 : rtab .any (opsOf Try.f14 8) = sacristylaw01_NatBack.T8:=by kernel_rfl
theorem sacristylaw01_NatBack.bits8 : waitsOk sacristylaw01_NatBack.T8.2 sacristylaw01_NatBack.B8 = true:=by kernel_rfl
set_option maxHeartbeats 8000000 in
set_option maxRecDepth 100000 in
theorem sacristylaw01_NatBack.calls (k : Nat) (A0 : Option Addr) (c0 : Nat) (l0 : List Int) (A1 : Option Addr) (c1 : Nat) (l1 : List Int) (r : Bool) (w : World) (hr0 : Kd.C (Kd.int .u8) w A0 l0.length l0) (hc0 : l0.length ≤ c0) (hr1 : Kd.C (Kd.int .u8) w A1 l1.length l1) (hc1 : l1.length ≤ c1) (h : sacristylaw01_NatBack.f k l0 l1 = some r) :
  Calls Try.prog 14 #[.slice A0 l0.length c0,.slice A1 l1.length c1] w fun e w' => e = .returned (.bool r) ∧ Below w.heap.size w w':=by
 have hu38:=Try.underlying38
 have HR0:=Aside0.mk hr0
 have HC0:=Aside0.mk hc0
 clear hr0 hc0
 have HR1:=Aside0.mk hr1
 have HC1:=Aside0.mk hc1
 clear hr1 hc1
 have HB:=Aside0.mk (Below.refl w.heap.size w)
 have H : ((sacristylaw01_lives.f k).bind fun t924 => (if t924 = true then ((sacristylaw01_Num.f k l0).bind fun t925 => ((sacristylaw01_Num.f k l1).bind fun t928 => ((nat_Nat_Div.f k t925 t928).bind fun bt933 => ((nat_Nat_Zero.f t928).bind fun t942 => (if t942 = true then (some (bt933.2.2 == 5)) else ((nat_Nat_Mul.f k t925 t928).bind fun t943 => ((nat_Nat_Div.f k t943 t928).bind fun bt946 => (if bt933.2.2 = 0 then (if bt946.2.2 = 0 then ((nat_Nat_Mul.f k bt933.1 t928).bind fun t955 => ((nat_Nat_Add.f k t955 bt933.2.1).bind fun t958 => ((nat_Nat_Cmp.f k t958 t925).bind fun t961 => (if t961 = 0 then ((nat_Nat_Cmp.f k bt933.2.1 t928).bind fun t962 => (if t962 < 0 then ((nat_Nat_Cmp.f k bt946.1 t925).bind fun t963 => (if t963 = 0 then ((nat_Nat_Zero.f bt946.2.1).bind fun t964 => (some t964)) else (none))) else (none))) else (none))))) else (none)) else (none))))))))) else (none))) = some r:=h
 clear h
 obtain ⟨t924,A3,H⟩:=qH H
 by_cases c4 : t924 = true
 ·subst c4
  rw [if_pos rfl] at H
  obtain ⟨t925,A5,H⟩:=qH H
  obtain ⟨t928,A6,H⟩:=qH H
  obtain ⟨⟨t933,t936,t939⟩,A7,H⟩:=qH H
  dsimp only at H
  obtain ⟨t942,A8,H⟩:=qH H
  by_cases c9 : t942 = true
  ·subst c9
   rw [if_pos rfl] at H
   obtain rfl:=Option.some.inj H
   go_enter Try.func14,Try.ntmps14
   go_wp2_with (first|((with_reducible refine gate_callee (f:=34) rfl ?_);refine gL (some 13) Try.func34 #[] ?_;(with_reducible refine (sacristylaw01_lives.calls k  true _ A3.out).mono ?_);rintro e w10 ⟨rfl,hb⟩;refine ⟨_,rfl,?_⟩;replace HB:=qs HB hb;clear hb)|((with_reducible refine gate_callee (f:=40) rfl ?_);refine gL (some 16) Try.func40 #[.slice A0 l0.length c0] ?_;(with_reducible refine (sacristylaw01_Num.calls k _ _ l0 t925 _ ?side1 ?side2 A5.out).mono ?_);(case side1 => exact qCB HR0 HB);(case side2 => exact HC0.out);rintro e w11 ⟨v926,rfl,ho0,hb⟩;refine ⟨_,rfl,?_⟩;have HO927:=Aside0.mk (Kd.V_lower (Kd.V_mono (ok':=fun k_ => True) ho0 (fun k_ hk_ => trivial)) (below_size (qS HB)));replace HB:=qs HB hb;clear hb ho0)|((with_reducible refine gate_callee (f:=40) rfl ?_);refine gL (some 18) Try.func40 #[.slice A1 l1.length c1] ?_;(with_reducible refine (sacristylaw01_Num.calls k _ _ l1 t928 _ ?side1 ?side2 A6.out).mono ?_);(case side1 => exact qCB HR1 HB);(case side2 => exact HC1.out);rintro e w12 ⟨v929,rfl,ho0,hb⟩;refine ⟨_,rfl,?_⟩;replace HO927:=qVb HO927 hb;have HO930:=Aside0.mk (Kd.V_lower (Kd.V_mono (ok':=fun k_ => True) ho0 (fun k_ hk_ => trivial)) (below_size (qS HB)));replace HB:=qs HB hb;clear hb ho0)|((with_reducible refine gate_dst (N:=5) rfl ?_);refine qX #[.slice none 0 0] 38 ?_;intro gb931 hg w13 hbox hb;replace HO927:=qVe HO927 hb hg;replace HO930:=qVe HO930 hb hg;have BK931:=Aside0.mk hbox;have GE931:=qh hg HB;replace HB:=qs HB hb;clear hb hbox hg)|((with_reducible refine gate_dst (N:=6) rfl ?_);refine qX #[.slice none 0 0] 38 ?_;intro gb932 hg w14 hbox hb;replace HO927:=qVe HO927 hb hg;replace HO930:=qVe HO930 hb hg;have BK932:=Aside0.mk hbox;have GE932:=qh hg HB;replace HB:=qs HB hb;have NB931_932:=ql hg BK931;have NB932_931:=qg hg BK931;replace BK931:=qb BK931 hb;clear hb hbox hg;obtain ⟨Ao15,co15,eo15⟩:=Kd.V_slice HO927.out;subst eo15;have hnb16:=NB931_932.out;have hnc16:=NB932_931.out;have hcz17_0:=bc BK931;have hfz17_0:=bz BK931)|((with_reducible refine gate_store (t:=38) (p:=5) rfl ?_);refine qSt (w14.setCell ⟨gb931,0,none⟩ (.slice Ao15 t925.length co15)) ?_;intro w18 hw;replace HO927:=qVh hw HO927;replace HO930:=qVh hw HO930;replace BK931:=qBp hw BK931;replace BK932:=qBh hw BK932;replace HB:=qSh hw HB;(try clear hw);obtain ⟨Ao19,co19,eo19⟩:=Kd.V_slice HO930.out;subst eo19;have hcz20_0:=bc BK932;have hfz20_0:=bz BK932)|((with_reducible refine gate_store (t:=38) (p:=6) rfl ?_);refine qSt (w18.setCell ⟨gb932,0,none⟩ (.slice Ao19 t928.length co19)) ?_;intro w21 hw;replace HO927:=qVh hw HO927;replace HO930:=qVh hw HO930;replace BK931:=qBh hw BK931;replace BK932:=qBp hw BK932;replace HB:=qSh hw HB;(try clear hw);have hcz22_0:=bc BK931;have hfz22_0:=bz BK931;have hcz23_0:=bc BK932;have hfz23_0:=bz BK932)|((with_reducible refine gate_callee (f:=53) rfl ?_);refine gL (some 22) Try.func53 #[.agg #[.slice Ao15 t925.length co15],.agg #[.slice Ao19 t928.length co19]] ?_;(with_reducible refine (nat_Nat_Div.calls k (fun k_ => (k_ ≠ gb931 ∧ k_ ≠ gb932)) _ _ t925 _ _ t928 t933 t936 t939 _ ?side1 ?side2 ?side3 A7.out).mono ?_);(case side1 => first|exact HO927.out|exact qVm HO927);(case side2 => exact qCV HO930);(case side3 => exact qL HO930);rintro e w24 ⟨v934,v937,rfl,ho0,ho1,hb⟩;refine ⟨_,rfl,?_⟩;replace HO927:=qVb HO927 hb;replace HO930:=qVb HO930 hb;have HO935:=Aside0.mk (Kd.V_lower (Kd.V_mono (ok':=fun k_ => k_ ≠ gb931 ∧ k_ ≠ gb932) ho0 (fun k_ hk_ => ⟨Or.elim hk_ (fun hs_ => hs_.1) (fun hn_ => (Kd.freshB (qB BK931.out) k_ hn_)),Or.elim hk_ (fun hs_ => hs_.2) (fun hn_ => (Kd.freshB (qB BK932.out) k_ hn_))⟩)) (below_size (qS HB)));have HO938:=Aside0.mk (Kd.V_lower (Kd.V_mono (ok':=fun k_ => k_ ≠ gb931 ∧ k_ ≠ gb932) ho1 (fun k_ hk_ => ⟨Or.elim hk_ (fun hs_ => hs_.1) (fun hn_ => (Kd.freshB (qB BK931.out) k_ hn_)),Or.elim hk_ (fun hs_ => hs_.2) (fun hn_ => (Kd.freshB (qB BK932.out) k_ hn_))⟩)) (below_size (qS HB)));replace BK931:=qb BK931 hb;replace BK932:=qb BK932 hb;replace HB:=qs HB hb;clear hb ho0 ho1)|((with_reducible refine gate_dst (N:=7) rfl ?_);refine qX #[.slice none 0 0] 38 ?_;intro gb940 hg w25 hbox hb;replace HO927:=qVe HO927 hb hg;replace HO930:=qVe HO930 hb hg;replace HO935:=qVe HO935 hb hg;replace HO938:=qVe HO938 hb hg;have BK940:=Aside0.mk hbox;have GE940:=qh hg HB;replace HB:=qs HB hb;have NB931_940:=ql hg BK931;have NB940_931:=qg hg BK931;replace BK931:=qb BK931 hb;have NB932_940:=ql hg BK932;have NB940_932:=qg hg BK932;replace BK932:=qb BK932 hb;clear hb hbox hg)|((with_reducible refine gate_dst (N:=8) rfl ?_);refine qX #[.slice none 0 0] 38 ?_;intro gb941 hg w26 hbox hb;replace HO927:=qVe HO927 hb hg;replace HO930:=qVe HO930 hb hg;replace HO935:=qVe HO935 hb hg;replace HO938:=qVe HO938 hb hg;have BK941:=Aside0.mk hbox;have GE941:=qh hg HB;replace HB:=qs HB hb;have NB931_941:=ql hg BK931;have NB941_931:=qg hg BK931;replace BK931:=qb BK931 hb;have NB932_941:=ql hg BK932;have NB941_932:=qg hg BK932;replace BK932:=qb BK932 hb;have NB940_941:=ql hg BK940;have NB941_940:=qg hg BK940;replace BK940:=qb BK940 hb;clear hb hbox hg;obtain ⟨Ao27,co27,eo27⟩:=Kd.V_slice HO935.out;subst eo27;have hnb28:=NB940_931.out;have hnc28:=NB931_940.out;have hnb29:=NB940_932.out;have hnc29:=NB932_940.out;have hnb30:=NB940_941.out;have hnc30:=NB941_940.out;have hcz31_0:=bc BK940;have hfz31_0:=bz BK940;obtain ⟨Ao32,co32,eo32⟩:=Kd.V_slice HO938.out;subst eo32;have hnb33:=NB941_931.out;have hnc33:=NB931_941.out;have hnb34:=NB941_932.out;have hnc34:=NB932_941.out;have hcz35_0:=bc BK941;have hfz35_0:=bz BK941;have hcz36_0:=bc BK932;have hfz36_0:=bz BK932)|((with_reducible refine gate_callee (f:=44) rfl ?_);refine gL (some 27) Try.func44 #[.agg #[.slice Ao19 t928.length co19]] ?_;(with_reducible refine (nat_Nat_Zero.calls _ _ t928 true _ ?side1 ?side2 A8.out).mono ?_);(case side1 => refine (Kd.V_reads' (e:=23) (base:=w.heap.size) (ok:=fun k_ => (((k_ ≠ gb931 ∧ k_ ≠ gb932) ∧ k_ ≠ gb940) ∧ k_ ≠ gb941)) (n:=t928.length) (c:=co19) ?_).2.2;exact (qVm HO930));(case side2 => exact qL HO930);rintro e w37 ⟨rfl,hb⟩;refine ⟨_,rfl,?_⟩;replace HO927:=qVb HO927 hb;replace HO930:=qVb HO930 hb;replace HO935:=qVb HO935 hb;replace HO938:=qVb HO938 hb;replace BK931:=Aside0.mk (blk_below (g:=gb931) (o:=.cells #[.slice Ao15 t925.length co15] 38 (0,0)) (by (with_reducible repeat (first|refine blk_drewN ?_ _|refine blk_drew ?_|refine blk_alloc ?_ _));refine blk_far ?_ NB931_941.out _;(with_reducible repeat (first|refine blk_drewN ?_ _|refine blk_drew ?_|refine blk_alloc ?_ _));refine blk_far ?_ NB931_940.out _;(with_reducible repeat (first|refine blk_drewN ?_ _|refine blk_drew ?_|refine blk_alloc ?_ _));exact BK931.out) hb);replace BK932:=Aside0.mk (blk_below (g:=gb932) (o:=.cells #[.slice Ao19 t928.length co19] 38 (0,0)) (by (with_reducible repeat (first|refine blk_drewN ?_ _|refine blk_drew ?_|refine blk_alloc ?_ _));refine blk_far ?_ NB932_941.out _;(with_reducible repeat (first|refine blk_drewN ?_ _|refine blk_drew ?_|refine blk_alloc ?_ _));refine blk_far ?_ NB932_940.out _;(with_reducible repeat (first|refine blk_drewN ?_ _|refine blk_drew ?_|refine blk_alloc ?_ _));exact BK932.out) hb);replace BK940:=Aside0.mk (blk_below (g:=gb940) (o:=.cells #[.slice Ao27 t933.length co27] 38 (0,0)) (by (with_reducible repeat (first|refine blk_drewN ?_ _|refine blk_drew ?_|refine blk_alloc ?_ _));refine blk_far ?_ NB940_941.out _;(with_reducible repeat (first|refine blk_drewN ?_ _|refine blk_drew ?_|refine blk_alloc ?_ _));refine blk_put (cs:=#[.slice none 0 0]) ?_ 0 _ rfl;(with_reducible repeat (first|refine blk_drewN ?_ _|refine blk_drew ?_|refine blk_alloc ?_ _));exact BK940.out) hb);replace BK941:=Aside0.mk (blk_below (g:=gb941) (o:=.cells #[.slice Ao32 t936.length co32] 38 (0,0)) (by (with_reducible repeat (first|refine blk_drewN ?_ _|refine blk_drew ?_|refine blk_alloc ?_ _));refine blk_put (cs:=#[.slice none 0 0]) ?_ 0 _ rfl;(with_reducible repeat (first|refine blk_drewN ?_ _|refine blk_drew ?_|refine blk_alloc ?_ _));refine blk_far ?_ NB941_940.out _;(with_reducible repeat (first|refine blk_drewN ?_ _|refine blk_drew ?_|refine blk_alloc ?_ _));exact BK941.out) hb);replace HB:=qs HB hb;clear hb))
   (first|go_ret|(refine ⟨_,results_tmp rfl _ _ _,?_⟩))
   exact ⟨by first|rfl|(simp [errW_none,errW_some] <;> rfl)|(simp [*,errW_none,errW_some] <;> rfl),qS HB⟩
  ·replace c9:=Bool.eq_false_iff.mpr c9
   subst c9
   rw [qFT] at H
   obtain ⟨t943,A38,H⟩:=qH H
   obtain ⟨⟨t946,t949,t952⟩,A39,H⟩:=qH H
   dsimp only at H
   by_cases c40 : t939 = 0
   ·rw [if_pos c40] at H
    have c40b0 : (t939 == 0) = true:=beq_iff_eq.mpr c40
    have c40b1 : (t939 != 0) = false:=bne_eq_false_iff_eq.mpr c40
    clear c40
    by_cases c41 : t952 = 0
    ·rw [if_pos c41] at H
     have c41b0 : (t952 == 0) = true:=beq_iff_eq.mpr c41
     have c41b1 : (t952 != 0) = false:=bne_eq_false_iff_eq.mpr c41
     clear c41
     obtain ⟨t955,A42,H⟩:=qH H
     obtain ⟨t958,A43,H⟩:=qH H
     obtain ⟨t961,A44,H⟩:=qH H
     by_cases c45 : t961 = 0
     ·rw [if_pos c45] at H
      have c45b0 : (t961 == 0) = true:=beq_iff_eq.mpr c45
      have c45b1 : (t961 != 0) = false:=bne_eq_false_iff_eq.mpr c45
      clear c45
      obtain ⟨t962,A46,H⟩:=qH H
      by_cases c47 : t962 < 0
      ·rw [if_pos c47] at H
       have c47b0 : decide (t962 < 0) = true:=decide_eq_true c47
       clear c47
       obtain ⟨t963,A48,H⟩:=qH H
       by_cases c49 : t963 = 0
       ·rw [if_pos c49] at H
        have c49b0 : (t963 == 0) = true:=beq_iff_eq.mpr c49
        have c49b1 : (t963 != 0) = false:=bne_eq_false_iff_eq.mpr c49
        clear c49
        obtain ⟨t964,A50,H⟩:=qH H
        obtain rfl:=Option.some.inj H
        go_enter Try.func14,Try.ntmps14
        try go_wp2_with (first|((with_reducible refine gate_callee (f:=34) rfl ?_);refine gL (some 13) Try.func34 #[] ?_;(with_reducible refine (sacristylaw01_lives.calls k  true _ A3.out).mono ?_);rintro e w51 ⟨rfl,hb⟩;refine ⟨_,rfl,?_⟩;replace HB:=qs HB hb;clear hb)|((with_reducible refine gate_callee (f:=40) rfl ?_);refine gL (some 16) Try.func40 #[.slice A0 l0.length c0] ?_;(with_reducible refine (sacristylaw01_Num.calls k _ _ l0 t925 _ ?side1 ?side2 A5.out).mono ?_);(case side1 => exact qCB HR0 HB);(case side2 => exact HC0.out);rintro e w52 ⟨v926,rfl,ho0,hb⟩;refine ⟨_,rfl,?_⟩;have HO927:=Aside0.mk (Kd.V_lower (Kd.V_mono (ok':=fun k_ => True) ho0 (fun k_ hk_ => trivial)) (below_size (qS HB)));replace HB:=qs HB hb;clear hb ho0)|((with_reducible refine gate_callee (f:=40) rfl ?_);refine gL (some 18) Try.func40 #[.slice A1 l1.length c1] ?_;(with_reducible refine (sacristylaw01_Num.calls k _ _ l1 t928 _ ?side1 ?side2 A6.out).mono ?_);(case side1 => exact qCB HR1 HB);(case side2 => exact HC1.out);rintro e w53 ⟨v929,rfl,ho0,hb⟩;refine ⟨_,rfl,?_⟩;replace HO927:=qVb HO927 hb;have HO930:=Aside0.mk (Kd.V_lower (Kd.V_mono (ok':=fun k_ => True) ho0 (fun k_ hk_ => trivial)) (below_size (qS HB)));replace HB:=qs HB hb;clear hb ho0)|((with_reducible refine gate_dst (N:=5) rfl ?_);refine qX #[.slice none 0 0] 38 ?_;intro gb931 hg w54 hbox hb;replace HO927:=qVe HO927 hb hg;replace HO930:=qVe HO930 hb hg;have BK931:=Aside0.mk hbox;have GE931:=qh hg HB;replace HB:=qs HB hb;clear hb hbox hg)|((with_reducible refine gate_dst (N:=6) rfl ?_);refine qX #[.slice none 0 0] 38 ?_;intro gb932 hg w55 hbox hb;replace HO927:=qVe HO927 hb hg;replace HO930:=qVe HO930 hb hg;have BK932:=Aside0.mk hbox;have GE932:=qh hg HB;replace HB:=qs HB hb;have NB931_932:=ql hg BK931;have NB932_931:=qg hg BK931;replace BK931:=qb BK931 hb;clear hb hbox hg;obtain ⟨Ao56,co56,eo56⟩:=Kd.V_slice HO927.out;subst eo56;have hnb57:=NB931_932.out;have hnc57:=NB932_931.out;have hcz58_0:=bc BK931;have hfz58_0:=bz BK931)|((with_reducible refine gate_store (t:=38) (p:=5) rfl ?_);refine qSt (w55.setCell ⟨gb931,0,none⟩ (.slice Ao56 t925.length co56)) ?_;intro w59 hw;replace HO927:=qVh hw HO927;replace HO930:=qVh hw HO930;replace BK931:=qBp hw BK931;replace BK932:=qBh hw BK932;replace HB:=qSh hw HB;(try clear hw);obtain ⟨Ao60,co60,eo60⟩:=Kd.V_slice HO930.out;subst eo60;have hcz61_0:=bc BK932;have hfz61_0:=bz BK932)|((with_reducible refine gate_store (t:=38) (p:=6) rfl ?_);refine qSt (w59.setCell ⟨gb932,0,none⟩ (.slice Ao60 t928.length co60)) ?_;intro w62 hw;replace HO927:=qVh hw HO927;replace HO930:=qVh hw HO930;replace BK931:=qBh hw BK931;replace BK932:=qBp hw BK932;replace HB:=qSh hw HB;(try clear hw);have hcz63_0:=bc BK931;have hfz63_0:=bz BK931;have hcz64_0:=bc BK932;have hfz64_0:=bz BK932)|((with_reducible refine gate_callee (f:=53) rfl ?_);refine gL (some 22) Try.func53 #[.agg #[.slice Ao56 t925.length co56],.agg #[.slice Ao60 t928.length co60]] ?_;(with_reducible refine (nat_Nat_Div.calls k (fun k_ => (k_ ≠ gb931 ∧ k_ ≠ gb932)) _ _ t925 _ _ t928 t933 t936 t939 _ ?side1 ?side2 ?side3 A7.out).mono ?_);(case side1 => first|exact HO927.out|exact qVm HO927);(case side2 => exact qCV HO930);(case side3 => exact qL HO930);rintro e w65 ⟨v934,v937,rfl,ho0,ho1,hb⟩;refine ⟨_,rfl,?_⟩;replace HO927:=qVb HO927 hb;replace HO930:=qVb HO930 hb;have HO935:=Aside0.mk (Kd.V_lower (Kd.V_mono (ok':=fun k_ => k_ ≠ gb931 ∧ k_ ≠ gb932) ho0 (fun k_ hk_ => ⟨Or.elim hk_ (fun hs_ => hs_.1) (fun hn_ => (Kd.freshB (qB BK931.out) k_ hn_)),Or.elim hk_ (fun hs_ => hs_.2) (fun hn_ => (Kd.freshB (qB BK932.out) k_ hn_))⟩)) (below_size (qS HB)));have HO938:=Aside0.mk (Kd.V_lower (Kd.V_mono (ok':=fun k_ => k_ ≠ gb931 ∧ k_ ≠ gb932) ho1 (fun k_ hk_ => ⟨Or.elim hk_ (fun hs_ => hs_.1) (fun hn_ => (Kd.freshB (qB BK931.out) k_ hn_)),Or.elim hk_ (fun hs_ => hs_.2) (fun hn_ => (Kd.freshB (qB BK932.out) k_ hn_))⟩)) (below_size (qS HB)));replace BK931:=qb BK931 hb;replace BK932:=qb BK932 hb;replace HB:=qs HB hb;clear hb ho0 ho1)|((with_reducible refine gate_dst (N:=7) rfl ?_);refine qX #[.slice none 0 0] 38 ?_;intro gb940 hg w66 hbox hb;replace HO927:=qVe HO927 hb hg;replace HO930:=qVe HO930 hb hg;replace HO935:=qVe HO935 hb hg;replace HO938:=qVe HO938 hb hg;have BK940:=Aside0.mk hbox;have GE940:=qh hg HB;replace HB:=qs HB hb;have NB931_940:=ql hg BK931;have NB940_931:=qg hg BK931;replace BK931:=qb BK931 hb;have NB932_940:=ql hg BK932;have NB940_932:=qg hg BK932;replace BK932:=qb BK932 hb;clear hb hbox hg)|((with_reducible refine gate_dst (N:=8) rfl ?_);refine qX #[.slice none 0 0] 38 ?_;intro gb941 hg w67 hbox hb;replace HO927:=qVe HO927 hb hg;replace HO930:=qVe HO930 hb hg;replace HO935:=qVe HO935 hb hg;replace HO938:=qVe HO938 hb hg;have BK941:=Aside0.mk hbox;have GE941:=qh hg HB;replace HB:=qs HB hb;have NB931_941:=ql hg BK931;have NB941_931:=qg hg BK931;replace BK931:=qb BK931 hb;have NB932_941:=ql hg BK932;have NB941_932:=qg hg BK932;replace BK932:=qb BK932 hb;have NB940_941:=ql hg BK940;have NB941_940:=qg hg BK940;replace BK940:=qb BK940 hb;clear hb hbox hg;obtain ⟨Ao68,co68,eo68⟩:=Kd.V_slice HO935.out;subst eo68;have hnb69:=NB940_931.out;have hnc69:=NB931_940.out;have hnb70:=NB940_932.out;have hnc70:=NB932_940.out;have hnb71:=NB940_941.out;have hnc71:=NB941_940.out;have hcz72_0:=bc BK940;have hfz72_0:=bz BK940;obtain ⟨Ao73,co73,eo73⟩:=Kd.V_slice HO938.out;subst eo73;have hnb74:=NB941_931.out;have hnc74:=NB931_941.out;have hnb75:=NB941_932.out;have hnc75:=NB932_941.out;have hcz76_0:=bc BK941;have hfz76_0:=bz BK941;have hcz77_0:=bc BK932;have hfz77_0:=bz BK932)|((with_reducible refine gate_callee (f:=44) rfl ?_);refine gL (some 27) Try.func44 #[.agg #[.slice Ao60 t928.length co60]] ?_;(with_reducible refine (nat_Nat_Zero.calls _ _ t928 false _ ?side1 ?side2 A8.out).mono ?_);(case side1 => refine (Kd.V_reads' (e:=23) (base:=w.heap.size) (ok:=fun k_ => (((k_ ≠ gb931 ∧ k_ ≠ gb932) ∧ k_ ≠ gb940) ∧ k_ ≠ gb941)) (n:=t928.length) (c:=co60) ?_).2.2;exact (qVm HO930));(case side2 => exact qL HO930);rintro e w78 ⟨rfl,hb⟩;refine ⟨_,rfl,?_⟩;replace HO927:=qVb HO927 hb;replace HO930:=qVb HO930 hb;replace HO935:=qVb HO935 hb;replace HO938:=qVb HO938 hb;replace BK931:=Aside0.mk (blk_below (g:=gb931) (o:=.cells #[.slice Ao56 t925.length co56] 38 (0,0)) (by (with_reducible repeat (first|refine blk_drewN ?_ _|refine blk_drew ?_|refine blk_alloc ?_ _));refine blk_far ?_ NB931_941.out _;(with_reducible repeat (first|refine blk_drewN ?_ _|refine blk_drew ?_|refine blk_alloc ?_ _));refine blk_far ?_ NB931_940.out _;(with_reducible repeat (first|refine blk_drewN ?_ _|refine blk_drew ?_|refine blk_alloc ?_ _));exact BK931.out) hb);replace BK932:=Aside0.mk (blk_below (g:=gb932) (o:=.cells #[.slice Ao60 t928.length co60] 38 (0,0)) (by (with_reducible repeat (first|refine blk_drewN ?_ _|refine blk_drew ?_|refine blk_alloc ?_ _));refine blk_far ?_ NB932_941.out _;(with_reducible repeat (first|refine blk_drewN ?_ _|refine blk_drew ?_|refine blk_alloc ?_ _));refine blk_far ?_ NB932_940.out _;(with_reducible repeat (first|refine blk_drewN ?_ _|refine blk_drew ?_|refine blk_alloc ?_ _));exact BK932.out) hb);replace BK940:=Aside0.mk (blk_below (g:=gb940) (o:=.cells #[.slice Ao68 t933.length co68] 38 (0,0)) (by (with_reducible repeat (first|refine blk_drewN ?_ _|refine blk_drew ?_|refine blk_alloc ?_ _));refine blk_far ?_ NB940_941.out _;(with_reducible repeat (first|refine blk_drewN ?_ _|refine blk_drew ?_|refine blk_alloc ?_ _));refine blk_put (cs:=#[.slice none 0 0]) ?_ 0 _ rfl;(with_reducible repeat (first|refine blk_drewN ?_ _|refine blk_drew ?_|refine blk_alloc ?_ _));exact BK940.out) hb);replace BK941:=Aside0.mk (blk_below (g:=gb941) (o:=.cells #[.slice Ao73 t936.length co73] 38 (0,0)) (by (with_reducible repeat (first|refine blk_drewN ?_ _|refine blk_drew ?_|refine blk_alloc ?_ _));refine blk_put (cs:=#[.slice none 0 0]) ?_ 0 _ rfl;(with_reducible repeat (first|refine blk_drewN ?_ _|refine blk_drew ?_|refine blk_alloc ?_ _));refine blk_far ?_ NB941_940.out _;(with_reducible repeat (first|refine blk_drewN ?_ _|refine blk_drew ?_|refine blk_alloc ?_ _));exact BK941.out) hb);replace HB:=qs HB hb;clear hb))
        replace HO927:=qVw HO927
        replace HO930:=qVw HO930
        replace HO935:=qVw HO935
        replace HO938:=qVw HO938
        replace BK931:=qbd BK931
        replace BK932:=qbd BK932
        replace BK940:=qbd BK940
        replace BK941:=qbd BK941
        replace HB:=qsd HB
        refine start_ (n:=14) (S:=fun w' => w'.cell? ⟨gb931,0,none⟩ = some (.slice Ao56 t925.length co56) ∧ w'.cell? ⟨gb932,0,none⟩ = some (.slice Ao60 t928.length co60)) (ds:=[]) #[false,false,false,false,false,false,false,false,false,false,false,false,false,false] (by kernel_rfl) rfl rfl ⟨bc BK931,bc BK932⟩ (fun hHeld => ?_);refine with_tabW sacristylaw01_NatBack.tab7 sacristylaw01_NatBack.bits7 (fun HT_ HW_ => ?_)
        generalize w78.drew = w79 at HO927 HO930 HO935 HO938 BK931 BK932 BK940 BK941 HB hHeld ⊢
        refine qT 0 31 HT_ HW_ hHeld ?_
        refine qT 1 32 HT_ HW_ hHeld ?_
        refine qT 3 34 HT_ HW_ hHeld ?_
        refine join_ (σ:=Value × Value × Value × Nat × Nat) 3 #[true,true,true,true,true,true,true,true,true,true,true,false,false,false] (fun s_ => [(33,.agg #[s_.1]),(35,.tuple #[.agg #[s_.2.1],.agg #[s_.2.2.1],.int .i64 t952]),(10,.pointer (some ⟨s_.2.2.2.1,0,none⟩)),(11,.pointer (some ⟨s_.2.2.2.2,0,none⟩)),(30,.tuple #[.agg #[s_.2.1],.agg #[s_.2.2.1],.int .i64 t952]),(36,.agg #[s_.2.1]),(37,.agg #[s_.2.2.1]),(38,.int .i64 t952)]) (fun s_ w' => (w'.cell? ⟨gb931,0,none⟩ = some (.slice Ao56 t925.length co56) ∧ w'.cell? ⟨gb932,0,none⟩ = some (.slice Ao60 t928.length co60)) ∧ (Kd.V (Kd.int .u32) 23 w' w.heap.size (fun k_ => k_ ≠ gb931 ∧ k_ ≠ gb932 ∧ k_ ≠ gb940 ∧ k_ ≠ gb941 ∧ k_ ≠ s_.2.2.2.1 ∧ k_ ≠ s_.2.2.2.2) (.slice Ao56 t925.length co56) t925) ∧ (Kd.V (Kd.int .u32) 23 w' w.heap.size (fun k_ => k_ ≠ gb931 ∧ k_ ≠ gb932 ∧ k_ ≠ gb940 ∧ k_ ≠ gb941 ∧ k_ ≠ s_.2.2.2.1 ∧ k_ ≠ s_.2.2.2.2) (.slice Ao60 t928.length co60) t928) ∧ (Kd.V (Kd.int .u32) 23 w' w.heap.size (fun k_ => k_ ≠ gb931 ∧ k_ ≠ gb932 ∧ k_ ≠ gb940 ∧ k_ ≠ gb941 ∧ k_ ≠ s_.2.2.2.1 ∧ k_ ≠ s_.2.2.2.2) (.slice Ao68 t933.length co68) t933) ∧ (Kd.V (Kd.int .u32) 23 w' w.heap.size (fun k_ => k_ ≠ gb931 ∧ k_ ≠ gb932 ∧ k_ ≠ gb940 ∧ k_ ≠ gb941 ∧ k_ ≠ s_.2.2.2.1 ∧ k_ ≠ s_.2.2.2.2) (.slice Ao73 t936.length co73) t936) ∧ (Kd.V (Kd.int .u32) 23 w' w.heap.size (fun k_ => k_ ≠ gb931 ∧ k_ ≠ gb932 ∧ k_ ≠ gb940 ∧ k_ ≠ gb941 ∧ k_ ≠ s_.2.2.2.1 ∧ k_ ≠ s_.2.2.2.2) s_.1 t943) ∧ (Kd.V (Kd.int .u32) 23 w' w.heap.size (fun k_ => k_ ≠ gb931 ∧ k_ ≠ gb932 ∧ k_ ≠ gb940 ∧ k_ ≠ gb941 ∧ k_ ≠ s_.2.2.2.1 ∧ k_ ≠ s_.2.2.2.2) s_.2.1 t946) ∧ (Kd.V (Kd.int .u32) 23 w' w.heap.size (fun k_ => k_ ≠ gb931 ∧ k_ ≠ gb932 ∧ k_ ≠ gb940 ∧ k_ ≠ gb941 ∧ k_ ≠ s_.2.2.2.1 ∧ k_ ≠ s_.2.2.2.2) s_.2.2.1 t949) ∧ (w'.heap[gb931]? = some (.cells #[.slice Ao56 t925.length co56] 38 (0,0))) ∧ (w'.heap[gb932]? = some (.cells #[.slice Ao60 t928.length co60] 38 (0,0))) ∧ (w'.heap[gb940]? = some (.cells #[.slice Ao68 t933.length co68] 38 (0,0))) ∧ (w'.heap[gb941]? = some (.cells #[.slice Ao73 t936.length co73] 38 (0,0))) ∧ (w'.heap[s_.2.2.2.1]? = some (.cells #[.slice none 0 0] 38 (0,0))) ∧ (w'.heap[s_.2.2.2.2]? = some (.cells #[.slice none 0 0] 38 (0,0))) ∧ (w.heap.size ≤ s_.2.2.2.1) ∧ (w.heap.size ≤ s_.2.2.2.1) ∧ (gb931 ≠ s_.2.2.2.1) ∧ (s_.2.2.2.1 ≠ gb931) ∧ (gb932 ≠ s_.2.2.2.1) ∧ (s_.2.2.2.1 ≠ gb932) ∧ (gb940 ≠ s_.2.2.2.1) ∧ (s_.2.2.2.1 ≠ gb940) ∧ (gb941 ≠ s_.2.2.2.1) ∧ (s_.2.2.2.1 ≠ gb941) ∧ (s_.2.2.2.2 ≠ s_.2.2.2.1) ∧ (s_.2.2.2.1 ≠ s_.2.2.2.2) ∧ (w.heap.size ≤ s_.2.2.2.2) ∧ (w.heap.size ≤ s_.2.2.2.2) ∧ (gb931 ≠ s_.2.2.2.2) ∧ (s_.2.2.2.2 ≠ gb931) ∧ (gb932 ≠ s_.2.2.2.2) ∧ (s_.2.2.2.2 ≠ gb932) ∧ (gb940 ≠ s_.2.2.2.2) ∧ (s_.2.2.2.2 ≠ gb940) ∧ (gb941 ≠ s_.2.2.2.2) ∧ (s_.2.2.2.2 ≠ gb941) ∧ (Below w.heap.size w w')) ?_ ?_
        rotate_left
        ·intro hJ2_4_9_10
         refine join_ (σ:=Value × Value × Value × Nat) 4 #[true,true,true,true,true,true,true,true,true,true,false,false,false,false] (fun s_ => [(33,.agg #[s_.1]),(35,.tuple #[.agg #[s_.2.1],.agg #[s_.2.2.1],.int .i64 t952]),(10,.pointer (some ⟨s_.2.2.2,0,none⟩)),(30,.tuple #[.agg #[s_.2.1],.agg #[s_.2.2.1],.int .i64 t952]),(36,.agg #[s_.2.1]),(37,.agg #[s_.2.2.1]),(38,.int .i64 t952)]) (fun s_ w' => (w'.cell? ⟨gb931,0,none⟩ = some (.slice Ao56 t925.length co56) ∧ w'.cell? ⟨gb932,0,none⟩ = some (.slice Ao60 t928.length co60)) ∧ (Kd.V (Kd.int .u32) 23 w' w.heap.size (fun k_ => k_ ≠ gb931 ∧ k_ ≠ gb932 ∧ k_ ≠ gb940 ∧ k_ ≠ gb941 ∧ k_ ≠ s_.2.2.2) (.slice Ao56 t925.length co56) t925) ∧ (Kd.V (Kd.int .u32) 23 w' w.heap.size (fun k_ => k_ ≠ gb931 ∧ k_ ≠ gb932 ∧ k_ ≠ gb940 ∧ k_ ≠ gb941 ∧ k_ ≠ s_.2.2.2) (.slice Ao60 t928.length co60) t928) ∧ (Kd.V (Kd.int .u32) 23 w' w.heap.size (fun k_ => k_ ≠ gb931 ∧ k_ ≠ gb932 ∧ k_ ≠ gb940 ∧ k_ ≠ gb941 ∧ k_ ≠ s_.2.2.2) (.slice Ao68 t933.length co68) t933) ∧ (Kd.V (Kd.int .u32) 23 w' w.heap.size (fun k_ => k_ ≠ gb931 ∧ k_ ≠ gb932 ∧ k_ ≠ gb940 ∧ k_ ≠ gb941 ∧ k_ ≠ s_.2.2.2) (.slice Ao73 t936.length co73) t936) ∧ (Kd.V (Kd.int .u32) 23 w' w.heap.size (fun k_ => k_ ≠ gb931 ∧ k_ ≠ gb932 ∧ k_ ≠ gb940 ∧ k_ ≠ gb941 ∧ k_ ≠ s_.2.2.2) s_.1 t943) ∧ (Kd.V (Kd.int .u32) 23 w' w.heap.size (fun k_ => k_ ≠ gb931 ∧ k_ ≠ gb932 ∧ k_ ≠ gb940 ∧ k_ ≠ gb941 ∧ k_ ≠ s_.2.2.2) s_.2.1 t946) ∧ (Kd.V (Kd.int .u32) 23 w' w.heap.size (fun k_ => k_ ≠ gb931 ∧ k_ ≠ gb932 ∧ k_ ≠ gb940 ∧ k_ ≠ gb941 ∧ k_ ≠ s_.2.2.2) s_.2.2.1 t949) ∧ (w'.heap[gb931]? = some (.cells #[.slice Ao56 t925.length co56] 38 (0,0))) ∧ (w'.heap[gb932]? = some (.cells #[.slice Ao60 t928.length co60] 38 (0,0))) ∧ (w'.heap[gb940]? = some (.cells #[.slice Ao68 t933.length co68] 38 (0,0))) ∧ (w'.heap[gb941]? = some (.cells #[.slice Ao73 t936.length co73] 38 (0,0))) ∧ (w'.heap[s_.2.2.2]? = some (.cells #[.slice none 0 0] 38 (0,0))) ∧ (w.heap.size ≤ s_.2.2.2) ∧ (w.heap.size ≤ s_.2.2.2) ∧ (gb931 ≠ s_.2.2.2) ∧ (s_.2.2.2 ≠ gb931) ∧ (gb932 ≠ s_.2.2.2) ∧ (s_.2.2.2 ≠ gb932) ∧ (gb940 ≠ s_.2.2.2) ∧ (s_.2.2.2 ≠ gb940) ∧ (gb941 ≠ s_.2.2.2) ∧ (s_.2.2.2 ≠ gb941) ∧ (Below w.heap.size w w')) ?_ ?_
         rotate_left
         ·intro hJ2_4_9
          refine join_ (σ:=Value × Value × Value × Nat) 4 #[true,true,true,true,true,true,true,true,true,false,true,false,false,false] (fun s_ => [(33,.agg #[s_.1]),(35,.tuple #[.agg #[s_.2.1],.agg #[s_.2.2.1],.int .i64 t952]),(11,.pointer (some ⟨s_.2.2.2,0,none⟩)),(30,.tuple #[.agg #[s_.2.1],.agg #[s_.2.2.1],.int .i64 t952]),(36,.agg #[s_.2.1]),(37,.agg #[s_.2.2.1]),(38,.int .i64 t952)]) (fun s_ w' => (w'.cell? ⟨gb931,0,none⟩ = some (.slice Ao56 t925.length co56) ∧ w'.cell? ⟨gb932,0,none⟩ = some (.slice Ao60 t928.length co60)) ∧ (Kd.V (Kd.int .u32) 23 w' w.heap.size (fun k_ => k_ ≠ gb931 ∧ k_ ≠ gb932 ∧ k_ ≠ gb940 ∧ k_ ≠ gb941 ∧ k_ ≠ s_.2.2.2) (.slice Ao56 t925.length co56) t925) ∧ (Kd.V (Kd.int .u32) 23 w' w.heap.size (fun k_ => k_ ≠ gb931 ∧ k_ ≠ gb932 ∧ k_ ≠ gb940 ∧ k_ ≠ gb941 ∧ k_ ≠ s_.2.2.2) (.slice Ao60 t928.length co60) t928) ∧ (Kd.V (Kd.int .u32) 23 w' w.heap.size (fun k_ => k_ ≠ gb931 ∧ k_ ≠ gb932 ∧ k_ ≠ gb940 ∧ k_ ≠ gb941 ∧ k_ ≠ s_.2.2.2) (.slice Ao68 t933.length co68) t933) ∧ (Kd.V (Kd.int .u32) 23 w' w.heap.size (fun k_ => k_ ≠ gb931 ∧ k_ ≠ gb932 ∧ k_ ≠ gb940 ∧ k_ ≠ gb941 ∧ k_ ≠ s_.2.2.2) (.slice Ao73 t936.length co73) t936) ∧ (Kd.V (Kd.int .u32) 23 w' w.heap.size (fun k_ => k_ ≠ gb931 ∧ k_ ≠ gb932 ∧ k_ ≠ gb940 ∧ k_ ≠ gb941 ∧ k_ ≠ s_.2.2.2) s_.1 t943) ∧ (Kd.V (Kd.int .u32) 23 w' w.heap.size (fun k_ => k_ ≠ gb931 ∧ k_ ≠ gb932 ∧ k_ ≠ gb940 ∧ k_ ≠ gb941 ∧ k_ ≠ s_.2.2.2) s_.2.1 t946) ∧ (Kd.V (Kd.int .u32) 23 w' w.heap.size (fun k_ => k_ ≠ gb931 ∧ k_ ≠ gb932 ∧ k_ ≠ gb940 ∧ k_ ≠ gb941 ∧ k_ ≠ s_.2.2.2) s_.2.2.1 t949) ∧ (w'.heap[gb931]? = some (.cells #[.slice Ao56 t925.length co56] 38 (0,0))) ∧ (w'.heap[gb932]? = some (.cells #[.slice Ao60 t928.length co60] 38 (0,0))) ∧ (w'.heap[gb940]? = some (.cells #[.slice Ao68 t933.length co68] 38 (0,0))) ∧ (w'.heap[gb941]? = some (.cells #[.slice Ao73 t936.length co73] 38 (0,0))) ∧ (w'.heap[s_.2.2.2]? = some (.cells #[.slice none 0 0] 38 (0,0))) ∧ (w.heap.size ≤ s_.2.2.2) ∧ (w.heap.size ≤ s_.2.2.2) ∧ (gb931 ≠ s_.2.2.2) ∧ (s_.2.2.2 ≠ gb931) ∧ (gb932 ≠ s_.2.2.2) ∧ (s_.2.2.2 ≠ gb932) ∧ (gb940 ≠ s_.2.2.2) ∧ (s_.2.2.2 ≠ gb940) ∧ (gb941 ≠ s_.2.2.2) ∧ (s_.2.2.2 ≠ gb941) ∧ (Below w.heap.size w w')) ?_ ?_
          rotate_left
          ·intro hJ2_4_10
           refine join_ (σ:=Value × Nat × Nat) 8 #[true,true,true,true,false,false,false,false,false,true,true,false,false,false] (fun s_ => [(33,.agg #[s_.1]),(10,.pointer (some ⟨s_.2.1,0,none⟩)),(11,.pointer (some ⟨s_.2.2,0,none⟩))]) (fun s_ w' => (w'.cell? ⟨gb931,0,none⟩ = some (.slice Ao56 t925.length co56) ∧ w'.cell? ⟨gb932,0,none⟩ = some (.slice Ao60 t928.length co60)) ∧ (Kd.V (Kd.int .u32) 23 w' w.heap.size (fun k_ => k_ ≠ gb931 ∧ k_ ≠ gb932 ∧ k_ ≠ gb940 ∧ k_ ≠ gb941 ∧ k_ ≠ s_.2.1 ∧ k_ ≠ s_.2.2) (.slice Ao56 t925.length co56) t925) ∧ (Kd.V (Kd.int .u32) 23 w' w.heap.size (fun k_ => k_ ≠ gb931 ∧ k_ ≠ gb932 ∧ k_ ≠ gb940 ∧ k_ ≠ gb941 ∧ k_ ≠ s_.2.1 ∧ k_ ≠ s_.2.2) (.slice Ao60 t928.length co60) t928) ∧ (Kd.V (Kd.int .u32) 23 w' w.heap.size (fun k_ => k_ ≠ gb931 ∧ k_ ≠ gb932 ∧ k_ ≠ gb940 ∧ k_ ≠ gb941 ∧ k_ ≠ s_.2.1 ∧ k_ ≠ s_.2.2) (.slice Ao68 t933.length co68) t933) ∧ (Kd.V (Kd.int .u32) 23 w' w.heap.size (fun k_ => k_ ≠ gb931 ∧ k_ ≠ gb932 ∧ k_ ≠ gb940 ∧ k_ ≠ gb941 ∧ k_ ≠ s_.2.1 ∧ k_ ≠ s_.2.2) (.slice Ao73 t936.length co73) t936) ∧ (Kd.V (Kd.int .u32) 23 w' w.heap.size (fun k_ => k_ ≠ gb931 ∧ k_ ≠ gb932 ∧ k_ ≠ gb940 ∧ k_ ≠ gb941 ∧ k_ ≠ s_.2.1 ∧ k_ ≠ s_.2.2) s_.1 t943) ∧ (w'.heap[gb931]? = some (.cells #[.slice Ao56 t925.length co56] 38 (0,0))) ∧ (w'.heap[gb932]? = some (.cells #[.slice Ao60 t928.length co60] 38 (0,0))) ∧ (w'.heap[gb940]? = some (.cells #[.slice Ao68 t933.length co68] 38 (0,0))) ∧ (w'.heap[gb941]? = some (.cells #[.slice Ao73 t936.length co73] 38 (0,0))) ∧ (w'.heap[s_.2.1]? = some (.cells #[.slice none 0 0] 38 (0,0))) ∧ (w'.heap[s_.2.2]? = some (.cells #[.slice none 0 0] 38 (0,0))) ∧ (w.heap.size ≤ s_.2.1) ∧ (w.heap.size ≤ s_.2.1) ∧ (gb931 ≠ s_.2.1) ∧ (s_.2.1 ≠ gb931) ∧ (gb932 ≠ s_.2.1) ∧ (s_.2.1 ≠ gb932) ∧ (gb940 ≠ s_.2.1) ∧ (s_.2.1 ≠ gb940) ∧ (gb941 ≠ s_.2.1) ∧ (s_.2.1 ≠ gb941) ∧ (s_.2.2 ≠ s_.2.1) ∧ (s_.2.1 ≠ s_.2.2) ∧ (w.heap.size ≤ s_.2.2) ∧ (w.heap.size ≤ s_.2.2) ∧ (gb931 ≠ s_.2.2) ∧ (s_.2.2 ≠ gb931) ∧ (gb932 ≠ s_.2.2) ∧ (s_.2.2 ≠ gb932) ∧ (gb940 ≠ s_.2.2) ∧ (s_.2.2 ≠ gb940) ∧ (gb941 ≠ s_.2.2) ∧ (s_.2.2 ≠ gb941) ∧ (Below w.heap.size w w')) ?_ ?_
           rotate_left
           ·intro hJ2_9_10
            refine join_ (σ:=Value × Value × Value) 5 #[true,true,true,true,true,true,true,true,true,false,false,false,false,false] (fun s_ => [(33,.agg #[s_.1]),(35,.tuple #[.agg #[s_.2.1],.agg #[s_.2.2],.int .i64 t952]),(30,.tuple #[.agg #[s_.2.1],.agg #[s_.2.2],.int .i64 t952]),(36,.agg #[s_.2.1]),(37,.agg #[s_.2.2]),(38,.int .i64 t952)]) (fun s_ w' => (w'.cell? ⟨gb931,0,none⟩ = some (.slice Ao56 t925.length co56) ∧ w'.cell? ⟨gb932,0,none⟩ = some (.slice Ao60 t928.length co60)) ∧ (Kd.V (Kd.int .u32) 23 w' w.heap.size (fun k_ => k_ ≠ gb931 ∧ k_ ≠ gb932 ∧ k_ ≠ gb940 ∧ k_ ≠ gb941) (.slice Ao56 t925.length co56) t925) ∧ (Kd.V (Kd.int .u32) 23 w' w.heap.size (fun k_ => k_ ≠ gb931 ∧ k_ ≠ gb932 ∧ k_ ≠ gb940 ∧ k_ ≠ gb941) (.slice Ao60 t928.length co60) t928) ∧ (Kd.V (Kd.int .u32) 23 w' w.heap.size (fun k_ => k_ ≠ gb931 ∧ k_ ≠ gb932 ∧ k_ ≠ gb940 ∧ k_ ≠ gb941) (.slice Ao68 t933.length co68) t933) ∧ (Kd.V (Kd.int .u32) 23 w' w.heap.size (fun k_ => k_ ≠ gb931 ∧ k_ ≠ gb932 ∧ k_ ≠ gb940 ∧ k_ ≠ gb941) (.slice Ao73 t936.length co73) t936) ∧ (Kd.V (Kd.int .u32) 23 w' w.heap.size (fun k_ => k_ ≠ gb931 ∧ k_ ≠ gb932 ∧ k_ ≠ gb940 ∧ k_ ≠ gb941) s_.1 t943) ∧ (Kd.V (Kd.int .u32) 23 w' w.heap.size (fun k_ => k_ ≠ gb931 ∧ k_ ≠ gb932 ∧ k_ ≠ gb940 ∧ k_ ≠ gb941) s_.2.1 t946) ∧ (Kd.V (Kd.int .u32) 23 w' w.heap.size (fun k_ => k_ ≠ gb931 ∧ k_ ≠ gb932 ∧ k_ ≠ gb940 ∧ k_ ≠ gb941) s_.2.2 t949) ∧ (w'.heap[gb931]? = some (.cells #[.slice Ao56 t925.length co56] 38 (0,0))) ∧ (w'.heap[gb932]? = some (.cells #[.slice Ao60 t928.length co60] 38 (0,0))) ∧ (w'.heap[gb940]? = some (.cells #[.slice Ao68 t933.length co68] 38 (0,0))) ∧ (w'.heap[gb941]? = some (.cells #[.slice Ao73 t936.length co73] 38 (0,0))) ∧ (Below w.heap.size w w')) ?_ ?_
            rotate_left
            ·intro hJ2_4
             refine join_ (σ:=Value × Nat) 9 #[true,true,true,true,false,false,false,false,false,true,false,false,false,false] (fun s_ => [(33,.agg #[s_.1]),(10,.pointer (some ⟨s_.2,0,none⟩))]) (fun s_ w' => (w'.cell? ⟨gb931,0,none⟩ = some (.slice Ao56 t925.length co56) ∧ w'.cell? ⟨gb932,0,none⟩ = some (.slice Ao60 t928.length co60)) ∧ (Kd.V (Kd.int .u32) 23 w' w.heap.size (fun k_ => k_ ≠ gb931 ∧ k_ ≠ gb932 ∧ k_ ≠ gb940 ∧ k_ ≠ gb941 ∧ k_ ≠ s_.2) (.slice Ao56 t925.length co56) t925) ∧ (Kd.V (Kd.int .u32) 23 w' w.heap.size (fun k_ => k_ ≠ gb931 ∧ k_ ≠ gb932 ∧ k_ ≠ gb940 ∧ k_ ≠ gb941 ∧ k_ ≠ s_.2) (.slice Ao60 t928.length co60) t928) ∧ (Kd.V (Kd.int .u32) 23 w' w.heap.size (fun k_ => k_ ≠ gb931 ∧ k_ ≠ gb932 ∧ k_ ≠ gb940 ∧ k_ ≠ gb941 ∧ k_ ≠ s_.2) (.slice Ao68 t933.length co68) t933) ∧ (Kd.V (Kd.int .u32) 23 w' w.heap.size (fun k_ => k_ ≠ gb931 ∧ k_ ≠ gb932 ∧ k_ ≠ gb940 ∧ k_ ≠ gb941 ∧ k_ ≠ s_.2) (.slice Ao73 t936.length co73) t936) ∧ (Kd.V (Kd.int .u32) 23 w' w.heap.size (fun k_ => k_ ≠ gb931 ∧ k_ ≠ gb932 ∧ k_ ≠ gb940 ∧ k_ ≠ gb941 ∧ k_ ≠ s_.2) s_.1 t943) ∧ (w'.heap[gb931]? = some (.cells #[.slice Ao56 t925.length co56] 38 (0,0))) ∧ (w'.heap[gb932]? = some (.cells #[.slice Ao60 t928.length co60] 38 (0,0))) ∧ (w'.heap[gb940]? = some (.cells #[.slice Ao68 t933.length co68] 38 (0,0))) ∧ (w'.heap[gb941]? = some (.cells #[.slice Ao73 t936.length co73] 38 (0,0))) ∧ (w'.heap[s_.2]? = some (.cells #[.slice none 0 0] 38 (0,0))) ∧ (w.heap.size ≤ s_.2) ∧ (w.heap.size ≤ s_.2) ∧ (gb931 ≠ s_.2) ∧ (s_.2 ≠ gb931) ∧ (gb932 ≠ s_.2) ∧ (s_.2 ≠ gb932) ∧ (gb940 ≠ s_.2) ∧ (s_.2 ≠ gb940) ∧ (gb941 ≠ s_.2) ∧ (s_.2 ≠ gb941) ∧ (Below w.heap.size w w')) ?_ ?_
             rotate_left
             ·intro hJ2_9
              refine join_ (σ:=Value × Nat) 9 #[true,true,true,true,false,false,false,false,false,false,true,false,false,false] (fun s_ => [(33,.agg #[s_.1]),(11,.pointer (some ⟨s_.2,0,none⟩))]) (fun s_ w' => (w'.cell? ⟨gb931,0,none⟩ = some (.slice Ao56 t925.length co56) ∧ w'.cell? ⟨gb932,0,none⟩ = some (.slice Ao60 t928.length co60)) ∧ (Kd.V (Kd.int .u32) 23 w' w.heap.size (fun k_ => k_ ≠ gb931 ∧ k_ ≠ gb932 ∧ k_ ≠ gb940 ∧ k_ ≠ gb941 ∧ k_ ≠ s_.2) (.slice Ao56 t925.length co56) t925) ∧ (Kd.V (Kd.int .u32) 23 w' w.heap.size (fun k_ => k_ ≠ gb931 ∧ k_ ≠ gb932 ∧ k_ ≠ gb940 ∧ k_ ≠ gb941 ∧ k_ ≠ s_.2) (.slice Ao60 t928.length co60) t928) ∧ (Kd.V (Kd.int .u32) 23 w' w.heap.size (fun k_ => k_ ≠ gb931 ∧ k_ ≠ gb932 ∧ k_ ≠ gb940 ∧ k_ ≠ gb941 ∧ k_ ≠ s_.2) (.slice Ao68 t933.length co68) t933) ∧ (Kd.V (Kd.int .u32) 23 w' w.heap.size (fun k_ => k_ ≠ gb931 ∧ k_ ≠ gb932 ∧ k_ ≠ gb940 ∧ k_ ≠ gb941 ∧ k_ ≠ s_.2) (.slice Ao73 t936.length co73) t936) ∧ (Kd.V (Kd.int .u32) 23 w' w.heap.size (fun k_ => k_ ≠ gb931 ∧ k_ ≠ gb932 ∧ k_ ≠ gb940 ∧ k_ ≠ gb941 ∧ k_ ≠ s_.2) s_.1 t943) ∧ (w'.heap[gb931]? = some (.cells #[.slice Ao56 t925.length co56] 38 (0,0))) ∧ (w'.heap[gb932]? = some (.cells #[.slice Ao60 t928.length co60] 38 (0,0))) ∧ (w'.heap[gb940]? = some (.cells #[.slice Ao68 t933.length co68] 38 (0,0))) ∧ (w'.heap[gb941]? = some (.cells #[.slice Ao73 t936.length co73] 38 (0,0))) ∧ (w'.heap[s_.2]? = some (.cells #[.slice none 0 0] 38 (0,0))) ∧ (w.heap.size ≤ s_.2) ∧ (w.heap.size ≤ s_.2) ∧ (gb931 ≠ s_.2) ∧ (s_.2 ≠ gb931) ∧ (gb932 ≠ s_.2) ∧ (s_.2 ≠ gb932) ∧ (gb940 ≠ s_.2) ∧ (s_.2 ≠ gb940) ∧ (gb941 ≠ s_.2) ∧ (s_.2 ≠ gb941) ∧ (Below w.heap.size w w')) ?_ ?_
              rotate_left
              ·intro hJ2_10
               refine join_ (σ:=Nat × Nat) 9 #[true,true,false,true,false,false,false,false,false,true,true,false,false,false] (fun s_ => [(10,.pointer (some ⟨s_.1,0,none⟩)),(11,.pointer (some ⟨s_.2,0,none⟩))]) (fun s_ w' => (w'.cell? ⟨gb931,0,none⟩ = some (.slice Ao56 t925.length co56) ∧ w'.cell? ⟨gb932,0,none⟩ = some (.slice Ao60 t928.length co60)) ∧ (Kd.V (Kd.int .u32) 23 w' w.heap.size (fun k_ => k_ ≠ gb931 ∧ k_ ≠ gb932 ∧ k_ ≠ gb940 ∧ k_ ≠ gb941 ∧ k_ ≠ s_.1 ∧ k_ ≠ s_.2) (.slice Ao56 t925.length co56) t925) ∧ (Kd.V (Kd.int .u32) 23 w' w.heap.size (fun k_ => k_ ≠ gb931 ∧ k_ ≠ gb932 ∧ k_ ≠ gb940 ∧ k_ ≠ gb941 ∧ k_ ≠ s_.1 ∧ k_ ≠ s_.2) (.slice Ao60 t928.length co60) t928) ∧ (Kd.V (Kd.int .u32) 23 w' w.heap.size (fun k_ => k_ ≠ gb931 ∧ k_ ≠ gb932 ∧ k_ ≠ gb940 ∧ k_ ≠ gb941 ∧ k_ ≠ s_.1 ∧ k_ ≠ s_.2) (.slice Ao68 t933.length co68) t933) ∧ (Kd.V (Kd.int .u32) 23 w' w.heap.size (fun k_ => k_ ≠ gb931 ∧ k_ ≠ gb932 ∧ k_ ≠ gb940 ∧ k_ ≠ gb941 ∧ k_ ≠ s_.1 ∧ k_ ≠ s_.2) (.slice Ao73 t936.length co73) t936) ∧ (w'.heap[gb931]? = some (.cells #[.slice Ao56 t925.length co56] 38 (0,0))) ∧ (w'.heap[gb932]? = some (.cells #[.slice Ao60 t928.length co60] 38 (0,0))) ∧ (w'.heap[gb940]? = some (.cells #[.slice Ao68 t933.length co68] 38 (0,0))) ∧ (w'.heap[gb941]? = some (.cells #[.slice Ao73 t936.length co73] 38 (0,0))) ∧ (w'.heap[s_.1]? = some (.cells #[.slice none 0 0] 38 (0,0))) ∧ (w'.heap[s_.2]? = some (.cells #[.slice none 0 0] 38 (0,0))) ∧ (w.heap.size ≤ s_.1) ∧ (w.heap.size ≤ s_.1) ∧ (gb931 ≠ s_.1) ∧ (s_.1 ≠ gb931) ∧ (gb932 ≠ s_.1) ∧ (s_.1 ≠ gb932) ∧ (gb940 ≠ s_.1) ∧ (s_.1 ≠ gb940) ∧ (gb941 ≠ s_.1) ∧ (s_.1 ≠ gb941) ∧ (s_.2 ≠ s_.1) ∧ (s_.1 ≠ s_.2) ∧ (w.heap.size ≤ s_.2) ∧ (w.heap.size ≤ s_.2) ∧ (gb931 ≠ s_.2) ∧ (s_.2 ≠ gb931) ∧ (gb932 ≠ s_.2) ∧ (s_.2 ≠ gb932) ∧ (gb940 ≠ s_.2) ∧ (s_.2 ≠ gb940) ∧ (gb941 ≠ s_.2) ∧ (s_.2 ≠ gb941) ∧ (Below w.heap.size w w')) ?_ ?_
               rotate_left
               ·intro hJ9_10
                refine join_ (σ:=Value) 10 #[true,true,true,true,false,false,false,false,false,false,false,false,false,false] (fun s_ => [(33,.agg #[s_])]) (fun s_ w' => (w'.cell? ⟨gb931,0,none⟩ = some (.slice Ao56 t925.length co56) ∧ w'.cell? ⟨gb932,0,none⟩ = some (.slice Ao60 t928.length co60)) ∧ (Kd.V (Kd.int .u32) 23 w' w.heap.size (fun k_ => k_ ≠ gb931 ∧ k_ ≠ gb932 ∧ k_ ≠ gb940 ∧ k_ ≠ gb941) (.slice Ao56 t925.length co56) t925) ∧ (Kd.V (Kd.int .u32) 23 w' w.heap.size (fun k_ => k_ ≠ gb931 ∧ k_ ≠ gb932 ∧ k_ ≠ gb940 ∧ k_ ≠ gb941) (.slice Ao60 t928.length co60) t928) ∧ (Kd.V (Kd.int .u32) 23 w' w.heap.size (fun k_ => k_ ≠ gb931 ∧ k_ ≠ gb932 ∧ k_ ≠ gb940 ∧ k_ ≠ gb941) (.slice Ao68 t933.length co68) t933) ∧ (Kd.V (Kd.int .u32) 23 w' w.heap.size (fun k_ => k_ ≠ gb931 ∧ k_ ≠ gb932 ∧ k_ ≠ gb940 ∧ k_ ≠ gb941) (.slice Ao73 t936.length co73) t936) ∧ (Kd.V (Kd.int .u32) 23 w' w.heap.size (fun k_ => k_ ≠ gb931 ∧ k_ ≠ gb932 ∧ k_ ≠ gb940 ∧ k_ ≠ gb941) s_ t943) ∧ (w'.heap[gb931]? = some (.cells #[.slice Ao56 t925.length co56] 38 (0,0))) ∧ (w'.heap[gb932]? = some (.cells #[.slice Ao60 t928.length co60] 38 (0,0))) ∧ (w'.heap[gb940]? = some (.cells #[.slice Ao68 t933.length co68] 38 (0,0))) ∧ (w'.heap[gb941]? = some (.cells #[.slice Ao73 t936.length co73] 38 (0,0))) ∧ (Below w.heap.size w w')) ?_ ?_
                rotate_left
                ·intro hJ2
                 refine join_ (σ:=Nat) 10 #[true,true,false,true,false,false,false,false,false,true,false,false,false,false] (fun s_ => [(10,.pointer (some ⟨s_,0,none⟩))]) (fun s_ w' => (w'.cell? ⟨gb931,0,none⟩ = some (.slice Ao56 t925.length co56) ∧ w'.cell? ⟨gb932,0,none⟩ = some (.slice Ao60 t928.length co60)) ∧ (Kd.V (Kd.int .u32) 23 w' w.heap.size (fun k_ => k_ ≠ gb931 ∧ k_ ≠ gb932 ∧ k_ ≠ gb940 ∧ k_ ≠ gb941 ∧ k_ ≠ s_) (.slice Ao56 t925.length co56) t925) ∧ (Kd.V (Kd.int .u32) 23 w' w.heap.size (fun k_ => k_ ≠ gb931 ∧ k_ ≠ gb932 ∧ k_ ≠ gb940 ∧ k_ ≠ gb941 ∧ k_ ≠ s_) (.slice Ao60 t928.length co60) t928) ∧ (Kd.V (Kd.int .u32) 23 w' w.heap.size (fun k_ => k_ ≠ gb931 ∧ k_ ≠ gb932 ∧ k_ ≠ gb940 ∧ k_ ≠ gb941 ∧ k_ ≠ s_) (.slice Ao68 t933.length co68) t933) ∧ (Kd.V (Kd.int .u32) 23 w' w.heap.size (fun k_ => k_ ≠ gb931 ∧ k_ ≠ gb932 ∧ k_ ≠ gb940 ∧ k_ ≠ gb941 ∧ k_ ≠ s_) (.slice Ao73 t936.length co73) t936) ∧ (w'.heap[gb931]? = some (.cells #[.slice Ao56 t925.length co56] 38 (0,0))) ∧ (w'.heap[gb932]? = some (.cells #[.slice Ao60 t928.length co60] 38 (0,0))) ∧ (w'.heap[gb940]? = some (.cells #[.slice Ao68 t933.length co68] 38 (0,0))) ∧ (w'.heap[gb941]? = some (.cells #[.slice Ao73 t936.length co73] 38 (0,0))) ∧ (w'.heap[s_]? = some (.cells #[.slice none 0 0] 38 (0,0))) ∧ (w.heap.size ≤ s_) ∧ (w.heap.size ≤ s_) ∧ (gb931 ≠ s_) ∧ (s_ ≠ gb931) ∧ (gb932 ≠ s_) ∧ (s_ ≠ gb932) ∧ (gb940 ≠ s_) ∧ (s_ ≠ gb940) ∧ (gb941 ≠ s_) ∧ (s_ ≠ gb941) ∧ (Below w.heap.size w w')) ?_ ?_
                 rotate_left
                 ·intro hJ9
                  refine join_ (σ:=Nat) 10 #[true,true,false,true,false,false,false,false,false,false,true,false,false,false] (fun s_ => [(11,.pointer (some ⟨s_,0,none⟩))]) (fun s_ w' => (w'.cell? ⟨gb931,0,none⟩ = some (.slice Ao56 t925.length co56) ∧ w'.cell? ⟨gb932,0,none⟩ = some (.slice Ao60 t928.length co60)) ∧ (Kd.V (Kd.int .u32) 23 w' w.heap.size (fun k_ => k_ ≠ gb931 ∧ k_ ≠ gb932 ∧ k_ ≠ gb940 ∧ k_ ≠ gb941 ∧ k_ ≠ s_) (.slice Ao56 t925.length co56) t925) ∧ (Kd.V (Kd.int .u32) 23 w' w.heap.size (fun k_ => k_ ≠ gb931 ∧ k_ ≠ gb932 ∧ k_ ≠ gb940 ∧ k_ ≠ gb941 ∧ k_ ≠ s_) (.slice Ao60 t928.length co60) t928) ∧ (Kd.V (Kd.int .u32) 23 w' w.heap.size (fun k_ => k_ ≠ gb931 ∧ k_ ≠ gb932 ∧ k_ ≠ gb940 ∧ k_ ≠ gb941 ∧ k_ ≠ s_) (.slice Ao68 t933.length co68) t933) ∧ (Kd.V (Kd.int .u32) 23 w' w.heap.size (fun k_ => k_ ≠ gb931 ∧ k_ ≠ gb932 ∧ k_ ≠ gb940 ∧ k_ ≠ gb941 ∧ k_ ≠ s_) (.slice Ao73 t936.length co73) t936) ∧ (w'.heap[gb931]? = some (.cells #[.slice Ao56 t925.length co56] 38 (0,0))) ∧ (w'.heap[gb932]? = some (.cells #[.slice Ao60 t928.length co60] 38 (0,0))) ∧ (w'.heap[gb940]? = some (.cells #[.slice Ao68 t933.length co68] 38 (0,0))) ∧ (w'.heap[gb941]? = some (.cells #[.slice Ao73 t936.length co73] 38 (0,0))) ∧ (w'.heap[s_]? = some (.cells #[.slice none 0 0] 38 (0,0))) ∧ (w.heap.size ≤ s_) ∧ (w.heap.size ≤ s_) ∧ (gb931 ≠ s_) ∧ (s_ ≠ gb931) ∧ (gb932 ≠ s_) ∧ (s_ ≠ gb932) ∧ (gb940 ≠ s_) ∧ (s_ ≠ gb940) ∧ (gb941 ≠ s_) ∧ (s_ ≠ gb941) ∧ (Below w.heap.size w w')) ?_ ?_
                  rotate_left
                  ·intro hJ10
                   refine three_ (i:=2) (j:=9) (k:=10) (Ni:=some 33) (Nj:=some 10) (Nk:=some 11) #[true,true,true,true,false,false,false,false,false,false,false,false,false,false] #[true,true,false,true,false,false,false,false,false,true,false,false,false,false] #[true,true,false,true,false,false,false,false,false,false,true,false,false,false] rfl rfl rfl rfl rfl rfl (three_of HT_.out (by kernel_rfl)) (by decide) (by decide) (by decide) (fun K hK => ?_) (fun K hK => ?_) (fun K hK => ?_)
                   ·skip
                    refine g_ Try.func57 #[.agg #[.slice Ao56 t925.length co56],.agg #[.slice Ao60 t928.length co60]] ?_
                    with_reducible refine (nat_Nat_Mul.calls k _ _ t925 _ _ t928 t943 _ ?side1 ?side2 ?side3 ?side4 A38.out).mono ?_
                    (case side1 => exact qCV HO927)
                    (case side2 => exact qL HO927)
                    (case side3 => exact qCV HO930)
                    (case side4 => exact qL HO930)
                    rintro e w80 ⟨v944,rfl,ho0,hb⟩
                    refine ⟨_,rfl,?_⟩
                    replace HO927:=qVb HO927 hb
                    replace HO930:=qVb HO930 hb
                    replace HO935:=qVb HO935 hb
                    replace HO938:=qVb HO938 hb
                    have HO945:=Aside0.mk (Kd.V_lower (Kd.V_mono (ok':=fun k_ => k_ ≠ gb931 ∧ k_ ≠ gb932 ∧ k_ ≠ gb940 ∧ k_ ≠ gb941) ho0 (fun k_ hk_ => ⟨(Kd.freshB (qB BK931.out) k_ hk_),(Kd.freshB (qB BK932.out) k_ hk_),(Kd.freshB (qB BK940.out) k_ hk_),(Kd.freshB (qB BK941.out) k_ hk_)⟩)) (below_size (qS HB)))
                    replace BK931:=qb BK931 hb
                    replace BK932:=qb BK932 hb
                    replace BK940:=qb BK940 hb
                    replace BK941:=qb BK941 hb
                    replace HB:=qs HB hb
                    clear hb ho0
                    refine hK.out _ _ ⟨bc BK931,bc BK932⟩ (fun hHeld => ?_)
                    clear hK K
                    refine qO 33 ?_
                    exact norm_ (by first|(simp only [putAll,Act.put,List.setIfInBounds_toArray,List.set_cons_zero,List.set_cons_succ];done)|(simp only [putAll,Act.put,List.setIfInBounds_toArray,List.set_cons_zero,List.set_cons_succ];rfl)) (hJ2 (v944) _ ⟨hHeld,(qVm HO927),(qVm HO930),(qVm HO935),(qVm HO938),(qVm HO945),(qB BK931.out),(qB BK932.out),(qB BK940.out),(qB BK941.out),(qS HB)⟩)
                   ·skip
                    refine box_step ?hg (N:=10) ?hd (cs:=#[.slice none 0 0]) (t:=38) ?hr ?_;(case hd => rfl);(case hg => rfl);(case hr => first|(go_simp;done)|(go_simp;rfl))
                    intro gb953 hg w80 hbox hb
                    replace HO927:=qVe HO927 hb hg
                    replace HO930:=qVe HO930 hb hg
                    replace HO935:=qVe HO935 hb hg
                    replace HO938:=qVe HO938 hb hg
                    have BK953:=Aside0.mk hbox
                    have GE953:=qh hg HB
                    replace HB:=qs HB hb
                    have NB931_953:=ql hg BK931
                    have NB953_931:=qg hg BK931
                    replace BK931:=qb BK931 hb
                    have NB932_953:=ql hg BK932
                    have NB953_932:=qg hg BK932
                    replace BK932:=qb BK932 hb
                    have NB940_953:=ql hg BK940
                    have NB953_940:=qg hg BK940
                    replace BK940:=qb BK940 hb
                    have NB941_953:=ql hg BK941
                    have NB953_941:=qg hg BK941
                    replace BK941:=qb BK941 hb
                    clear hb hbox hg
                    refine hK.out _ _ ⟨bc BK931,bc BK932⟩ (fun hHeld => ?_)
                    clear hK K
                    refine qO 10 ?_
                    exact norm_ (by first|(simp only [putAll,Act.put,List.setIfInBounds_toArray,List.set_cons_zero,List.set_cons_succ];done)|(simp only [putAll,Act.put,List.setIfInBounds_toArray,List.set_cons_zero,List.set_cons_succ];rfl)) (hJ9 (gb953) _ ⟨hHeld,(qVm HO927),(qVm HO930),(qVm HO935),(qVm HO938),(qB BK931.out),(qB BK932.out),(qB BK940.out),(qB BK941.out),(qB BK953.out),GE953.out,GE953.out,NB931_953.out,NB953_931.out,NB932_953.out,NB953_932.out,NB940_953.out,NB953_940.out,NB941_953.out,NB953_941.out,(qS HB)⟩)
                   ·skip
                    refine box_step ?hg (N:=11) ?hd (cs:=#[.slice none 0 0]) (t:=38) ?hr ?_;(case hd => rfl);(case hg => rfl);(case hr => first|(go_simp;done)|(go_simp;rfl))
                    intro gb954 hg w80 hbox hb
                    replace HO927:=qVe HO927 hb hg
                    replace HO930:=qVe HO930 hb hg
                    replace HO935:=qVe HO935 hb hg
                    replace HO938:=qVe HO938 hb hg
                    have BK954:=Aside0.mk hbox
                    have GE954:=qh hg HB
                    replace HB:=qs HB hb
                    have NB931_954:=ql hg BK931
                    have NB954_931:=qg hg BK931
                    replace BK931:=qb BK931 hb
                    have NB932_954:=ql hg BK932
                    have NB954_932:=qg hg BK932
                    replace BK932:=qb BK932 hb
                    have NB940_954:=ql hg BK940
                    have NB954_940:=qg hg BK940
                    replace BK940:=qb BK940 hb
                    have NB941_954:=ql hg BK941
                    have NB954_941:=qg hg BK941
                    replace BK941:=qb BK941 hb
                    clear hb hbox hg
                    refine hK.out _ _ ⟨bc BK931,bc BK932⟩ (fun hHeld => ?_)
                    clear hK K
                    refine qO 11 ?_
                    exact norm_ (by first|(simp only [putAll,Act.put,List.setIfInBounds_toArray,List.set_cons_zero,List.set_cons_succ];done)|(simp only [putAll,Act.put,List.setIfInBounds_toArray,List.set_cons_zero,List.set_cons_succ];rfl)) (hJ10 (gb954) _ ⟨hHeld,(qVm HO927),(qVm HO930),(qVm HO935),(qVm HO938),(qB BK931.out),(qB BK932.out),(qB BK940.out),(qB BK941.out),(qB BK954.out),GE954.out,GE954.out,NB931_954.out,NB954_931.out,NB932_954.out,NB954_932.out,NB940_954.out,NB954_940.out,NB941_954.out,NB954_941.out,(qS HB)⟩)
                  ·skip
                   rintro gb954 w81 ⟨hS_,h0_,h1_,h2_,h3_,h4_,h5_,h6_,h7_,h8_,h9_,h10_,h11_,h12_,h13_,h14_,h15_,h16_,h17_,h18_,h19_⟩
                   have n0_ : Aside0 (Kd.V (Kd.int .u32) 23 w81 w.heap.size (fun k_ => k_ ≠ gb931 ∧ k_ ≠ gb932 ∧ k_ ≠ gb940 ∧ k_ ≠ gb941 ∧ k_ ≠ gb954) (.slice Ao56 t925.length co56) t925):=⟨h0_⟩
                   have n1_ : Aside0 (Kd.V (Kd.int .u32) 23 w81 w.heap.size (fun k_ => k_ ≠ gb931 ∧ k_ ≠ gb932 ∧ k_ ≠ gb940 ∧ k_ ≠ gb941 ∧ k_ ≠ gb954) (.slice Ao60 t928.length co60) t928):=⟨h1_⟩
                   have n2_ : Aside0 (Kd.V (Kd.int .u32) 23 w81 w.heap.size (fun k_ => k_ ≠ gb931 ∧ k_ ≠ gb932 ∧ k_ ≠ gb940 ∧ k_ ≠ gb941 ∧ k_ ≠ gb954) (.slice Ao68 t933.length co68) t933):=⟨h2_⟩
                   have n3_ : Aside0 (Kd.V (Kd.int .u32) 23 w81 w.heap.size (fun k_ => k_ ≠ gb931 ∧ k_ ≠ gb932 ∧ k_ ≠ gb940 ∧ k_ ≠ gb941 ∧ k_ ≠ gb954) (.slice Ao73 t936.length co73) t936):=⟨h3_⟩
                   have n4_ : Aside0 (w81.heap[gb931]? = some (.cells #[.slice Ao56 t925.length co56] 38 (0,0))):=⟨h4_⟩
                   have n5_ : Aside0 (w81.heap[gb932]? = some (.cells #[.slice Ao60 t928.length co60] 38 (0,0))):=⟨h5_⟩
                   have n6_ : Aside0 (w81.heap[gb940]? = some (.cells #[.slice Ao68 t933.length co68] 38 (0,0))):=⟨h6_⟩
                   have n7_ : Aside0 (w81.heap[gb941]? = some (.cells #[.slice Ao73 t936.length co73] 38 (0,0))):=⟨h7_⟩
                   have n8_ : Aside0 (w81.heap[gb954]? = some (.cells #[.slice none 0 0] 38 (0,0))):=⟨h8_⟩
                   have n9_ : Aside0 (w.heap.size ≤ gb954):=⟨h9_⟩
                   have n10_ : Aside0 (w.heap.size ≤ gb954):=⟨h10_⟩
                   have n11_ : Aside0 (gb931 ≠ gb954):=⟨h11_⟩
                   have n12_ : Aside0 (gb954 ≠ gb931):=⟨h12_⟩
                   have n13_ : Aside0 (gb932 ≠ gb954):=⟨h13_⟩
                   have n14_ : Aside0 (gb954 ≠ gb932):=⟨h14_⟩
                   have n15_ : Aside0 (gb940 ≠ gb954):=⟨h15_⟩
                   have n16_ : Aside0 (gb954 ≠ gb940):=⟨h16_⟩
                   have n17_ : Aside0 (gb941 ≠ gb954):=⟨h17_⟩
                   have n18_ : Aside0 (gb954 ≠ gb941):=⟨h18_⟩
                   have n19_ : Aside0 (Below w.heap.size w w81):=⟨h19_⟩
                   clear HO927
                   clear HO930
                   clear HO935
                   clear HO938
                   clear BK931
                   clear BK932
                   clear BK940
                   clear BK941
                   clear HB
                   clear h0_ h1_ h2_ h3_ h4_ h5_ h6_ h7_ h8_ h9_ h10_ h11_ h12_ h13_ h14_ h15_ h16_ h17_ h18_ h19_
                   have HO927:=n0_
                   have HO930:=n1_
                   have HO935:=n2_
                   have HO938:=n3_
                   have BK931:=n4_
                   have BK932:=n5_
                   have BK940:=n6_
                   have BK941:=n7_
                   have BK954:=n8_
                   have GE954:=n9_
                   have GE954:=n10_
                   have NB931_954:=n11_
                   have NB954_931:=n12_
                   have NB932_954:=n13_
                   have NB954_932:=n14_
                   have NB940_954:=n15_
                   have NB954_940:=n16_
                   have NB941_954:=n17_
                   have NB954_941:=n18_
                   have HB:=n19_
                   clear n0_ n1_ n2_ n3_ n4_ n5_ n6_ n7_ n8_ n9_ n10_ n11_ n12_ n13_ n14_ n15_ n16_ n17_ n18_ n19_
                   have hHeld : w81.cell? ⟨gb931,0,none⟩ = some (.slice Ao56 t925.length co56) ∧ w81.cell? ⟨gb932,0,none⟩ = some (.slice Ao60 t928.length co60):=hS_
                   refine norm_ (a':=?_) ?_ ?_
                   rotate_left
                   ·simp only [putAll,Act.put,List.setIfInBounds_toArray,List.set_cons_zero,List.set_cons_succ]
                    rfl
                   refine q2 2 9 (some 33) (some 10) HT_ rfl rfl (fun K hK => ?_) (fun K hK => ?_)
                   ·skip
                    refine g_ Try.func57 #[.agg #[.slice Ao56 t925.length co56],.agg #[.slice Ao60 t928.length co60]] ?_
                    with_reducible refine (nat_Nat_Mul.calls k _ _ t925 _ _ t928 t943 _ ?side1 ?side2 ?side3 ?side4 A38.out).mono ?_
                    (case side1 => exact qCV HO927)
                    (case side2 => exact qL HO927)
                    (case side3 => exact qCV HO930)
                    (case side4 => exact qL HO930)
                    rintro e w82 ⟨v944,rfl,ho0,hb⟩
                    refine ⟨_,rfl,?_⟩
                    replace HO927:=qVb HO927 hb
                    replace HO930:=qVb HO930 hb
                    replace HO935:=qVb HO935 hb
                    replace HO938:=qVb HO938 hb
                    have HO945:=Aside0.mk (Kd.V_lower (Kd.V_mono (ok':=fun k_ => k_ ≠ gb931 ∧ k_ ≠ gb932 ∧ k_ ≠ gb940 ∧ k_ ≠ gb941 ∧ k_ ≠ gb954) ho0 (fun k_ hk_ => ⟨(Kd.freshB (qB BK931.out) k_ hk_),(Kd.freshB (qB BK932.out) k_ hk_),(Kd.freshB (qB BK940.out) k_ hk_),(Kd.freshB (qB BK941.out) k_ hk_),(Kd.freshB (qB BK954.out) k_ hk_)⟩)) (below_size (qS HB)))
                    replace BK931:=qb BK931 hb
                    replace BK932:=qb BK932 hb
                    replace BK940:=qb BK940 hb
                    replace BK941:=qb BK941 hb
                    replace BK954:=qb BK954 hb
                    replace HB:=qs HB hb
                    clear hb ho0
                    refine hK.out _ _ ⟨bc BK931,bc BK932⟩ (fun hHeld => ?_)
                    clear hK K
                    refine qO 33 ?_
                    exact norm_ (by first|(simp only [putAll,Act.put,List.setIfInBounds_toArray,List.set_cons_zero,List.set_cons_succ];done)|(simp only [putAll,Act.put,List.setIfInBounds_toArray,List.set_cons_zero,List.set_cons_succ];rfl)) (hJ2_10 (v944,gb954) _ ⟨hHeld,(qVm HO927),(qVm HO930),(qVm HO935),(qVm HO938),(qVm HO945),(qB BK931.out),(qB BK932.out),(qB BK940.out),(qB BK941.out),(qB BK954.out),GE954.out,GE954.out,NB931_954.out,NB954_931.out,NB932_954.out,NB954_932.out,NB940_954.out,NB954_940.out,NB941_954.out,NB954_941.out,(qS HB)⟩)
                   ·skip
                    refine box_step ?hg (N:=10) ?hd (cs:=#[.slice none 0 0]) (t:=38) ?hr ?_;(case hd => rfl);(case hg => rfl);(case hr => first|(go_simp;done)|(go_simp;rfl))
                    intro gb953 hg w82 hbox hb
                    replace HO927:=qVe HO927 hb hg
                    replace HO930:=qVe HO930 hb hg
                    replace HO935:=qVe HO935 hb hg
                    replace HO938:=qVe HO938 hb hg
                    have BK953:=Aside0.mk hbox
                    have GE953:=qh hg HB
                    replace HB:=qs HB hb
                    have NB931_953:=ql hg BK931
                    have NB953_931:=qg hg BK931
                    replace BK931:=qb BK931 hb
                    have NB932_953:=ql hg BK932
                    have NB953_932:=qg hg BK932
                    replace BK932:=qb BK932 hb
                    have NB940_953:=ql hg BK940
                    have NB953_940:=qg hg BK940
                    replace BK940:=qb BK940 hb
                    have NB941_953:=ql hg BK941
                    have NB953_941:=qg hg BK941
                    replace BK941:=qb BK941 hb
                    have NB954_953:=ql hg BK954
                    have NB953_954:=qg hg BK954
                    replace BK954:=qb BK954 hb
                    clear hb hbox hg
                    refine hK.out _ _ ⟨bc BK931,bc BK932⟩ (fun hHeld => ?_)
                    clear hK K
                    refine qO 10 ?_
                    exact norm_ (by first|(simp only [putAll,Act.put,List.setIfInBounds_toArray,List.set_cons_zero,List.set_cons_succ];done)|(simp only [putAll,Act.put,List.setIfInBounds_toArray,List.set_cons_zero,List.set_cons_succ];rfl)) (hJ9_10 (gb953,gb954) _ ⟨hHeld,(qVm HO927),(qVm HO930),(qVm HO935),(qVm HO938),(qB BK931.out),(qB BK932.out),(qB BK940.out),(qB BK941.out),(qB BK953.out),(qB BK954.out),GE953.out,GE953.out,NB931_953.out,NB953_931.out,NB932_953.out,NB953_932.out,NB940_953.out,NB953_940.out,NB941_953.out,NB953_941.out,NB954_953.out,NB953_954.out,GE954.out,GE954.out,NB931_954.out,NB954_931.out,NB932_954.out,NB954_932.out,NB940_954.out,NB954_940.out,NB941_954.out,NB954_941.out,(qS HB)⟩)
                 ·skip
                  rintro gb953 w81 ⟨hS_,h0_,h1_,h2_,h3_,h4_,h5_,h6_,h7_,h8_,h9_,h10_,h11_,h12_,h13_,h14_,h15_,h16_,h17_,h18_,h19_⟩
                  have n0_ : Aside0 (Kd.V (Kd.int .u32) 23 w81 w.heap.size (fun k_ => k_ ≠ gb931 ∧ k_ ≠ gb932 ∧ k_ ≠ gb940 ∧ k_ ≠ gb941 ∧ k_ ≠ gb953) (.slice Ao56 t925.length co56) t925):=⟨h0_⟩
                  have n1_ : Aside0 (Kd.V (Kd.int .u32) 23 w81 w.heap.size (fun k_ => k_ ≠ gb931 ∧ k_ ≠ gb932 ∧ k_ ≠ gb940 ∧ k_ ≠ gb941 ∧ k_ ≠ gb953) (.slice Ao60 t928.length co60) t928):=⟨h1_⟩
                  have n2_ : Aside0 (Kd.V (Kd.int .u32) 23 w81 w.heap.size (fun k_ => k_ ≠ gb931 ∧ k_ ≠ gb932 ∧ k_ ≠ gb940 ∧ k_ ≠ gb941 ∧ k_ ≠ gb953) (.slice Ao68 t933.length co68) t933):=⟨h2_⟩
                  have n3_ : Aside0 (Kd.V (Kd.int .u32) 23 w81 w.heap.size (fun k_ => k_ ≠ gb931 ∧ k_ ≠ gb932 ∧ k_ ≠ gb940 ∧ k_ ≠ gb941 ∧ k_ ≠ gb953) (.slice Ao73 t936.length co73) t936):=⟨h3_⟩
                  have n4_ : Aside0 (w81.heap[gb931]? = some (.cells #[.slice Ao56 t925.length co56] 38 (0,0))):=⟨h4_⟩
                  have n5_ : Aside0 (w81.heap[gb932]? = some (.cells #[.slice Ao60 t928.length co60] 38 (0,0))):=⟨h5_⟩
                  have n6_ : Aside0 (w81.heap[gb940]? = some (.cells #[.slice Ao68 t933.length co68] 38 (0,0))):=⟨h6_⟩
                  have n7_ : Aside0 (w81.heap[gb941]? = some (.cells #[.slice Ao73 t936.length co73] 38 (0,0))):=⟨h7_⟩
                  have n8_ : Aside0 (w81.heap[gb953]? = some (.cells #[.slice none 0 0] 38 (0,0))):=⟨h8_⟩
                  have n9_ : Aside0 (w.heap.size ≤ gb953):=⟨h9_⟩
                  have n10_ : Aside0 (w.heap.size ≤ gb953):=⟨h10_⟩
                  have n11_ : Aside0 (gb931 ≠ gb953):=⟨h11_⟩
                  have n12_ : Aside0 (gb953 ≠ gb931):=⟨h12_⟩
                  have n13_ : Aside0 (gb932 ≠ gb953):=⟨h13_⟩
                  have n14_ : Aside0 (gb953 ≠ gb932):=⟨h14_⟩
                  have n15_ : Aside0 (gb940 ≠ gb953):=⟨h15_⟩
                  have n16_ : Aside0 (gb953 ≠ gb940):=⟨h16_⟩
                  have n17_ : Aside0 (gb941 ≠ gb953):=⟨h17_⟩
                  have n18_ : Aside0 (gb953 ≠ gb941):=⟨h18_⟩
                  have n19_ : Aside0 (Below w.heap.size w w81):=⟨h19_⟩
                  clear HO927
                  clear HO930
                  clear HO935
                  clear HO938
                  clear BK931
                  clear BK932
                  clear BK940
                  clear BK941
                  clear HB
                  clear h0_ h1_ h2_ h3_ h4_ h5_ h6_ h7_ h8_ h9_ h10_ h11_ h12_ h13_ h14_ h15_ h16_ h17_ h18_ h19_
                  have HO927:=n0_
                  have HO930:=n1_
                  have HO935:=n2_
                  have HO938:=n3_
                  have BK931:=n4_
                  have BK932:=n5_
                  have BK940:=n6_
                  have BK941:=n7_
                  have BK953:=n8_
                  have GE953:=n9_
                  have GE953:=n10_
                  have NB931_953:=n11_
                  have NB953_931:=n12_
                  have NB932_953:=n13_
                  have NB953_932:=n14_
                  have NB940_953:=n15_
                  have NB953_940:=n16_
                  have NB941_953:=n17_
                  have NB953_941:=n18_
                  have HB:=n19_
                  clear n0_ n1_ n2_ n3_ n4_ n5_ n6_ n7_ n8_ n9_ n10_ n11_ n12_ n13_ n14_ n15_ n16_ n17_ n18_ n19_
                  have hHeld : w81.cell? ⟨gb931,0,none⟩ = some (.slice Ao56 t925.length co56) ∧ w81.cell? ⟨gb932,0,none⟩ = some (.slice Ao60 t928.length co60):=hS_
                  refine norm_ (a':=?_) ?_ ?_
                  rotate_left
                  ·simp only [putAll,Act.put,List.setIfInBounds_toArray,List.set_cons_zero,List.set_cons_succ]
                   rfl
                  refine q2 2 10 (some 33) (some 11) HT_ rfl rfl (fun K hK => ?_) (fun K hK => ?_)
                  ·skip
                   refine g_ Try.func57 #[.agg #[.slice Ao56 t925.length co56],.agg #[.slice Ao60 t928.length co60]] ?_
                   with_reducible refine (nat_Nat_Mul.calls k _ _ t925 _ _ t928 t943 _ ?side1 ?side2 ?side3 ?side4 A38.out).mono ?_
                   (case side1 => exact qCV HO927)
                   (case side2 => exact qL HO927)
                   (case side3 => exact qCV HO930)
                   (case side4 => exact qL HO930)
                   rintro e w82 ⟨v944,rfl,ho0,hb⟩
                   refine ⟨_,rfl,?_⟩
                   replace HO927:=qVb HO927 hb
                   replace HO930:=qVb HO930 hb
                   replace HO935:=qVb HO935 hb
                   replace HO938:=qVb HO938 hb
                   have HO945:=Aside0.mk (Kd.V_lower (Kd.V_mono (ok':=fun k_ => k_ ≠ gb931 ∧ k_ ≠ gb932 ∧ k_ ≠ gb940 ∧ k_ ≠ gb941 ∧ k_ ≠ gb953) ho0 (fun k_ hk_ => ⟨(Kd.freshB (qB BK931.out) k_ hk_),(Kd.freshB (qB BK932.out) k_ hk_),(Kd.freshB (qB BK940.out) k_ hk_),(Kd.freshB (qB BK941.out) k_ hk_),(Kd.freshB (qB BK953.out) k_ hk_)⟩)) (below_size (qS HB)))
                   replace BK931:=qb BK931 hb
                   replace BK932:=qb BK932 hb
                   replace BK940:=qb BK940 hb
                   replace BK941:=qb BK941 hb
                   replace BK953:=qb BK953 hb
                   replace HB:=qs HB hb
                   clear hb ho0
                   refine hK.out _ _ ⟨bc BK931,bc BK932⟩ (fun hHeld => ?_)
                   clear hK K
                   refine qO 33 ?_
                   exact norm_ (by first|(simp only [putAll,Act.put,List.setIfInBounds_toArray,List.set_cons_zero,List.set_cons_succ];done)|(simp only [putAll,Act.put,List.setIfInBounds_toArray,List.set_cons_zero,List.set_cons_succ];rfl)) (hJ2_9 (v944,gb953) _ ⟨hHeld,(qVm HO927),(qVm HO930),(qVm HO935),(qVm HO938),(qVm HO945),(qB BK931.out),(qB BK932.out),(qB BK940.out),(qB BK941.out),(qB BK953.out),GE953.out,GE953.out,NB931_953.out,NB953_931.out,NB932_953.out,NB953_932.out,NB940_953.out,NB953_940.out,NB941_953.out,NB953_941.out,(qS HB)⟩)
                  ·skip
                   refine box_step ?hg (N:=11) ?hd (cs:=#[.slice none 0 0]) (t:=38) ?hr ?_;(case hd => rfl);(case hg => rfl);(case hr => first|(go_simp;done)|(go_simp;rfl))
                   intro gb954 hg w82 hbox hb
                   replace HO927:=qVe HO927 hb hg
                   replace HO930:=qVe HO930 hb hg
                   replace HO935:=qVe HO935 hb hg
                   replace HO938:=qVe HO938 hb hg
                   have BK954:=Aside0.mk hbox
                   have GE954:=qh hg HB
                   replace HB:=qs HB hb
                   have NB931_954:=ql hg BK931
                   have NB954_931:=qg hg BK931
                   replace BK931:=qb BK931 hb
                   have NB932_954:=ql hg BK932
                   have NB954_932:=qg hg BK932
                   replace BK932:=qb BK932 hb
                   have NB940_954:=ql hg BK940
                   have NB954_940:=qg hg BK940
                   replace BK940:=qb BK940 hb
                   have NB941_954:=ql hg BK941
                   have NB954_941:=qg hg BK941
                   replace BK941:=qb BK941 hb
                   have NB953_954:=ql hg BK953
                   have NB954_953:=qg hg BK953
                   replace BK953:=qb BK953 hb
                   clear hb hbox hg
                   refine hK.out _ _ ⟨bc BK931,bc BK932⟩ (fun hHeld => ?_)
                   clear hK K
                   refine qO 11 ?_
                   exact norm_ (by first|(simp only [putAll,Act.put,List.setIfInBounds_toArray,List.set_cons_zero,List.set_cons_succ];done)|(simp only [putAll,Act.put,List.setIfInBounds_toArray,List.set_cons_zero,List.set_cons_succ];rfl)) (hJ9_10 (gb953,gb954) _ ⟨hHeld,(qVm HO927),(qVm HO930),(qVm HO935),(qVm HO938),(qB BK931.out),(qB BK932.out),(qB BK940.out),(qB BK941.out),(qB BK953.out),(qB BK954.out),GE953.out,GE953.out,NB931_953.out,NB953_931.out,NB932_953.out,NB953_932.out,NB940_953.out,NB953_940.out,NB941_953.out,NB953_941.out,NB954_953.out,NB953_954.out,GE954.out,GE954.out,NB931_954.out,NB954_931.out,NB932_954.out,NB954_932.out,NB940_954.out,NB954_940.out,NB941_954.out,NB954_941.out,(qS HB)⟩)
                ·skip
                 rintro v944 w81 ⟨hS_,h0_,h1_,h2_,h3_,h4_,h5_,h6_,h7_,h8_,h9_⟩
                 have n0_ : Aside0 (Kd.V (Kd.int .u32) 23 w81 w.heap.size (fun k_ => k_ ≠ gb931 ∧ k_ ≠ gb932 ∧ k_ ≠ gb940 ∧ k_ ≠ gb941) (.slice Ao56 t925.length co56) t925):=⟨h0_⟩
                 have n1_ : Aside0 (Kd.V (Kd.int .u32) 23 w81 w.heap.size (fun k_ => k_ ≠ gb931 ∧ k_ ≠ gb932 ∧ k_ ≠ gb940 ∧ k_ ≠ gb941) (.slice Ao60 t928.length co60) t928):=⟨h1_⟩
                 have n2_ : Aside0 (Kd.V (Kd.int .u32) 23 w81 w.heap.size (fun k_ => k_ ≠ gb931 ∧ k_ ≠ gb932 ∧ k_ ≠ gb940 ∧ k_ ≠ gb941) (.slice Ao68 t933.length co68) t933):=⟨h2_⟩
                 have n3_ : Aside0 (Kd.V (Kd.int .u32) 23 w81 w.heap.size (fun k_ => k_ ≠ gb931 ∧ k_ ≠ gb932 ∧ k_ ≠ gb940 ∧ k_ ≠ gb941) (.slice Ao73 t936.length co73) t936):=⟨h3_⟩
                 have n4_ : Aside0 (Kd.V (Kd.int .u32) 23 w81 w.heap.size (fun k_ => k_ ≠ gb931 ∧ k_ ≠ gb932 ∧ k_ ≠ gb940 ∧ k_ ≠ gb941) v944 t943):=⟨h4_⟩
                 have n5_ : Aside0 (w81.heap[gb931]? = some (.cells #[.slice Ao56 t925.length co56] 38 (0,0))):=⟨h5_⟩
                 have n6_ : Aside0 (w81.heap[gb932]? = some (.cells #[.slice Ao60 t928.length co60] 38 (0,0))):=⟨h6_⟩
                 have n7_ : Aside0 (w81.heap[gb940]? = some (.cells #[.slice Ao68 t933.length co68] 38 (0,0))):=⟨h7_⟩
                 have n8_ : Aside0 (w81.heap[gb941]? = some (.cells #[.slice Ao73 t936.length co73] 38 (0,0))):=⟨h8_⟩
                 have n9_ : Aside0 (Below w.heap.size w w81):=⟨h9_⟩
                 clear HO927
                 clear HO930
                 clear HO935
                 clear HO938
                 clear BK931
                 clear BK932
                 clear BK940
                 clear BK941
                 clear HB
                 clear h0_ h1_ h2_ h3_ h4_ h5_ h6_ h7_ h8_ h9_
                 have HO927:=n0_
                 have HO930:=n1_
                 have HO935:=n2_
                 have HO938:=n3_
                 have HO945:=n4_
                 have BK931:=n5_
                 have BK932:=n6_
                 have BK940:=n7_
                 have BK941:=n8_
                 have HB:=n9_
                 clear n0_ n1_ n2_ n3_ n4_ n5_ n6_ n7_ n8_ n9_
                 have hHeld : w81.cell? ⟨gb931,0,none⟩ = some (.slice Ao56 t925.length co56) ∧ w81.cell? ⟨gb932,0,none⟩ = some (.slice Ao60 t928.length co60):=hS_
                 obtain ⟨Ao82,co82,eo82⟩:=Kd.V_slice HO945.out
                 (first|subst eo82|(injection eo82 with f1_ f2_ f3_;have f4_:=f1_.symm;have f5_:=f3_.symm;clear f1_ f2_ f3_;subst f4_;subst f5_))
                 refine norm_ (a':=?_) ?_ ?_
                 rotate_left
                 ·simp only [putAll,Act.put,List.setIfInBounds_toArray,List.set_cons_zero,List.set_cons_succ]
                  rfl
                 refine three_ (i:=4) (j:=9) (k:=10) (Ni:=some 35) (Nj:=some 10) (Nk:=some 11) #[true,true,true,true,true,false,false,false,false,false,false,false,false,false] #[true,true,true,true,false,false,false,false,false,true,false,false,false,false] #[true,true,true,true,false,false,false,false,false,false,true,false,false,false] rfl rfl rfl rfl rfl rfl (three_of HT_.out (by kernel_rfl)) (by decide) (by decide) (by decide) (fun K hK => ?_) (fun K hK => ?_) (fun K hK => ?_)
                 ·skip
                  refine g_ Try.func53 #[.agg #[.slice Ao82 t943.length co82],.agg #[.slice Ao60 t928.length co60]] ?_
                  with_reducible refine (nat_Nat_Div.calls k (fun k_ => (k_ ≠ gb931 ∧ (k_ ≠ gb932 ∧ (k_ ≠ gb940 ∧ k_ ≠ gb941)))) _ _ t943 _ _ t928 t946 t949 t952 _ ?side1 ?side2 ?side3 A39.out).mono ?_
                  (case side1 => first|exact HO945.out|exact qVm HO945)
                  (case side2 => exact qCV HO930)
                  (case side3 => exact qL HO930)
                  rintro e w83 ⟨v947,v950,rfl,ho0,ho1,hb⟩
                  refine ⟨_,rfl,?_⟩
                  replace HO927:=qVb HO927 hb
                  replace HO930:=qVb HO930 hb
                  replace HO935:=qVb HO935 hb
                  replace HO938:=qVb HO938 hb
                  replace HO945:=qVb HO945 hb
                  have HO948:=Aside0.mk (Kd.V_lower (Kd.V_mono (ok':=fun k_ => k_ ≠ gb931 ∧ k_ ≠ gb932 ∧ k_ ≠ gb940 ∧ k_ ≠ gb941) ho0 (fun k_ hk_ => ⟨Or.elim hk_ (fun hs_ => hs_.1) (fun hn_ => (Kd.freshB (qB BK931.out) k_ hn_)),Or.elim hk_ (fun hs_ => hs_.2.1) (fun hn_ => (Kd.freshB (qB BK932.out) k_ hn_)),Or.elim hk_ (fun hs_ => hs_.2.2.1) (fun hn_ => (Kd.freshB (qB BK940.out) k_ hn_)),Or.elim hk_ (fun hs_ => hs_.2.2.2) (fun hn_ => (Kd.freshB (qB BK941.out) k_ hn_))⟩)) (below_size (qS HB)))
                  have HO951:=Aside0.mk (Kd.V_lower (Kd.V_mono (ok':=fun k_ => k_ ≠ gb931 ∧ k_ ≠ gb932 ∧ k_ ≠ gb940 ∧ k_ ≠ gb941) ho1 (fun k_ hk_ => ⟨Or.elim hk_ (fun hs_ => hs_.1) (fun hn_ => (Kd.freshB (qB BK931.out) k_ hn_)),Or.elim hk_ (fun hs_ => hs_.2.1) (fun hn_ => (Kd.freshB (qB BK932.out) k_ hn_)),Or.elim hk_ (fun hs_ => hs_.2.2.1) (fun hn_ => (Kd.freshB (qB BK940.out) k_ hn_)),Or.elim hk_ (fun hs_ => hs_.2.2.2) (fun hn_ => (Kd.freshB (qB BK941.out) k_ hn_))⟩)) (below_size (qS HB)))
                  replace BK931:=qb BK931 hb
                  replace BK932:=qb BK932 hb
                  replace BK940:=qb BK940 hb
                  replace BK941:=qb BK941 hb
                  replace HB:=qs HB hb
                  clear hb ho0 ho1
                  refine hK.out _ _ ⟨bc BK931,bc BK932⟩ (fun hHeld => ?_)
                  clear hK K
                  refine qO 35 ?_
                  refine qP 5 30 HT_ ?_
                  refine qP 6 36 HT_ ?_
                  refine qP 7 37 HT_ ?_
                  refine qP 8 38 HT_ ?_
                  exact norm_ (by first|(simp only [putAll,Act.put,List.setIfInBounds_toArray,List.set_cons_zero,List.set_cons_succ];done)|(simp only [putAll,Act.put,List.setIfInBounds_toArray,List.set_cons_zero,List.set_cons_succ];rfl)) (hJ2_4 (.slice Ao82 t943.length co82,v947,v950) _ ⟨hHeld,(qVm HO927),(qVm HO930),(qVm HO935),(qVm HO938),(qVm HO945),(qVm HO948),(qVm HO951),(qB BK931.out),(qB BK932.out),(qB BK940.out),(qB BK941.out),(qS HB)⟩)
                 ·skip
                  refine box_step ?hg (N:=10) ?hd (cs:=#[.slice none 0 0]) (t:=38) ?hr ?_;(case hd => rfl);(case hg => rfl);(case hr => first|(go_simp;done)|(go_simp;rfl))
                  intro gb953 hg w82 hbox hb
                  replace HO927:=qVe HO927 hb hg
                  replace HO930:=qVe HO930 hb hg
                  replace HO935:=qVe HO935 hb hg
                  replace HO938:=qVe HO938 hb hg
                  replace HO945:=qVe HO945 hb hg
                  have BK953:=Aside0.mk hbox
                  have GE953:=qh hg HB
                  replace HB:=qs HB hb
                  have NB931_953:=ql hg BK931
                  have NB953_931:=qg hg BK931
                  replace BK931:=qb BK931 hb
                  have NB932_953:=ql hg BK932
                  have NB953_932:=qg hg BK932
                  replace BK932:=qb BK932 hb
                  have NB940_953:=ql hg BK940
                  have NB953_940:=qg hg BK940
                  replace BK940:=qb BK940 hb
                  have NB941_953:=ql hg BK941
                  have NB953_941:=qg hg BK941
                  replace BK941:=qb BK941 hb
                  clear hb hbox hg
                  refine hK.out _ _ ⟨bc BK931,bc BK932⟩ (fun hHeld => ?_)
                  clear hK K
                  refine qO 10 ?_
                  exact norm_ (by first|(simp only [putAll,Act.put,List.setIfInBounds_toArray,List.set_cons_zero,List.set_cons_succ];done)|(simp only [putAll,Act.put,List.setIfInBounds_toArray,List.set_cons_zero,List.set_cons_succ];rfl)) (hJ2_9 ((.slice Ao82 t943.length co82),gb953) _ ⟨hHeld,(qVm HO927),(qVm HO930),(qVm HO935),(qVm HO938),(qVm HO945),(qB BK931.out),(qB BK932.out),(qB BK940.out),(qB BK941.out),(qB BK953.out),GE953.out,GE953.out,NB931_953.out,NB953_931.out,NB932_953.out,NB953_932.out,NB940_953.out,NB953_940.out,NB941_953.out,NB953_941.out,(qS HB)⟩)
                 ·skip
                  refine box_step ?hg (N:=11) ?hd (cs:=#[.slice none 0 0]) (t:=38) ?hr ?_;(case hd => rfl);(case hg => rfl);(case hr => first|(go_simp;done)|(go_simp;rfl))
                  intro gb954 hg w82 hbox hb
                  replace HO927:=qVe HO927 hb hg
                  replace HO930:=qVe HO930 hb hg
                  replace HO935:=qVe HO935 hb hg
                  replace HO938:=qVe HO938 hb hg
                  replace HO945:=qVe HO945 hb hg
                  have BK954:=Aside0.mk hbox
                  have GE954:=qh hg HB
                  replace HB:=qs HB hb
                  have NB931_954:=ql hg BK931
                  have NB954_931:=qg hg BK931
                  replace BK931:=qb BK931 hb
                  have NB932_954:=ql hg BK932
                  have NB954_932:=qg hg BK932
                  replace BK932:=qb BK932 hb
                  have NB940_954:=ql hg BK940
                  have NB954_940:=qg hg BK940
                  replace BK940:=qb BK940 hb
                  have NB941_954:=ql hg BK941
                  have NB954_941:=qg hg BK941
                  replace BK941:=qb BK941 hb
                  clear hb hbox hg
                  refine hK.out _ _ ⟨bc BK931,bc BK932⟩ (fun hHeld => ?_)
                  clear hK K
                  refine qO 11 ?_
                  exact norm_ (by first|(simp only [putAll,Act.put,List.setIfInBounds_toArray,List.set_cons_zero,List.set_cons_succ];done)|(simp only [putAll,Act.put,List.setIfInBounds_toArray,List.set_cons_zero,List.set_cons_succ];rfl)) (hJ2_10 ((.slice Ao82 t943.length co82),gb954) _ ⟨hHeld,(qVm HO927),(qVm HO930),(qVm HO935),(qVm HO938),(qVm HO945),(qB BK931.out),(qB BK932.out),(qB BK940.out),(qB BK941.out),(qB BK954.out),GE954.out,GE954.out,NB931_954.out,NB954_931.out,NB932_954.out,NB954_932.out,NB940_954.out,NB954_940.out,NB941_954.out,NB954_941.out,(qS HB)⟩)
               ·skip
                rintro ⟨gb953,gb954⟩ w82 ⟨hS_,h0_,h1_,h2_,h3_,h4_,h5_,h6_,h7_,h8_,h9_,h10_,h11_,h12_,h13_,h14_,h15_,h16_,h17_,h18_,h19_,h20_,h21_,h22_,h23_,h24_,h25_,h26_,h27_,h28_,h29_,h30_,h31_,h32_⟩
                have n0_ : Aside0 (Kd.V (Kd.int .u32) 23 w82 w.heap.size (fun k_ => k_ ≠ gb931 ∧ k_ ≠ gb932 ∧ k_ ≠ gb940 ∧ k_ ≠ gb941 ∧ k_ ≠ gb953 ∧ k_ ≠ gb954) (.slice Ao56 t925.length co56) t925):=⟨h0_⟩
                have n1_ : Aside0 (Kd.V (Kd.int .u32) 23 w82 w.heap.size (fun k_ => k_ ≠ gb931 ∧ k_ ≠ gb932 ∧ k_ ≠ gb940 ∧ k_ ≠ gb941 ∧ k_ ≠ gb953 ∧ k_ ≠ gb954) (.slice Ao60 t928.length co60) t928):=⟨h1_⟩
                have n2_ : Aside0 (Kd.V (Kd.int .u32) 23 w82 w.heap.size (fun k_ => k_ ≠ gb931 ∧ k_ ≠ gb932 ∧ k_ ≠ gb940 ∧ k_ ≠ gb941 ∧ k_ ≠ gb953 ∧ k_ ≠ gb954) (.slice Ao68 t933.length co68) t933):=⟨h2_⟩
                have n3_ : Aside0 (Kd.V (Kd.int .u32) 23 w82 w.heap.size (fun k_ => k_ ≠ gb931 ∧ k_ ≠ gb932 ∧ k_ ≠ gb940 ∧ k_ ≠ gb941 ∧ k_ ≠ gb953 ∧ k_ ≠ gb954) (.slice Ao73 t936.length co73) t936):=⟨h3_⟩
                have n4_ : Aside0 (w82.heap[gb931]? = some (.cells #[.slice Ao56 t925.length co56] 38 (0,0))):=⟨h4_⟩
                have n5_ : Aside0 (w82.heap[gb932]? = some (.cells #[.slice Ao60 t928.length co60] 38 (0,0))):=⟨h5_⟩
                have n6_ : Aside0 (w82.heap[gb940]? = some (.cells #[.slice Ao68 t933.length co68] 38 (0,0))):=⟨h6_⟩
                have n7_ : Aside0 (w82.heap[gb941]? = some (.cells #[.slice Ao73 t936.length co73] 38 (0,0))):=⟨h7_⟩
                have n8_ : Aside0 (w82.heap[gb953]? = some (.cells #[.slice none 0 0] 38 (0,0))):=⟨h8_⟩
                have n9_ : Aside0 (w82.heap[gb954]? = some (.cells #[.slice none 0 0] 38 (0,0))):=⟨h9_⟩
                have n10_ : Aside0 (w.heap.size ≤ gb953):=⟨h10_⟩
                have n11_ : Aside0 (w.heap.size ≤ gb953):=⟨h11_⟩
                have n12_ : Aside0 (gb931 ≠ gb953):=⟨h12_⟩
                have n13_ : Aside0 (gb953 ≠ gb931):=⟨h13_⟩
                have n14_ : Aside0 (gb932 ≠ gb953):=⟨h14_⟩
                have n15_ : Aside0 (gb953 ≠ gb932):=⟨h15_⟩
                have n16_ : Aside0 (gb940 ≠ gb953):=⟨h16_⟩
                have n17_ : Aside0 (gb953 ≠ gb940):=⟨h17_⟩
                have n18_ : Aside0 (gb941 ≠ gb953):=⟨h18_⟩
                have n19_ : Aside0 (gb953 ≠ gb941):=⟨h19_⟩
                have n20_ : Aside0 (gb954 ≠ gb953):=⟨h20_⟩
                have n21_ : Aside0 (gb953 ≠ gb954):=⟨h21_⟩
                have n22_ : Aside0 (w.heap.size ≤ gb954):=⟨h22_⟩
                have n23_ : Aside0 (w.heap.size ≤ gb954):=⟨h23_⟩
                have n24_ : Aside0 (gb931 ≠ gb954):=⟨h24_⟩
                have n25_ : Aside0 (gb954 ≠ gb931):=⟨h25_⟩
                have n26_ : Aside0 (gb932 ≠ gb954):=⟨h26_⟩
                have n27_ : Aside0 (gb954 ≠ gb932):=⟨h27_⟩
                have n28_ : Aside0 (gb940 ≠ gb954):=⟨h28_⟩
                have n29_ : Aside0 (gb954 ≠ gb940):=⟨h29_⟩
                have n30_ : Aside0 (gb941 ≠ gb954):=⟨h30_⟩
                have n31_ : Aside0 (gb954 ≠ gb941):=⟨h31_⟩
                have n32_ : Aside0 (Below w.heap.size w w82):=⟨h32_⟩
                clear HO927
                clear HO930
                clear HO935
                clear HO938
                clear BK931
                clear BK932
                clear BK940
                clear BK941
                clear HB
                clear h0_ h1_ h2_ h3_ h4_ h5_ h6_ h7_ h8_ h9_ h10_ h11_ h12_ h13_ h14_ h15_ h16_ h17_ h18_ h19_ h20_ h21_ h22_ h23_ h24_ h25_ h26_ h27_ h28_ h29_ h30_ h31_ h32_
                have HO927:=n0_
                have HO930:=n1_
                have HO935:=n2_
                have HO938:=n3_
                have BK931:=n4_
                have BK932:=n5_
                have BK940:=n6_
                have BK941:=n7_
                have BK953:=n8_
                have BK954:=n9_
                have GE953:=n10_
                have GE953:=n11_
                have NB931_953:=n12_
                have NB953_931:=n13_
                have NB932_953:=n14_
                have NB953_932:=n15_
                have NB940_953:=n16_
                have NB953_940:=n17_
                have NB941_953:=n18_
                have NB953_941:=n19_
                have NB954_953:=n20_
                have NB953_954:=n21_
                have GE954:=n22_
                have GE954:=n23_
                have NB931_954:=n24_
                have NB954_931:=n25_
                have NB932_954:=n26_
                have NB954_932:=n27_
                have NB940_954:=n28_
                have NB954_940:=n29_
                have NB941_954:=n30_
                have NB954_941:=n31_
                have HB:=n32_
                clear n0_ n1_ n2_ n3_ n4_ n5_ n6_ n7_ n8_ n9_ n10_ n11_ n12_ n13_ n14_ n15_ n16_ n17_ n18_ n19_ n20_ n21_ n22_ n23_ n24_ n25_ n26_ n27_ n28_ n29_ n30_ n31_ n32_
                have hHeld : w82.cell? ⟨gb931,0,none⟩ = some (.slice Ao56 t925.length co56) ∧ w82.cell? ⟨gb932,0,none⟩ = some (.slice Ao60 t928.length co60):=hS_
                refine norm_ (a':=?_) ?_ ?_
                rotate_left
                ·simp only [putAll,Act.put,List.setIfInBounds_toArray,List.set_cons_zero,List.set_cons_succ]
                 rfl
                refine q1 2 (some 33) HT_ rfl (fun K hK => ?_)
                refine g_ Try.func57 #[.agg #[.slice Ao56 t925.length co56],.agg #[.slice Ao60 t928.length co60]] ?_
                with_reducible refine (nat_Nat_Mul.calls k _ _ t925 _ _ t928 t943 _ ?side1 ?side2 ?side3 ?side4 A38.out).mono ?_
                (case side1 => exact qCV HO927)
                (case side2 => exact qL HO927)
                (case side3 => exact qCV HO930)
                (case side4 => exact qL HO930)
                rintro e w83 ⟨v944,rfl,ho0,hb⟩
                refine ⟨_,rfl,?_⟩
                replace HO927:=qVb HO927 hb
                replace HO930:=qVb HO930 hb
                replace HO935:=qVb HO935 hb
                replace HO938:=qVb HO938 hb
                have HO945:=Aside0.mk (Kd.V_lower (Kd.V_mono (ok':=fun k_ => k_ ≠ gb931 ∧ k_ ≠ gb932 ∧ k_ ≠ gb940 ∧ k_ ≠ gb941 ∧ k_ ≠ gb953 ∧ k_ ≠ gb954) ho0 (fun k_ hk_ => ⟨(Kd.freshB (qB BK931.out) k_ hk_),(Kd.freshB (qB BK932.out) k_ hk_),(Kd.freshB (qB BK940.out) k_ hk_),(Kd.freshB (qB BK941.out) k_ hk_),(Kd.freshB (qB BK953.out) k_ hk_),(Kd.freshB (qB BK954.out) k_ hk_)⟩)) (below_size (qS HB)))
                replace BK931:=qb BK931 hb
                replace BK932:=qb BK932 hb
                replace BK940:=qb BK940 hb
                replace BK941:=qb BK941 hb
                replace BK953:=qb BK953 hb
                replace BK954:=qb BK954 hb
                replace HB:=qs HB hb
                clear hb ho0
                refine hK.out _ _ ⟨bc BK931,bc BK932⟩ (fun hHeld => ?_)
                clear hK K
                refine qO 33 ?_
                exact norm_ (by first|(simp only [putAll,Act.put,List.setIfInBounds_toArray,List.set_cons_zero,List.set_cons_succ];done)|(simp only [putAll,Act.put,List.setIfInBounds_toArray,List.set_cons_zero,List.set_cons_succ];rfl)) (hJ2_9_10 (v944,gb953,gb954) _ ⟨hHeld,(qVm HO927),(qVm HO930),(qVm HO935),(qVm HO938),(qVm HO945),(qB BK931.out),(qB BK932.out),(qB BK940.out),(qB BK941.out),(qB BK953.out),(qB BK954.out),GE953.out,GE953.out,NB931_953.out,NB953_931.out,NB932_953.out,NB953_932.out,NB940_953.out,NB953_940.out,NB941_953.out,NB953_941.out,NB954_953.out,NB953_954.out,GE954.out,GE954.out,NB931_954.out,NB954_931.out,NB932_954.out,NB954_932.out,NB940_954.out,NB954_940.out,NB941_954.out,NB954_941.out,(qS HB)⟩)
              ·skip
               rintro ⟨v944,gb954⟩ w82 ⟨hS_,h0_,h1_,h2_,h3_,h4_,h5_,h6_,h7_,h8_,h9_,h10_,h11_,h12_,h13_,h14_,h15_,h16_,h17_,h18_,h19_,h20_⟩
               have n0_ : Aside0 (Kd.V (Kd.int .u32) 23 w82 w.heap.size (fun k_ => k_ ≠ gb931 ∧ k_ ≠ gb932 ∧ k_ ≠ gb940 ∧ k_ ≠ gb941 ∧ k_ ≠ gb954) (.slice Ao56 t925.length co56) t925):=⟨h0_⟩
               have n1_ : Aside0 (Kd.V (Kd.int .u32) 23 w82 w.heap.size (fun k_ => k_ ≠ gb931 ∧ k_ ≠ gb932 ∧ k_ ≠ gb940 ∧ k_ ≠ gb941 ∧ k_ ≠ gb954) (.slice Ao60 t928.length co60) t928):=⟨h1_⟩
               have n2_ : Aside0 (Kd.V (Kd.int .u32) 23 w82 w.heap.size (fun k_ => k_ ≠ gb931 ∧ k_ ≠ gb932 ∧ k_ ≠ gb940 ∧ k_ ≠ gb941 ∧ k_ ≠ gb954) (.slice Ao68 t933.length co68) t933):=⟨h2_⟩
               have n3_ : Aside0 (Kd.V (Kd.int .u32) 23 w82 w.heap.size (fun k_ => k_ ≠ gb931 ∧ k_ ≠ gb932 ∧ k_ ≠ gb940 ∧ k_ ≠ gb941 ∧ k_ ≠ gb954) (.slice Ao73 t936.length co73) t936):=⟨h3_⟩
               have n4_ : Aside0 (Kd.V (Kd.int .u32) 23 w82 w.heap.size (fun k_ => k_ ≠ gb931 ∧ k_ ≠ gb932 ∧ k_ ≠ gb940 ∧ k_ ≠ gb941 ∧ k_ ≠ gb954) v944 t943):=⟨h4_⟩
               have n5_ : Aside0 (w82.heap[gb931]? = some (.cells #[.slice Ao56 t925.length co56] 38 (0,0))):=⟨h5_⟩
               have n6_ : Aside0 (w82.heap[gb932]? = some (.cells #[.slice Ao60 t928.length co60] 38 (0,0))):=⟨h6_⟩
               have n7_ : Aside0 (w82.heap[gb940]? = some (.cells #[.slice Ao68 t933.length co68] 38 (0,0))):=⟨h7_⟩
               have n8_ : Aside0 (w82.heap[gb941]? = some (.cells #[.slice Ao73 t936.length co73] 38 (0,0))):=⟨h8_⟩
               have n9_ : Aside0 (w82.heap[gb954]? = some (.cells #[.slice none 0 0] 38 (0,0))):=⟨h9_⟩
               have n10_ : Aside0 (w.heap.size ≤ gb954):=⟨h10_⟩
               have n11_ : Aside0 (w.heap.size ≤ gb954):=⟨h11_⟩
               have n12_ : Aside0 (gb931 ≠ gb954):=⟨h12_⟩
               have n13_ : Aside0 (gb954 ≠ gb931):=⟨h13_⟩
               have n14_ : Aside0 (gb932 ≠ gb954):=⟨h14_⟩
               have n15_ : Aside0 (gb954 ≠ gb932):=⟨h15_⟩
               have n16_ : Aside0 (gb940 ≠ gb954):=⟨h16_⟩
               have n17_ : Aside0 (gb954 ≠ gb940):=⟨h17_⟩
               have n18_ : Aside0 (gb941 ≠ gb954):=⟨h18_⟩
               have n19_ : Aside0 (gb954 ≠ gb941):=⟨h19_⟩
               have n20_ : Aside0 (Below w.heap.size w w82):=⟨h20_⟩
               clear HO927
               clear HO930
               clear HO935
               clear HO938
               clear BK931
               clear BK932
               clear BK940
               clear BK941
               clear HB
               clear h0_ h1_ h2_ h3_ h4_ h5_ h6_ h7_ h8_ h9_ h10_ h11_ h12_ h13_ h14_ h15_ h16_ h17_ h18_ h19_ h20_
               have HO927:=n0_
               have HO930:=n1_
               have HO935:=n2_
               have HO938:=n3_
               have HO945:=n4_
               have BK931:=n5_
               have BK932:=n6_
               have BK940:=n7_
               have BK941:=n8_
               have BK954:=n9_
               have GE954:=n10_
               have GE954:=n11_
               have NB931_954:=n12_
               have NB954_931:=n13_
               have NB932_954:=n14_
               have NB954_932:=n15_
               have NB940_954:=n16_
               have NB954_940:=n17_
               have NB941_954:=n18_
               have NB954_941:=n19_
               have HB:=n20_
               clear n0_ n1_ n2_ n3_ n4_ n5_ n6_ n7_ n8_ n9_ n10_ n11_ n12_ n13_ n14_ n15_ n16_ n17_ n18_ n19_ n20_
               have hHeld : w82.cell? ⟨gb931,0,none⟩ = some (.slice Ao56 t925.length co56) ∧ w82.cell? ⟨gb932,0,none⟩ = some (.slice Ao60 t928.length co60):=hS_
               obtain ⟨Ao83,co83,eo83⟩:=Kd.V_slice HO945.out
               (first|subst eo83|(injection eo83 with f1_ f2_ f3_;have f4_:=f1_.symm;have f5_:=f3_.symm;clear f1_ f2_ f3_;subst f4_;subst f5_))
               refine norm_ (a':=?_) ?_ ?_
               rotate_left
               ·simp only [putAll,Act.put,List.setIfInBounds_toArray,List.set_cons_zero,List.set_cons_succ]
                rfl
               refine q2 4 9 (some 35) (some 10) HT_ rfl rfl (fun K hK => ?_) (fun K hK => ?_)
               ·skip
                refine g_ Try.func53 #[.agg #[.slice Ao83 t943.length co83],.agg #[.slice Ao60 t928.length co60]] ?_
                with_reducible refine (nat_Nat_Div.calls k (fun k_ => (k_ ≠ gb931 ∧ (k_ ≠ gb932 ∧ (k_ ≠ gb940 ∧ (k_ ≠ gb941 ∧ k_ ≠ gb954))))) _ _ t943 _ _ t928 t946 t949 t952 _ ?side1 ?side2 ?side3 A39.out).mono ?_
                (case side1 => first|exact HO945.out|exact qVm HO945)
                (case side2 => exact qCV HO930)
                (case side3 => exact qL HO930)
                rintro e w84 ⟨v947,v950,rfl,ho0,ho1,hb⟩
                refine ⟨_,rfl,?_⟩
                replace HO927:=qVb HO927 hb
                replace HO930:=qVb HO930 hb
                replace HO935:=qVb HO935 hb
                replace HO938:=qVb HO938 hb
                replace HO945:=qVb HO945 hb
                have HO948:=Aside0.mk (Kd.V_lower (Kd.V_mono (ok':=fun k_ => k_ ≠ gb931 ∧ k_ ≠ gb932 ∧ k_ ≠ gb940 ∧ k_ ≠ gb941 ∧ k_ ≠ gb954) ho0 (fun k_ hk_ => ⟨Or.elim hk_ (fun hs_ => hs_.1) (fun hn_ => (Kd.freshB (qB BK931.out) k_ hn_)),Or.elim hk_ (fun hs_ => hs_.2.1) (fun hn_ => (Kd.freshB (qB BK932.out) k_ hn_)),Or.elim hk_ (fun hs_ => hs_.2.2.1) (fun hn_ => (Kd.freshB (qB BK940.out) k_ hn_)),Or.elim hk_ (fun hs_ => hs_.2.2.2.1) (fun hn_ => (Kd.freshB (qB BK941.out) k_ hn_)),Or.elim hk_ (fun hs_ => hs_.2.2.2.2) (fun hn_ => (Kd.freshB (qB BK954.out) k_ hn_))⟩)) (below_size (qS HB)))
                have HO951:=Aside0.mk (Kd.V_lower (Kd.V_mono (ok':=fun k_ => k_ ≠ gb931 ∧ k_ ≠ gb932 ∧ k_ ≠ gb940 ∧ k_ ≠ gb941 ∧ k_ ≠ gb954) ho1 (fun k_ hk_ => ⟨Or.elim hk_ (fun hs_ => hs_.1) (fun hn_ => (Kd.freshB (qB BK931.out) k_ hn_)),Or.elim hk_ (fun hs_ => hs_.2.1) (fun hn_ => (Kd.freshB (qB BK932.out) k_ hn_)),Or.elim hk_ (fun hs_ => hs_.2.2.1) (fun hn_ => (Kd.freshB (qB BK940.out) k_ hn_)),Or.elim hk_ (fun hs_ => hs_.2.2.2.1) (fun hn_ => (Kd.freshB (qB BK941.out) k_ hn_)),Or.elim hk_ (fun hs_ => hs_.2.2.2.2) (fun hn_ => (Kd.freshB (qB BK954.out) k_ hn_))⟩)) (below_size (qS HB)))
                replace BK931:=qb BK931 hb
                replace BK932:=qb BK932 hb
                replace BK940:=qb BK940 hb
                replace BK941:=qb BK941 hb
                replace BK954:=qb BK954 hb
                replace HB:=qs HB hb
                clear hb ho0 ho1
                refine hK.out _ _ ⟨bc BK931,bc BK932⟩ (fun hHeld => ?_)
                clear hK K
                refine qO 35 ?_
                refine qP 5 30 HT_ ?_
                refine qP 6 36 HT_ ?_
                refine qP 7 37 HT_ ?_
                refine qP 8 38 HT_ ?_
                exact norm_ (by first|(simp only [putAll,Act.put,List.setIfInBounds_toArray,List.set_cons_zero,List.set_cons_succ];done)|(simp only [putAll,Act.put,List.setIfInBounds_toArray,List.set_cons_zero,List.set_cons_succ];rfl)) (hJ2_4_10 (.slice Ao83 t943.length co83,v947,v950,gb954) _ ⟨hHeld,(qVm HO927),(qVm HO930),(qVm HO935),(qVm HO938),(qVm HO945),(qVm HO948),(qVm HO951),(qB BK931.out),(qB BK932.out),(qB BK940.out),(qB BK941.out),(qB BK954.out),GE954.out,GE954.out,NB931_954.out,NB954_931.out,NB932_954.out,NB954_932.out,NB940_954.out,NB954_940.out,NB941_954.out,NB954_941.out,(qS HB)⟩)
               ·skip
                refine box_step ?hg (N:=10) ?hd (cs:=#[.slice none 0 0]) (t:=38) ?hr ?_;(case hd => rfl);(case hg => rfl);(case hr => first|(go_simp;done)|(go_simp;rfl))
                intro gb953 hg w83 hbox hb
                replace HO927:=qVe HO927 hb hg
                replace HO930:=qVe HO930 hb hg
                replace HO935:=qVe HO935 hb hg
                replace HO938:=qVe HO938 hb hg
                replace HO945:=qVe HO945 hb hg
                have BK953:=Aside0.mk hbox
                have GE953:=qh hg HB
                replace HB:=qs HB hb
                have NB931_953:=ql hg BK931
                have NB953_931:=qg hg BK931
                replace BK931:=qb BK931 hb
                have NB932_953:=ql hg BK932
                have NB953_932:=qg hg BK932
                replace BK932:=qb BK932 hb
                have NB940_953:=ql hg BK940
                have NB953_940:=qg hg BK940
                replace BK940:=qb BK940 hb
                have NB941_953:=ql hg BK941
                have NB953_941:=qg hg BK941
                replace BK941:=qb BK941 hb
                have NB954_953:=ql hg BK954
                have NB953_954:=qg hg BK954
                replace BK954:=qb BK954 hb
                clear hb hbox hg
                refine hK.out _ _ ⟨bc BK931,bc BK932⟩ (fun hHeld => ?_)
                clear hK K
                refine qO 10 ?_
                exact norm_ (by first|(simp only [putAll,Act.put,List.setIfInBounds_toArray,List.set_cons_zero,List.set_cons_succ];done)|(simp only [putAll,Act.put,List.setIfInBounds_toArray,List.set_cons_zero,List.set_cons_succ];rfl)) (hJ2_9_10 ((.slice Ao83 t943.length co83),gb953,gb954) _ ⟨hHeld,(qVm HO927),(qVm HO930),(qVm HO935),(qVm HO938),(qVm HO945),(qB BK931.out),(qB BK932.out),(qB BK940.out),(qB BK941.out),(qB BK953.out),(qB BK954.out),GE953.out,GE953.out,NB931_953.out,NB953_931.out,NB932_953.out,NB953_932.out,NB940_953.out,NB953_940.out,NB941_953.out,NB953_941.out,NB954_953.out,NB953_954.out,GE954.out,GE954.out,NB931_954.out,NB954_931.out,NB932_954.out,NB954_932.out,NB940_954.out,NB954_940.out,NB941_954.out,NB954_941.out,(qS HB)⟩)
             ·skip
              rintro ⟨v944,gb953⟩ w82 ⟨hS_,h0_,h1_,h2_,h3_,h4_,h5_,h6_,h7_,h8_,h9_,h10_,h11_,h12_,h13_,h14_,h15_,h16_,h17_,h18_,h19_,h20_⟩
              have n0_ : Aside0 (Kd.V (Kd.int .u32) 23 w82 w.heap.size (fun k_ => k_ ≠ gb931 ∧ k_ ≠ gb932 ∧ k_ ≠ gb940 ∧ k_ ≠ gb941 ∧ k_ ≠ gb953) (.slice Ao56 t925.length co56) t925):=⟨h0_⟩
              have n1_ : Aside0 (Kd.V (Kd.int .u32) 23 w82 w.heap.size (fun k_ => k_ ≠ gb931 ∧ k_ ≠ gb932 ∧ k_ ≠ gb940 ∧ k_ ≠ gb941 ∧ k_ ≠ gb953) (.slice Ao60 t928.length co60) t928):=⟨h1_⟩
              have n2_ : Aside0 (Kd.V (Kd.int .u32) 23 w82 w.heap.size (fun k_ => k_ ≠ gb931 ∧ k_ ≠ gb932 ∧ k_ ≠ gb940 ∧ k_ ≠ gb941 ∧ k_ ≠ gb953) (.slice Ao68 t933.length co68) t933):=⟨h2_⟩
              have n3_ : Aside0 (Kd.V (Kd.int .u32) 23 w82 w.heap.size (fun k_ => k_ ≠ gb931 ∧ k_ ≠ gb932 ∧ k_ ≠ gb940 ∧ k_ ≠ gb941 ∧ k_ ≠ gb953) (.slice Ao73 t936.length co73) t936):=⟨h3_⟩
              have n4_ : Aside0 (Kd.V (Kd.int .u32) 23 w82 w.heap.size (fun k_ => k_ ≠ gb931 ∧ k_ ≠ gb932 ∧ k_ ≠ gb940 ∧ k_ ≠ gb941 ∧ k_ ≠ gb953) v944 t943):=⟨h4_⟩
              have n5_ : Aside0 (w82.heap[gb931]? = some (.cells #[.slice Ao56 t925.length co56] 38 (0,0))):=⟨h5_⟩
              have n6_ : Aside0 (w82.heap[gb932]? = some (.cells #[.slice Ao60 t928.length co60] 38 (0,0))):=⟨h6_⟩
              have n7_ : Aside0 (w82.heap[gb940]? = some (.cells #[.slice Ao68 t933.length co68] 38 (0,0))):=⟨h7_⟩
              have n8_ : Aside0 (w82.heap[gb941]? = some (.cells #[.slice Ao73 t936.length co73] 38 (0,0))):=⟨h8_⟩
              have n9_ : Aside0 (w82.heap[gb953]? = some (.cells #[.slice none 0 0] 38 (0,0))):=⟨h9_⟩
              have n10_ : Aside0 (w.heap.size ≤ gb953):=⟨h10_⟩
              have n11_ : Aside0 (w.heap.size ≤ gb953):=⟨h11_⟩
              have n12_ : Aside0 (gb931 ≠ gb953):=⟨h12_⟩
              have n13_ : Aside0 (gb953 ≠ gb931):=⟨h13_⟩
              have n14_ : Aside0 (gb932 ≠ gb953):=⟨h14_⟩
              have n15_ : Aside0 (gb953 ≠ gb932):=⟨h15_⟩
              have n16_ : Aside0 (gb940 ≠ gb953):=⟨h16_⟩
              have n17_ : Aside0 (gb953 ≠ gb940):=⟨h17_⟩
              have n18_ : Aside0 (gb941 ≠ gb953):=⟨h18_⟩
              have n19_ : Aside0 (gb953 ≠ gb941):=⟨h19_⟩
              have n20_ : Aside0 (Below w.heap.size w w82):=⟨h20_⟩
              clear HO927
              clear HO930
              clear HO935
              clear HO938
              clear BK931
              clear BK932
              clear BK940
              clear BK941
              clear HB
              clear h0_ h1_ h2_ h3_ h4_ h5_ h6_ h7_ h8_ h9_ h10_ h11_ h12_ h13_ h14_ h15_ h16_ h17_ h18_ h19_ h20_
              have HO927:=n0_
              have HO930:=n1_
              have HO935:=n2_
              have HO938:=n3_
              have HO945:=n4_
              have BK931:=n5_
              have BK932:=n6_
              have BK940:=n7_
              have BK941:=n8_
              have BK953:=n9_
              have GE953:=n10_
              have GE953:=n11_
              have NB931_953:=n12_
              have NB953_931:=n13_
              have NB932_953:=n14_
              have NB953_932:=n15_
              have NB940_953:=n16_
              have NB953_940:=n17_
              have NB941_953:=n18_
              have NB953_941:=n19_
              have HB:=n20_
              clear n0_ n1_ n2_ n3_ n4_ n5_ n6_ n7_ n8_ n9_ n10_ n11_ n12_ n13_ n14_ n15_ n16_ n17_ n18_ n19_ n20_
              have hHeld : w82.cell? ⟨gb931,0,none⟩ = some (.slice Ao56 t925.length co56) ∧ w82.cell? ⟨gb932,0,none⟩ = some (.slice Ao60 t928.length co60):=hS_
              obtain ⟨Ao83,co83,eo83⟩:=Kd.V_slice HO945.out
              (first|subst eo83|(injection eo83 with f1_ f2_ f3_;have f4_:=f1_.symm;have f5_:=f3_.symm;clear f1_ f2_ f3_;subst f4_;subst f5_))
              refine norm_ (a':=?_) ?_ ?_
              rotate_left
              ·simp only [putAll,Act.put,List.setIfInBounds_toArray,List.set_cons_zero,List.set_cons_succ]
               rfl
              refine q2 4 10 (some 35) (some 11) HT_ rfl rfl (fun K hK => ?_) (fun K hK => ?_)
              ·skip
               refine g_ Try.func53 #[.agg #[.slice Ao83 t943.length co83],.agg #[.slice Ao60 t928.length co60]] ?_
               with_reducible refine (nat_Nat_Div.calls k (fun k_ => (k_ ≠ gb931 ∧ (k_ ≠ gb932 ∧ (k_ ≠ gb940 ∧ (k_ ≠ gb941 ∧ k_ ≠ gb953))))) _ _ t943 _ _ t928 t946 t949 t952 _ ?side1 ?side2 ?side3 A39.out).mono ?_
               (case side1 => first|exact HO945.out|exact qVm HO945)
               (case side2 => exact qCV HO930)
               (case side3 => exact qL HO930)
               rintro e w84 ⟨v947,v950,rfl,ho0,ho1,hb⟩
               refine ⟨_,rfl,?_⟩
               replace HO927:=qVb HO927 hb
               replace HO930:=qVb HO930 hb
               replace HO935:=qVb HO935 hb
               replace HO938:=qVb HO938 hb
               replace HO945:=qVb HO945 hb
               have HO948:=Aside0.mk (Kd.V_lower (Kd.V_mono (ok':=fun k_ => k_ ≠ gb931 ∧ k_ ≠ gb932 ∧ k_ ≠ gb940 ∧ k_ ≠ gb941 ∧ k_ ≠ gb953) ho0 (fun k_ hk_ => ⟨Or.elim hk_ (fun hs_ => hs_.1) (fun hn_ => (Kd.freshB (qB BK931.out) k_ hn_)),Or.elim hk_ (fun hs_ => hs_.2.1) (fun hn_ => (Kd.freshB (qB BK932.out) k_ hn_)),Or.elim hk_ (fun hs_ => hs_.2.2.1) (fun hn_ => (Kd.freshB (qB BK940.out) k_ hn_)),Or.elim hk_ (fun hs_ => hs_.2.2.2.1) (fun hn_ => (Kd.freshB (qB BK941.out) k_ hn_)),Or.elim hk_ (fun hs_ => hs_.2.2.2.2) (fun hn_ => (Kd.freshB (qB BK953.out) k_ hn_))⟩)) (below_size (qS HB)))
               have HO951:=Aside0.mk (Kd.V_lower (Kd.V_mono (ok':=fun k_ => k_ ≠ gb931 ∧ k_ ≠ gb932 ∧ k_ ≠ gb940 ∧ k_ ≠ gb941 ∧ k_ ≠ gb953) ho1 (fun k_ hk_ => ⟨Or.elim hk_ (fun hs_ => hs_.1) (fun hn_ => (Kd.freshB (qB BK931.out) k_ hn_)),Or.elim hk_ (fun hs_ => hs_.2.1) (fun hn_ => (Kd.freshB (qB BK932.out) k_ hn_)),Or.elim hk_ (fun hs_ => hs_.2.2.1) (fun hn_ => (Kd.freshB (qB BK940.out) k_ hn_)),Or.elim hk_ (fun hs_ => hs_.2.2.2.1) (fun hn_ => (Kd.freshB (qB BK941.out) k_ hn_)),Or.elim hk_ (fun hs_ => hs_.2.2.2.2) (fun hn_ => (Kd.freshB (qB BK953.out) k_ hn_))⟩)) (below_size (qS HB)))
               replace BK931:=qb BK931 hb
               replace BK932:=qb BK932 hb
               replace BK940:=qb BK940 hb
               replace BK941:=qb BK941 hb
               replace BK953:=qb BK953 hb
               replace HB:=qs HB hb
               clear hb ho0 ho1
               refine hK.out _ _ ⟨bc BK931,bc BK932⟩ (fun hHeld => ?_)
               clear hK K
               refine qO 35 ?_
               refine qP 5 30 HT_ ?_
               refine qP 6 36 HT_ ?_
               refine qP 7 37 HT_ ?_
               refine qP 8 38 HT_ ?_
               exact norm_ (by first|(simp only [putAll,Act.put,List.setIfInBounds_toArray,List.set_cons_zero,List.set_cons_succ];done)|(simp only [putAll,Act.put,List.setIfInBounds_toArray,List.set_cons_zero,List.set_cons_succ];rfl)) (hJ2_4_9 (.slice Ao83 t943.length co83,v947,v950,gb953) _ ⟨hHeld,(qVm HO927),(qVm HO930),(qVm HO935),(qVm HO938),(qVm HO945),(qVm HO948),(qVm HO951),(qB BK931.out),(qB BK932.out),(qB BK940.out),(qB BK941.out),(qB BK953.out),GE953.out,GE953.out,NB931_953.out,NB953_931.out,NB932_953.out,NB953_932.out,NB940_953.out,NB953_940.out,NB941_953.out,NB953_941.out,(qS HB)⟩)
              ·skip
               refine box_step ?hg (N:=11) ?hd (cs:=#[.slice none 0 0]) (t:=38) ?hr ?_;(case hd => rfl);(case hg => rfl);(case hr => first|(go_simp;done)|(go_simp;rfl))
               intro gb954 hg w83 hbox hb
               replace HO927:=qVe HO927 hb hg
               replace HO930:=qVe HO930 hb hg
               replace HO935:=qVe HO935 hb hg
               replace HO938:=qVe HO938 hb hg
               replace HO945:=qVe HO945 hb hg
               have BK954:=Aside0.mk hbox
               have GE954:=qh hg HB
               replace HB:=qs HB hb
               have NB931_954:=ql hg BK931
               have NB954_931:=qg hg BK931
               replace BK931:=qb BK931 hb
               have NB932_954:=ql hg BK932
               have NB954_932:=qg hg BK932
               replace BK932:=qb BK932 hb
               have NB940_954:=ql hg BK940
               have NB954_940:=qg hg BK940
               replace BK940:=qb BK940 hb
               have NB941_954:=ql hg BK941
               have NB954_941:=qg hg BK941
               replace BK941:=qb BK941 hb
               have NB953_954:=ql hg BK953
               have NB954_953:=qg hg BK953
               replace BK953:=qb BK953 hb
               clear hb hbox hg
               refine hK.out _ _ ⟨bc BK931,bc BK932⟩ (fun hHeld => ?_)
               clear hK K
               refine qO 11 ?_
               exact norm_ (by first|(simp only [putAll,Act.put,List.setIfInBounds_toArray,List.set_cons_zero,List.set_cons_succ];done)|(simp only [putAll,Act.put,List.setIfInBounds_toArray,List.set_cons_zero,List.set_cons_succ];rfl)) (hJ2_9_10 ((.slice Ao83 t943.length co83),gb953,gb954) _ ⟨hHeld,(qVm HO927),(qVm HO930),(qVm HO935),(qVm HO938),(qVm HO945),(qB BK931.out),(qB BK932.out),(qB BK940.out),(qB BK941.out),(qB BK953.out),(qB BK954.out),GE953.out,GE953.out,NB931_953.out,NB953_931.out,NB932_953.out,NB953_932.out,NB940_953.out,NB953_940.out,NB941_953.out,NB953_941.out,NB954_953.out,NB953_954.out,GE954.out,GE954.out,NB931_954.out,NB954_931.out,NB932_954.out,NB954_932.out,NB940_954.out,NB954_940.out,NB941_954.out,NB954_941.out,(qS HB)⟩)
            ·skip
             rintro ⟨v944,v947,v950⟩ w83 ⟨hS_,h0_,h1_,h2_,h3_,h4_,h5_,h6_,h7_,h8_,h9_,h10_,h11_⟩
             have n0_ : Aside0 (Kd.V (Kd.int .u32) 23 w83 w.heap.size (fun k_ => k_ ≠ gb931 ∧ k_ ≠ gb932 ∧ k_ ≠ gb940 ∧ k_ ≠ gb941) (.slice Ao56 t925.length co56) t925):=⟨h0_⟩
             have n1_ : Aside0 (Kd.V (Kd.int .u32) 23 w83 w.heap.size (fun k_ => k_ ≠ gb931 ∧ k_ ≠ gb932 ∧ k_ ≠ gb940 ∧ k_ ≠ gb941) (.slice Ao60 t928.length co60) t928):=⟨h1_⟩
             have n2_ : Aside0 (Kd.V (Kd.int .u32) 23 w83 w.heap.size (fun k_ => k_ ≠ gb931 ∧ k_ ≠ gb932 ∧ k_ ≠ gb940 ∧ k_ ≠ gb941) (.slice Ao68 t933.length co68) t933):=⟨h2_⟩
             have n3_ : Aside0 (Kd.V (Kd.int .u32) 23 w83 w.heap.size (fun k_ => k_ ≠ gb931 ∧ k_ ≠ gb932 ∧ k_ ≠ gb940 ∧ k_ ≠ gb941) (.slice Ao73 t936.length co73) t936):=⟨h3_⟩
             have n4_ : Aside0 (Kd.V (Kd.int .u32) 23 w83 w.heap.size (fun k_ => k_ ≠ gb931 ∧ k_ ≠ gb932 ∧ k_ ≠ gb940 ∧ k_ ≠ gb941) v944 t943):=⟨h4_⟩
             have n5_ : Aside0 (Kd.V (Kd.int .u32) 23 w83 w.heap.size (fun k_ => k_ ≠ gb931 ∧ k_ ≠ gb932 ∧ k_ ≠ gb940 ∧ k_ ≠ gb941) v947 t946):=⟨h5_⟩
             have n6_ : Aside0 (Kd.V (Kd.int .u32) 23 w83 w.heap.size (fun k_ => k_ ≠ gb931 ∧ k_ ≠ gb932 ∧ k_ ≠ gb940 ∧ k_ ≠ gb941) v950 t949):=⟨h6_⟩
             have n7_ : Aside0 (w83.heap[gb931]? = some (.cells #[.slice Ao56 t925.length co56] 38 (0,0))):=⟨h7_⟩
             have n8_ : Aside0 (w83.heap[gb932]? = some (.cells #[.slice Ao60 t928.length co60] 38 (0,0))):=⟨h8_⟩
             have n9_ : Aside0 (w83.heap[gb940]? = some (.cells #[.slice Ao68 t933.length co68] 38 (0,0))):=⟨h9_⟩
             have n10_ : Aside0 (w83.heap[gb941]? = some (.cells #[.slice Ao73 t936.length co73] 38 (0,0))):=⟨h10_⟩
             have n11_ : Aside0 (Below w.heap.size w w83):=⟨h11_⟩
             clear HO927
             clear HO930
             clear HO935
             clear HO938
             clear BK931
             clear BK932
             clear BK940
             clear BK941
             clear HB
             clear h0_ h1_ h2_ h3_ h4_ h5_ h6_ h7_ h8_ h9_ h10_ h11_
             have HO927:=n0_
             have HO930:=n1_
             have HO935:=n2_
             have HO938:=n3_
             have HO945:=n4_
             have HO948:=n5_
             have HO951:=n6_
             have BK931:=n7_
             have BK932:=n8_
             have BK940:=n9_
             have BK941:=n10_
             have HB:=n11_
             clear n0_ n1_ n2_ n3_ n4_ n5_ n6_ n7_ n8_ n9_ n10_ n11_
             have hHeld : w83.cell? ⟨gb931,0,none⟩ = some (.slice Ao56 t925.length co56) ∧ w83.cell? ⟨gb932,0,none⟩ = some (.slice Ao60 t928.length co60):=hS_
             refine norm_ (a':=?_) ?_ ?_
             rotate_left
             ·simp only [putAll,Act.put,List.setIfInBounds_toArray,List.set_cons_zero,List.set_cons_succ]
              rfl
             refine q2 9 10 (some 10) (some 11) HT_ rfl rfl (fun K hK => ?_) (fun K hK => ?_)
             ·skip
              refine box_step ?hg (N:=10) ?hd (cs:=#[.slice none 0 0]) (t:=38) ?hr ?_;(case hd => rfl);(case hg => rfl);(case hr => first|(go_simp;done)|(go_simp;rfl))
              intro gb953 hg w84 hbox hb
              replace HO927:=qVe HO927 hb hg
              replace HO930:=qVe HO930 hb hg
              replace HO935:=qVe HO935 hb hg
              replace HO938:=qVe HO938 hb hg
              replace HO945:=qVe HO945 hb hg
              replace HO948:=qVe HO948 hb hg
              replace HO951:=qVe HO951 hb hg
              have BK953:=Aside0.mk hbox
              have GE953:=qh hg HB
              replace HB:=qs HB hb
              have NB931_953:=ql hg BK931
              have NB953_931:=qg hg BK931
              replace BK931:=qb BK931 hb
              have NB932_953:=ql hg BK932
              have NB953_932:=qg hg BK932
              replace BK932:=qb BK932 hb
              have NB940_953:=ql hg BK940
              have NB953_940:=qg hg BK940
              replace BK940:=qb BK940 hb
              have NB941_953:=ql hg BK941
              have NB953_941:=qg hg BK941
              replace BK941:=qb BK941 hb
              clear hb hbox hg
              refine hK.out _ _ ⟨bc BK931,bc BK932⟩ (fun hHeld => ?_)
              clear hK K
              refine qO 10 ?_
              exact norm_ (by first|(simp only [putAll,Act.put,List.setIfInBounds_toArray,List.set_cons_zero,List.set_cons_succ];done)|(simp only [putAll,Act.put,List.setIfInBounds_toArray,List.set_cons_zero,List.set_cons_succ];rfl)) (hJ2_4_9 (v944,v947,v950,gb953) _ ⟨hHeld,(qVm HO927),(qVm HO930),(qVm HO935),(qVm HO938),(qVm HO945),(qVm HO948),(qVm HO951),(qB BK931.out),(qB BK932.out),(qB BK940.out),(qB BK941.out),(qB BK953.out),GE953.out,GE953.out,NB931_953.out,NB953_931.out,NB932_953.out,NB953_932.out,NB940_953.out,NB953_940.out,NB941_953.out,NB953_941.out,(qS HB)⟩)
             ·skip
              refine box_step ?hg (N:=11) ?hd (cs:=#[.slice none 0 0]) (t:=38) ?hr ?_;(case hd => rfl);(case hg => rfl);(case hr => first|(go_simp;done)|(go_simp;rfl))
              intro gb954 hg w84 hbox hb
              replace HO927:=qVe HO927 hb hg
              replace HO930:=qVe HO930 hb hg
              replace HO935:=qVe HO935 hb hg
              replace HO938:=qVe HO938 hb hg
              replace HO945:=qVe HO945 hb hg
              replace HO948:=qVe HO948 hb hg
              replace HO951:=qVe HO951 hb hg
              have BK954:=Aside0.mk hbox
              have GE954:=qh hg HB
              replace HB:=qs HB hb
              have NB931_954:=ql hg BK931
              have NB954_931:=qg hg BK931
              replace BK931:=qb BK931 hb
              have NB932_954:=ql hg BK932
              have NB954_932:=qg hg BK932
              replace BK932:=qb BK932 hb
              have NB940_954:=ql hg BK940
              have NB954_940:=qg hg BK940
              replace BK940:=qb BK940 hb
              have NB941_954:=ql hg BK941
              have NB954_941:=qg hg BK941
              replace BK941:=qb BK941 hb
              clear hb hbox hg
              refine hK.out _ _ ⟨bc BK931,bc BK932⟩ (fun hHeld => ?_)
              clear hK K
              refine qO 11 ?_
              exact norm_ (by first|(simp only [putAll,Act.put,List.setIfInBounds_toArray,List.set_cons_zero,List.set_cons_succ];done)|(simp only [putAll,Act.put,List.setIfInBounds_toArray,List.set_cons_zero,List.set_cons_succ];rfl)) (hJ2_4_10 (v944,v947,v950,gb954) _ ⟨hHeld,(qVm HO927),(qVm HO930),(qVm HO935),(qVm HO938),(qVm HO945),(qVm HO948),(qVm HO951),(qB BK931.out),(qB BK932.out),(qB BK940.out),(qB BK941.out),(qB BK954.out),GE954.out,GE954.out,NB931_954.out,NB954_931.out,NB932_954.out,NB954_932.out,NB940_954.out,NB954_940.out,NB941_954.out,NB954_941.out,(qS HB)⟩)
           ·skip
            rintro ⟨v944,gb953,gb954⟩ w83 ⟨hS_,h0_,h1_,h2_,h3_,h4_,h5_,h6_,h7_,h8_,h9_,h10_,h11_,h12_,h13_,h14_,h15_,h16_,h17_,h18_,h19_,h20_,h21_,h22_,h23_,h24_,h25_,h26_,h27_,h28_,h29_,h30_,h31_,h32_,h33_⟩
            have n0_ : Aside0 (Kd.V (Kd.int .u32) 23 w83 w.heap.size (fun k_ => k_ ≠ gb931 ∧ k_ ≠ gb932 ∧ k_ ≠ gb940 ∧ k_ ≠ gb941 ∧ k_ ≠ gb953 ∧ k_ ≠ gb954) (.slice Ao56 t925.length co56) t925):=⟨h0_⟩
            have n1_ : Aside0 (Kd.V (Kd.int .u32) 23 w83 w.heap.size (fun k_ => k_ ≠ gb931 ∧ k_ ≠ gb932 ∧ k_ ≠ gb940 ∧ k_ ≠ gb941 ∧ k_ ≠ gb953 ∧ k_ ≠ gb954) (.slice Ao60 t928.length co60) t928):=⟨h1_⟩
            have n2_ : Aside0 (Kd.V (Kd.int .u32) 23 w83 w.heap.size (fun k_ => k_ ≠ gb931 ∧ k_ ≠ gb932 ∧ k_ ≠ gb940 ∧ k_ ≠ gb941 ∧ k_ ≠ gb953 ∧ k_ ≠ gb954) (.slice Ao68 t933.length co68) t933):=⟨h2_⟩
            have n3_ : Aside0 (Kd.V (Kd.int .u32) 23 w83 w.heap.size (fun k_ => k_ ≠ gb931 ∧ k_ ≠ gb932 ∧ k_ ≠ gb940 ∧ k_ ≠ gb941 ∧ k_ ≠ gb953 ∧ k_ ≠ gb954) (.slice Ao73 t936.length co73) t936):=⟨h3_⟩
            have n4_ : Aside0 (Kd.V (Kd.int .u32) 23 w83 w.heap.size (fun k_ => k_ ≠ gb931 ∧ k_ ≠ gb932 ∧ k_ ≠ gb940 ∧ k_ ≠ gb941 ∧ k_ ≠ gb953 ∧ k_ ≠ gb954) v944 t943):=⟨h4_⟩
            have n5_ : Aside0 (w83.heap[gb931]? = some (.cells #[.slice Ao56 t925.length co56] 38 (0,0))):=⟨h5_⟩
            have n6_ : Aside0 (w83.heap[gb932]? = some (.cells #[.slice Ao60 t928.length co60] 38 (0,0))):=⟨h6_⟩
            have n7_ : Aside0 (w83.heap[gb940]? = some (.cells #[.slice Ao68 t933.length co68] 38 (0,0))):=⟨h7_⟩
            have n8_ : Aside0 (w83.heap[gb941]? = some (.cells #[.slice Ao73 t936.length co73] 38 (0,0))):=⟨h8_⟩
            have n9_ : Aside0 (w83.heap[gb953]? = some (.cells #[.slice none 0 0] 38 (0,0))):=⟨h9_⟩
            have n10_ : Aside0 (w83.heap[gb954]? = some (.cells #[.slice none 0 0] 38 (0,0))):=⟨h10_⟩
            have n11_ : Aside0 (w.heap.size ≤ gb953):=⟨h11_⟩
            have n12_ : Aside0 (w.heap.size ≤ gb953):=⟨h12_⟩
            have n13_ : Aside0 (gb931 ≠ gb953):=⟨h13_⟩
            have n14_ : Aside0 (gb953 ≠ gb931):=⟨h14_⟩
            have n15_ : Aside0 (gb932 ≠ gb953):=⟨h15_⟩
            have n16_ : Aside0 (gb953 ≠ gb932):=⟨h16_⟩
            have n17_ : Aside0 (gb940 ≠ gb953):=⟨h17_⟩
            have n18_ : Aside0 (gb953 ≠ gb940):=⟨h18_⟩
            have n19_ : Aside0 (gb941 ≠ gb953):=⟨h19_⟩
            have n20_ : Aside0 (gb953 ≠ gb941):=⟨h20_⟩
            have n21_ : Aside0 (gb954 ≠ gb953):=⟨h21_⟩
            have n22_ : Aside0 (gb953 ≠ gb954):=⟨h22_⟩
            have n23_ : Aside0 (w.heap.size ≤ gb954):=⟨h23_⟩
            have n24_ : Aside0 (w.heap.size ≤ gb954):=⟨h24_⟩
            have n25_ : Aside0 (gb931 ≠ gb954):=⟨h25_⟩
            have n26_ : Aside0 (gb954 ≠ gb931):=⟨h26_⟩
            have n27_ : Aside0 (gb932 ≠ gb954):=⟨h27_⟩
            have n28_ : Aside0 (gb954 ≠ gb932):=⟨h28_⟩
            have n29_ : Aside0 (gb940 ≠ gb954):=⟨h29_⟩
            have n30_ : Aside0 (gb954 ≠ gb940):=⟨h30_⟩
            have n31_ : Aside0 (gb941 ≠ gb954):=⟨h31_⟩
            have n32_ : Aside0 (gb954 ≠ gb941):=⟨h32_⟩
            have n33_ : Aside0 (Below w.heap.size w w83):=⟨h33_⟩
            clear HO927
            clear HO930
            clear HO935
            clear HO938
            clear BK931
            clear BK932
            clear BK940
            clear BK941
            clear HB
            clear h0_ h1_ h2_ h3_ h4_ h5_ h6_ h7_ h8_ h9_ h10_ h11_ h12_ h13_ h14_ h15_ h16_ h17_ h18_ h19_ h20_ h21_ h22_ h23_ h24_ h25_ h26_ h27_ h28_ h29_ h30_ h31_ h32_ h33_
            have HO927:=n0_
            have HO930:=n1_
            have HO935:=n2_
            have HO938:=n3_
            have HO945:=n4_
            have BK931:=n5_
            have BK932:=n6_
            have BK940:=n7_
            have BK941:=n8_
            have BK953:=n9_
            have BK954:=n10_
            have GE953:=n11_
            have GE953:=n12_
            have NB931_953:=n13_
            have NB953_931:=n14_
            have NB932_953:=n15_
            have NB953_932:=n16_
            have NB940_953:=n17_
            have NB953_940:=n18_
            have NB941_953:=n19_
            have NB953_941:=n20_
            have NB954_953:=n21_
            have NB953_954:=n22_
            have GE954:=n23_
            have GE954:=n24_
            have NB931_954:=n25_
            have NB954_931:=n26_
            have NB932_954:=n27_
            have NB954_932:=n28_
            have NB940_954:=n29_
            have NB954_940:=n30_
            have NB941_954:=n31_
            have NB954_941:=n32_
            have HB:=n33_
            clear n0_ n1_ n2_ n3_ n4_ n5_ n6_ n7_ n8_ n9_ n10_ n11_ n12_ n13_ n14_ n15_ n16_ n17_ n18_ n19_ n20_ n21_ n22_ n23_ n24_ n25_ n26_ n27_ n28_ n29_ n30_ n31_ n32_ n33_
            have hHeld : w83.cell? ⟨gb931,0,none⟩ = some (.slice Ao56 t925.length co56) ∧ w83.cell? ⟨gb932,0,none⟩ = some (.slice Ao60 t928.length co60):=hS_
            obtain ⟨Ao84,co84,eo84⟩:=Kd.V_slice HO945.out
            (first|subst eo84|(injection eo84 with f1_ f2_ f3_;have f4_:=f1_.symm;have f5_:=f3_.symm;clear f1_ f2_ f3_;subst f4_;subst f5_))
            refine norm_ (a':=?_) ?_ ?_
            rotate_left
            ·simp only [putAll,Act.put,List.setIfInBounds_toArray,List.set_cons_zero,List.set_cons_succ]
             rfl
            refine q1 4 (some 35) HT_ rfl (fun K hK => ?_)
            refine g_ Try.func53 #[.agg #[.slice Ao84 t943.length co84],.agg #[.slice Ao60 t928.length co60]] ?_
            with_reducible refine (nat_Nat_Div.calls k (fun k_ => (k_ ≠ gb931 ∧ (k_ ≠ gb932 ∧ (k_ ≠ gb940 ∧ (k_ ≠ gb941 ∧ (k_ ≠ gb953 ∧ k_ ≠ gb954)))))) _ _ t943 _ _ t928 t946 t949 t952 _ ?side1 ?side2 ?side3 A39.out).mono ?_
            (case side1 => first|exact HO945.out|exact qVm HO945)
            (case side2 => exact qCV HO930)
            (case side3 => exact qL HO930)
            rintro e w85 ⟨v947,v950,rfl,ho0,ho1,hb⟩
            refine ⟨_,rfl,?_⟩
            replace HO927:=qVb HO927 hb
            replace HO930:=qVb HO930 hb
            replace HO935:=qVb HO935 hb
            replace HO938:=qVb HO938 hb
            replace HO945:=qVb HO945 hb
            have HO948:=Aside0.mk (Kd.V_lower (Kd.V_mono (ok':=fun k_ => k_ ≠ gb931 ∧ k_ ≠ gb932 ∧ k_ ≠ gb940 ∧ k_ ≠ gb941 ∧ k_ ≠ gb953 ∧ k_ ≠ gb954) ho0 (fun k_ hk_ => ⟨Or.elim hk_ (fun hs_ => hs_.1) (fun hn_ => (Kd.freshB (qB BK931.out) k_ hn_)),Or.elim hk_ (fun hs_ => hs_.2.1) (fun hn_ => (Kd.freshB (qB BK932.out) k_ hn_)),Or.elim hk_ (fun hs_ => hs_.2.2.1) (fun hn_ => (Kd.freshB (qB BK940.out) k_ hn_)),Or.elim hk_ (fun hs_ => hs_.2.2.2.1) (fun hn_ => (Kd.freshB (qB BK941.out) k_ hn_)),Or.elim hk_ (fun hs_ => hs_.2.2.2.2.1) (fun hn_ => (Kd.freshB (qB BK953.out) k_ hn_)),Or.elim hk_ (fun hs_ => hs_.2.2.2.2.2) (fun hn_ => (Kd.freshB (qB BK954.out) k_ hn_))⟩)) (below_size (qS HB)))
            have HO951:=Aside0.mk (Kd.V_lower (Kd.V_mono (ok':=fun k_ => k_ ≠ gb931 ∧ k_ ≠ gb932 ∧ k_ ≠ gb940 ∧ k_ ≠ gb941 ∧ k_ ≠ gb953 ∧ k_ ≠ gb954) ho1 (fun k_ hk_ => ⟨Or.elim hk_ (fun hs_ => hs_.1) (fun hn_ => (Kd.freshB (qB BK931.out) k_ hn_)),Or.elim hk_ (fun hs_ => hs_.2.1) (fun hn_ => (Kd.freshB (qB BK932.out) k_ hn_)),Or.elim hk_ (fun hs_ => hs_.2.2.1) (fun hn_ => (Kd.freshB (qB BK940.out) k_ hn_)),Or.elim hk_ (fun hs_ => hs_.2.2.2.1) (fun hn_ => (Kd.freshB (qB BK941.out) k_ hn_)),Or.elim hk_ (fun hs_ => hs_.2.2.2.2.1) (fun hn_ => (Kd.freshB (qB BK953.out) k_ hn_)),Or.elim hk_ (fun hs_ => hs_.2.2.2.2.2) (fun hn_ => (Kd.freshB (qB BK954.out) k_ hn_))⟩)) (below_size (qS HB)))
            replace BK931:=qb BK931 hb
            replace BK932:=qb BK932 hb
            replace BK940:=qb BK940 hb
            replace BK941:=qb BK941 hb
            replace BK953:=qb BK953 hb
            replace BK954:=qb BK954 hb
            replace HB:=qs HB hb
            clear hb ho0 ho1
            refine hK.out _ _ ⟨bc BK931,bc BK932⟩ (fun hHeld => ?_)
            clear hK K
            refine qO 35 ?_
            refine qP 5 30 HT_ ?_
            refine qP 6 36 HT_ ?_
            refine qP 7 37 HT_ ?_
            refine qP 8 38 HT_ ?_
            exact norm_ (by first|(simp only [putAll,Act.put,List.setIfInBounds_toArray,List.set_cons_zero,List.set_cons_succ];done)|(simp only [putAll,Act.put,List.setIfInBounds_toArray,List.set_cons_zero,List.set_cons_succ];rfl)) (hJ2_4_9_10 (.slice Ao84 t943.length co84,v947,v950,gb953,gb954) _ ⟨hHeld,(qVm HO927),(qVm HO930),(qVm HO935),(qVm HO938),(qVm HO945),(qVm HO948),(qVm HO951),(qB BK931.out),(qB BK932.out),(qB BK940.out),(qB BK941.out),(qB BK953.out),(qB BK954.out),GE953.out,GE953.out,NB931_953.out,NB953_931.out,NB932_953.out,NB953_932.out,NB940_953.out,NB953_940.out,NB941_953.out,NB953_941.out,NB954_953.out,NB953_954.out,GE954.out,GE954.out,NB931_954.out,NB954_931.out,NB932_954.out,NB954_932.out,NB940_954.out,NB954_940.out,NB941_954.out,NB954_941.out,(qS HB)⟩)
          ·skip
           rintro ⟨v944,v947,v950,gb954⟩ w84 ⟨hS_,h0_,h1_,h2_,h3_,h4_,h5_,h6_,h7_,h8_,h9_,h10_,h11_,h12_,h13_,h14_,h15_,h16_,h17_,h18_,h19_,h20_,h21_,h22_⟩
           have n0_ : Aside0 (Kd.V (Kd.int .u32) 23 w84 w.heap.size (fun k_ => k_ ≠ gb931 ∧ k_ ≠ gb932 ∧ k_ ≠ gb940 ∧ k_ ≠ gb941 ∧ k_ ≠ gb954) (.slice Ao56 t925.length co56) t925):=⟨h0_⟩
           have n1_ : Aside0 (Kd.V (Kd.int .u32) 23 w84 w.heap.size (fun k_ => k_ ≠ gb931 ∧ k_ ≠ gb932 ∧ k_ ≠ gb940 ∧ k_ ≠ gb941 ∧ k_ ≠ gb954) (.slice Ao60 t928.length co60) t928):=⟨h1_⟩
           have n2_ : Aside0 (Kd.V (Kd.int .u32) 23 w84 w.heap.size (fun k_ => k_ ≠ gb931 ∧ k_ ≠ gb932 ∧ k_ ≠ gb940 ∧ k_ ≠ gb941 ∧ k_ ≠ gb954) (.slice Ao68 t933.length co68) t933):=⟨h2_⟩
           have n3_ : Aside0 (Kd.V (Kd.int .u32) 23 w84 w.heap.size (fun k_ => k_ ≠ gb931 ∧ k_ ≠ gb932 ∧ k_ ≠ gb940 ∧ k_ ≠ gb941 ∧ k_ ≠ gb954) (.slice Ao73 t936.length co73) t936):=⟨h3_⟩
           have n4_ : Aside0 (Kd.V (Kd.int .u32) 23 w84 w.heap.size (fun k_ => k_ ≠ gb931 ∧ k_ ≠ gb932 ∧ k_ ≠ gb940 ∧ k_ ≠ gb941 ∧ k_ ≠ gb954) v944 t943):=⟨h4_⟩
           have n5_ : Aside0 (Kd.V (Kd.int .u32) 23 w84 w.heap.size (fun k_ => k_ ≠ gb931 ∧ k_ ≠ gb932 ∧ k_ ≠ gb940 ∧ k_ ≠ gb941 ∧ k_ ≠ gb954) v947 t946):=⟨h5_⟩
           have n6_ : Aside0 (Kd.V (Kd.int .u32) 23 w84 w.heap.size (fun k_ => k_ ≠ gb931 ∧ k_ ≠ gb932 ∧ k_ ≠ gb940 ∧ k_ ≠ gb941 ∧ k_ ≠ gb954) v950 t949):=⟨h6_⟩
           have n7_ : Aside0 (w84.heap[gb931]? = some (.cells #[.slice Ao56 t925.length co56] 38 (0,0))):=⟨h7_⟩
           have n8_ : Aside0 (w84.heap[gb932]? = some (.cells #[.slice Ao60 t928.length co60] 38 (0,0))):=⟨h8_⟩
           have n9_ : Aside0 (w84.heap[gb940]? = some (.cells #[.slice Ao68 t933.length co68] 38 (0,0))):=⟨h9_⟩
           have n10_ : Aside0 (w84.heap[gb941]? = some (.cells #[.slice Ao73 t936.length co73] 38 (0,0))):=⟨h10_⟩
           have n11_ : Aside0 (w84.heap[gb954]? = some (.cells #[.slice none 0 0] 38 (0,0))):=⟨h11_⟩
           have n12_ : Aside0 (w.heap.size ≤ gb954):=⟨h12_⟩
           have n13_ : Aside0 (w.heap.size ≤ gb954):=⟨h13_⟩
           have n14_ : Aside0 (gb931 ≠ gb954):=⟨h14_⟩
           have n15_ : Aside0 (gb954 ≠ gb931):=⟨h15_⟩
           have n16_ : Aside0 (gb932 ≠ gb954):=⟨h16_⟩
           have n17_ : Aside0 (gb954 ≠ gb932):=⟨h17_⟩
           have n18_ : Aside0 (gb940 ≠ gb954):=⟨h18_⟩
           have n19_ : Aside0 (gb954 ≠ gb940):=⟨h19_⟩
           have n20_ : Aside0 (gb941 ≠ gb954):=⟨h20_⟩
           have n21_ : Aside0 (gb954 ≠ gb941):=⟨h21_⟩
           have n22_ : Aside0 (Below w.heap.size w w84):=⟨h22_⟩
           clear HO927
           clear HO930
           clear HO935
           clear HO938
           clear BK931
           clear BK932
           clear BK940
           clear BK941
           clear HB
           clear h0_ h1_ h2_ h3_ h4_ h5_ h6_ h7_ h8_ h9_ h10_ h11_ h12_ h13_ h14_ h15_ h16_ h17_ h18_ h19_ h20_ h21_ h22_
           have HO927:=n0_
           have HO930:=n1_
           have HO935:=n2_
           have HO938:=n3_
           have HO945:=n4_
           have HO948:=n5_
           have HO951:=n6_
           have BK931:=n7_
           have BK932:=n8_
           have BK940:=n9_
           have BK941:=n10_
           have BK954:=n11_
           have GE954:=n12_
           have GE954:=n13_
           have NB931_954:=n14_
           have NB954_931:=n15_
           have NB932_954:=n16_
           have NB954_932:=n17_
           have NB940_954:=n18_
           have NB954_940:=n19_
           have NB941_954:=n20_
           have NB954_941:=n21_
           have HB:=n22_
           clear n0_ n1_ n2_ n3_ n4_ n5_ n6_ n7_ n8_ n9_ n10_ n11_ n12_ n13_ n14_ n15_ n16_ n17_ n18_ n19_ n20_ n21_ n22_
           have hHeld : w84.cell? ⟨gb931,0,none⟩ = some (.slice Ao56 t925.length co56) ∧ w84.cell? ⟨gb932,0,none⟩ = some (.slice Ao60 t928.length co60):=hS_
           refine norm_ (a':=?_) ?_ ?_
           rotate_left
           ·simp only [putAll,Act.put,List.setIfInBounds_toArray,List.set_cons_zero,List.set_cons_succ]
            rfl
           refine q1 9 (some 10) HT_ rfl (fun K hK => ?_)
           refine box_step ?hg (N:=10) ?hd (cs:=#[.slice none 0 0]) (t:=38) ?hr ?_;(case hd => rfl);(case hg => rfl);(case hr => first|(go_simp;done)|(go_simp;rfl))
           intro gb953 hg w85 hbox hb
           replace HO927:=qVe HO927 hb hg
           replace HO930:=qVe HO930 hb hg
           replace HO935:=qVe HO935 hb hg
           replace HO938:=qVe HO938 hb hg
           replace HO945:=qVe HO945 hb hg
           replace HO948:=qVe HO948 hb hg
           replace HO951:=qVe HO951 hb hg
           have BK953:=Aside0.mk hbox
           have GE953:=qh hg HB
           replace HB:=qs HB hb
           have NB931_953:=ql hg BK931
           have NB953_931:=qg hg BK931
           replace BK931:=qb BK931 hb
           have NB932_953:=ql hg BK932
           have NB953_932:=qg hg BK932
           replace BK932:=qb BK932 hb
           have NB940_953:=ql hg BK940
           have NB953_940:=qg hg BK940
           replace BK940:=qb BK940 hb
           have NB941_953:=ql hg BK941
           have NB953_941:=qg hg BK941
           replace BK941:=qb BK941 hb
           have NB954_953:=ql hg BK954
           have NB953_954:=qg hg BK954
           replace BK954:=qb BK954 hb
           clear hb hbox hg
           refine hK.out _ _ ⟨bc BK931,bc BK932⟩ (fun hHeld => ?_)
           clear hK K
           refine qO 10 ?_
           exact norm_ (by first|(simp only [putAll,Act.put,List.setIfInBounds_toArray,List.set_cons_zero,List.set_cons_succ];done)|(simp only [putAll,Act.put,List.setIfInBounds_toArray,List.set_cons_zero,List.set_cons_succ];rfl)) (hJ2_4_9_10 (v944,v947,v950,gb953,gb954) _ ⟨hHeld,(qVm HO927),(qVm HO930),(qVm HO935),(qVm HO938),(qVm HO945),(qVm HO948),(qVm HO951),(qB BK931.out),(qB BK932.out),(qB BK940.out),(qB BK941.out),(qB BK953.out),(qB BK954.out),GE953.out,GE953.out,NB931_953.out,NB953_931.out,NB932_953.out,NB953_932.out,NB940_953.out,NB953_940.out,NB941_953.out,NB953_941.out,NB954_953.out,NB953_954.out,GE954.out,GE954.out,NB931_954.out,NB954_931.out,NB932_954.out,NB954_932.out,NB940_954.out,NB954_940.out,NB941_954.out,NB954_941.out,(qS HB)⟩)
         ·skip
          rintro ⟨v944,v947,v950,gb953⟩ w84 ⟨hS_,h0_,h1_,h2_,h3_,h4_,h5_,h6_,h7_,h8_,h9_,h10_,h11_,h12_,h13_,h14_,h15_,h16_,h17_,h18_,h19_,h20_,h21_,h22_⟩
          have n0_ : Aside0 (Kd.V (Kd.int .u32) 23 w84 w.heap.size (fun k_ => k_ ≠ gb931 ∧ k_ ≠ gb932 ∧ k_ ≠ gb940 ∧ k_ ≠ gb941 ∧ k_ ≠ gb953) (.slice Ao56 t925.length co56) t925):=⟨h0_⟩
          have n1_ : Aside0 (Kd.V (Kd.int .u32) 23 w84 w.heap.size (fun k_ => k_ ≠ gb931 ∧ k_ ≠ gb932 ∧ k_ ≠ gb940 ∧ k_ ≠ gb941 ∧ k_ ≠ gb953) (.slice Ao60 t928.length co60) t928):=⟨h1_⟩
          have n2_ : Aside0 (Kd.V (Kd.int .u32) 23 w84 w.heap.size (fun k_ => k_ ≠ gb931 ∧ k_ ≠ gb932 ∧ k_ ≠ gb940 ∧ k_ ≠ gb941 ∧ k_ ≠ gb953) (.slice Ao68 t933.length co68) t933):=⟨h2_⟩
          have n3_ : Aside0 (Kd.V (Kd.int .u32) 23 w84 w.heap.size (fun k_ => k_ ≠ gb931 ∧ k_ ≠ gb932 ∧ k_ ≠ gb940 ∧ k_ ≠ gb941 ∧ k_ ≠ gb953) (.slice Ao73 t936.length co73) t936):=⟨h3_⟩
          have n4_ : Aside0 (Kd.V (Kd.int .u32) 23 w84 w.heap.size (fun k_ => k_ ≠ gb931 ∧ k_ ≠ gb932 ∧ k_ ≠ gb940 ∧ k_ ≠ gb941 ∧ k_ ≠ gb953) v944 t943):=⟨h4_⟩
          have n5_ : Aside0 (Kd.V (Kd.int .u32) 23 w84 w.heap.size (fun k_ => k_ ≠ gb931 ∧ k_ ≠ gb932 ∧ k_ ≠ gb940 ∧ k_ ≠ gb941 ∧ k_ ≠ gb953) v947 t946):=⟨h5_⟩
          have n6_ : Aside0 (Kd.V (Kd.int .u32) 23 w84 w.heap.size (fun k_ => k_ ≠ gb931 ∧ k_ ≠ gb932 ∧ k_ ≠ gb940 ∧ k_ ≠ gb941 ∧ k_ ≠ gb953) v950 t949):=⟨h6_⟩
          have n7_ : Aside0 (w84.heap[gb931]? = some (.cells #[.slice Ao56 t925.length co56] 38 (0,0))):=⟨h7_⟩
          have n8_ : Aside0 (w84.heap[gb932]? = some (.cells #[.slice Ao60 t928.length co60] 38 (0,0))):=⟨h8_⟩
          have n9_ : Aside0 (w84.heap[gb940]? = some (.cells #[.slice Ao68 t933.length co68] 38 (0,0))):=⟨h9_⟩
          have n10_ : Aside0 (w84.heap[gb941]? = some (.cells #[.slice Ao73 t936.length co73] 38 (0,0))):=⟨h10_⟩
          have n11_ : Aside0 (w84.heap[gb953]? = some (.cells #[.slice none 0 0] 38 (0,0))):=⟨h11_⟩
          have n12_ : Aside0 (w.heap.size ≤ gb953):=⟨h12_⟩
          have n13_ : Aside0 (w.heap.size ≤ gb953):=⟨h13_⟩
          have n14_ : Aside0 (gb931 ≠ gb953):=⟨h14_⟩
          have n15_ : Aside0 (gb953 ≠ gb931):=⟨h15_⟩
          have n16_ : Aside0 (gb932 ≠ gb953):=⟨h16_⟩
          have n17_ : Aside0 (gb953 ≠ gb932):=⟨h17_⟩
          have n18_ : Aside0 (gb940 ≠ gb953):=⟨h18_⟩
          have n19_ : Aside0 (gb953 ≠ gb940):=⟨h19_⟩
          have n20_ : Aside0 (gb941 ≠ gb953):=⟨h20_⟩
          have n21_ : Aside0 (gb953 ≠ gb941):=⟨h21_⟩
          have n22_ : Aside0 (Below w.heap.size w w84):=⟨h22_⟩
          clear HO927
          clear HO930
          clear HO935
          clear HO938
          clear BK931
          clear BK932
          clear BK940
          clear BK941
          clear HB
          clear h0_ h1_ h2_ h3_ h4_ h5_ h6_ h7_ h8_ h9_ h10_ h11_ h12_ h13_ h14_ h15_ h16_ h17_ h18_ h19_ h20_ h21_ h22_
          have HO927:=n0_
          have HO930:=n1_
          have HO935:=n2_
          have HO938:=n3_
          have HO945:=n4_
          have HO948:=n5_
          have HO951:=n6_
          have BK931:=n7_
          have BK932:=n8_
          have BK940:=n9_
          have BK941:=n10_
          have BK953:=n11_
          have GE953:=n12_
          have GE953:=n13_
          have NB931_953:=n14_
          have NB953_931:=n15_
          have NB932_953:=n16_
          have NB953_932:=n17_
          have NB940_953:=n18_
          have NB953_940:=n19_
          have NB941_953:=n20_
          have NB953_941:=n21_
          have HB:=n22_
          clear n0_ n1_ n2_ n3_ n4_ n5_ n6_ n7_ n8_ n9_ n10_ n11_ n12_ n13_ n14_ n15_ n16_ n17_ n18_ n19_ n20_ n21_ n22_
          have hHeld : w84.cell? ⟨gb931,0,none⟩ = some (.slice Ao56 t925.length co56) ∧ w84.cell? ⟨gb932,0,none⟩ = some (.slice Ao60 t928.length co60):=hS_
          refine norm_ (a':=?_) ?_ ?_
          rotate_left
          ·simp only [putAll,Act.put,List.setIfInBounds_toArray,List.set_cons_zero,List.set_cons_succ]
           rfl
          refine q1 10 (some 11) HT_ rfl (fun K hK => ?_)
          refine box_step ?hg (N:=11) ?hd (cs:=#[.slice none 0 0]) (t:=38) ?hr ?_;(case hd => rfl);(case hg => rfl);(case hr => first|(go_simp;done)|(go_simp;rfl))
          intro gb954 hg w85 hbox hb
          replace HO927:=qVe HO927 hb hg
          replace HO930:=qVe HO930 hb hg
          replace HO935:=qVe HO935 hb hg
          replace HO938:=qVe HO938 hb hg
          replace HO945:=qVe HO945 hb hg
          replace HO948:=qVe HO948 hb hg
          replace HO951:=qVe HO951 hb hg
          have BK954:=Aside0.mk hbox
          have GE954:=qh hg HB
          replace HB:=qs HB hb
          have NB931_954:=ql hg BK931
          have NB954_931:=qg hg BK931
          replace BK931:=qb BK931 hb
          have NB932_954:=ql hg BK932
          have NB954_932:=qg hg BK932
          replace BK932:=qb BK932 hb
          have NB940_954:=ql hg BK940
          have NB954_940:=qg hg BK940
          replace BK940:=qb BK940 hb
          have NB941_954:=ql hg BK941
          have NB954_941:=qg hg BK941
          replace BK941:=qb BK941 hb
          have NB953_954:=ql hg BK953
          have NB954_953:=qg hg BK953
          replace BK953:=qb BK953 hb
          clear hb hbox hg
          refine hK.out _ _ ⟨bc BK931,bc BK932⟩ (fun hHeld => ?_)
          clear hK K
          refine qO 11 ?_
          exact norm_ (by first|(simp only [putAll,Act.put,List.setIfInBounds_toArray,List.set_cons_zero,List.set_cons_succ];done)|(simp only [putAll,Act.put,List.setIfInBounds_toArray,List.set_cons_zero,List.set_cons_succ];rfl)) (hJ2_4_9_10 (v944,v947,v950,gb953,gb954) _ ⟨hHeld,(qVm HO927),(qVm HO930),(qVm HO935),(qVm HO938),(qVm HO945),(qVm HO948),(qVm HO951),(qB BK931.out),(qB BK932.out),(qB BK940.out),(qB BK941.out),(qB BK953.out),(qB BK954.out),GE953.out,GE953.out,NB931_953.out,NB953_931.out,NB932_953.out,NB953_932.out,NB940_953.out,NB953_940.out,NB941_953.out,NB953_941.out,NB954_953.out,NB953_954.out,GE954.out,GE954.out,NB931_954.out,NB954_931.out,NB932_954.out,NB954_932.out,NB940_954.out,NB954_940.out,NB941_954.out,NB954_941.out,(qS HB)⟩)
        rintro ⟨v944,v947,v950,gb953,gb954⟩ w85 ⟨hS_,h0_,h1_,h2_,h3_,h4_,h5_,h6_,h7_,h8_,h9_,h10_,h11_,h12_,h13_,h14_,h15_,h16_,h17_,h18_,h19_,h20_,h21_,h22_,h23_,h24_,h25_,h26_,h27_,h28_,h29_,h30_,h31_,h32_,h33_,h34_,h35_⟩
        have n0_ : Aside0 (Kd.V (Kd.int .u32) 23 w85 w.heap.size (fun k_ => k_ ≠ gb931 ∧ k_ ≠ gb932 ∧ k_ ≠ gb940 ∧ k_ ≠ gb941 ∧ k_ ≠ gb953 ∧ k_ ≠ gb954) (.slice Ao56 t925.length co56) t925):=⟨h0_⟩
        have n1_ : Aside0 (Kd.V (Kd.int .u32) 23 w85 w.heap.size (fun k_ => k_ ≠ gb931 ∧ k_ ≠ gb932 ∧ k_ ≠ gb940 ∧ k_ ≠ gb941 ∧ k_ ≠ gb953 ∧ k_ ≠ gb954) (.slice Ao60 t928.length co60) t928):=⟨h1_⟩
        have n2_ : Aside0 (Kd.V (Kd.int .u32) 23 w85 w.heap.size (fun k_ => k_ ≠ gb931 ∧ k_ ≠ gb932 ∧ k_ ≠ gb940 ∧ k_ ≠ gb941 ∧ k_ ≠ gb953 ∧ k_ ≠ gb954) (.slice Ao68 t933.length co68) t933):=⟨h2_⟩
        have n3_ : Aside0 (Kd.V (Kd.int .u32) 23 w85 w.heap.size (fun k_ => k_ ≠ gb931 ∧ k_ ≠ gb932 ∧ k_ ≠ gb940 ∧ k_ ≠ gb941 ∧ k_ ≠ gb953 ∧ k_ ≠ gb954) (.slice Ao73 t936.length co73) t936):=⟨h3_⟩
        have n4_ : Aside0 (Kd.V (Kd.int .u32) 23 w85 w.heap.size (fun k_ => k_ ≠ gb931 ∧ k_ ≠ gb932 ∧ k_ ≠ gb940 ∧ k_ ≠ gb941 ∧ k_ ≠ gb953 ∧ k_ ≠ gb954) v944 t943):=⟨h4_⟩
        have n5_ : Aside0 (Kd.V (Kd.int .u32) 23 w85 w.heap.size (fun k_ => k_ ≠ gb931 ∧ k_ ≠ gb932 ∧ k_ ≠ gb940 ∧ k_ ≠ gb941 ∧ k_ ≠ gb953 ∧ k_ ≠ gb954) v947 t946):=⟨h5_⟩
        have n6_ : Aside0 (Kd.V (Kd.int .u32) 23 w85 w.heap.size (fun k_ => k_ ≠ gb931 ∧ k_ ≠ gb932 ∧ k_ ≠ gb940 ∧ k_ ≠ gb941 ∧ k_ ≠ gb953 ∧ k_ ≠ gb954) v950 t949):=⟨h6_⟩
        have n7_ : Aside0 (w85.heap[gb931]? = some (.cells #[.slice Ao56 t925.length co56] 38 (0,0))):=⟨h7_⟩
        have n8_ : Aside0 (w85.heap[gb932]? = some (.cells #[.slice Ao60 t928.length co60] 38 (0,0))):=⟨h8_⟩
        have n9_ : Aside0 (w85.heap[gb940]? = some (.cells #[.slice Ao68 t933.length co68] 38 (0,0))):=⟨h9_⟩
        have n10_ : Aside0 (w85.heap[gb941]? = some (.cells #[.slice Ao73 t936.length co73] 38 (0,0))):=⟨h10_⟩
        have n11_ : Aside0 (w85.heap[gb953]? = some (.cells #[.slice none 0 0] 38 (0,0))):=⟨h11_⟩
        have n12_ : Aside0 (w85.heap[gb954]? = some (.cells #[.slice none 0 0] 38 (0,0))):=⟨h12_⟩
        have n13_ : Aside0 (w.heap.size ≤ gb953):=⟨h13_⟩
        have n14_ : Aside0 (w.heap.size ≤ gb953):=⟨h14_⟩
        have n15_ : Aside0 (gb931 ≠ gb953):=⟨h15_⟩
        have n16_ : Aside0 (gb953 ≠ gb931):=⟨h16_⟩
        have n17_ : Aside0 (gb932 ≠ gb953):=⟨h17_⟩
        have n18_ : Aside0 (gb953 ≠ gb932):=⟨h18_⟩
        have n19_ : Aside0 (gb940 ≠ gb953):=⟨h19_⟩
        have n20_ : Aside0 (gb953 ≠ gb940):=⟨h20_⟩
        have n21_ : Aside0 (gb941 ≠ gb953):=⟨h21_⟩
        have n22_ : Aside0 (gb953 ≠ gb941):=⟨h22_⟩
        have n23_ : Aside0 (gb954 ≠ gb953):=⟨h23_⟩
        have n24_ : Aside0 (gb953 ≠ gb954):=⟨h24_⟩
        have n25_ : Aside0 (w.heap.size ≤ gb954):=⟨h25_⟩
        have n26_ : Aside0 (w.heap.size ≤ gb954):=⟨h26_⟩
        have n27_ : Aside0 (gb931 ≠ gb954):=⟨h27_⟩
        have n28_ : Aside0 (gb954 ≠ gb931):=⟨h28_⟩
        have n29_ : Aside0 (gb932 ≠ gb954):=⟨h29_⟩
        have n30_ : Aside0 (gb954 ≠ gb932):=⟨h30_⟩
        have n31_ : Aside0 (gb940 ≠ gb954):=⟨h31_⟩
        have n32_ : Aside0 (gb954 ≠ gb940):=⟨h32_⟩
        have n33_ : Aside0 (gb941 ≠ gb954):=⟨h33_⟩
        have n34_ : Aside0 (gb954 ≠ gb941):=⟨h34_⟩
        have n35_ : Aside0 (Below w.heap.size w w85):=⟨h35_⟩
        clear HO927
        clear HO930
        clear HO935
        clear HO938
        clear BK931
        clear BK932
        clear BK940
        clear BK941
        clear HB
        clear h0_ h1_ h2_ h3_ h4_ h5_ h6_ h7_ h8_ h9_ h10_ h11_ h12_ h13_ h14_ h15_ h16_ h17_ h18_ h19_ h20_ h21_ h22_ h23_ h24_ h25_ h26_ h27_ h28_ h29_ h30_ h31_ h32_ h33_ h34_ h35_
        have HO927:=n0_
        have HO930:=n1_
        have HO935:=n2_
        have HO938:=n3_
        have HO945:=n4_
        have HO948:=n5_
        have HO951:=n6_
        have BK931:=n7_
        have BK932:=n8_
        have BK940:=n9_
        have BK941:=n10_
        have BK953:=n11_
        have BK954:=n12_
        have GE953:=n13_
        have GE953:=n14_
        have NB931_953:=n15_
        have NB953_931:=n16_
        have NB932_953:=n17_
        have NB953_932:=n18_
        have NB940_953:=n19_
        have NB953_940:=n20_
        have NB941_953:=n21_
        have NB953_941:=n22_
        have NB954_953:=n23_
        have NB953_954:=n24_
        have GE954:=n25_
        have GE954:=n26_
        have NB931_954:=n27_
        have NB954_931:=n28_
        have NB932_954:=n29_
        have NB954_932:=n30_
        have NB940_954:=n31_
        have NB954_940:=n32_
        have NB941_954:=n33_
        have NB954_941:=n34_
        have HB:=n35_
        clear n0_ n1_ n2_ n3_ n4_ n5_ n6_ n7_ n8_ n9_ n10_ n11_ n12_ n13_ n14_ n15_ n16_ n17_ n18_ n19_ n20_ n21_ n22_ n23_ n24_ n25_ n26_ n27_ n28_ n29_ n30_ n31_ n32_ n33_ n34_ n35_
        have hHeld : w85.cell? ⟨gb931,0,none⟩ = some (.slice Ao56 t925.length co56) ∧ w85.cell? ⟨gb932,0,none⟩ = some (.slice Ao60 t928.length co60):=hS_
        obtain ⟨Ao86,co86,eo86⟩:=Kd.V_slice HO948.out
        (first|subst eo86|(injection eo86 with f1_ f2_ f3_;have f4_:=f1_.symm;have f5_:=f3_.symm;clear f1_ f2_ f3_;subst f4_;subst f5_))
        obtain ⟨Ao88,co88,eo88⟩:=Kd.V_slice HO951.out
        (first|subst eo88|(injection eo88 with f1_ f2_ f3_;have f4_:=f1_.symm;have f5_:=f3_.symm;clear f1_ f2_ f3_;subst f4_;subst f5_))
        refine norm_ (a':=?_) ?_ ?_
        rotate_left
        ·simp only [putAll,Act.put,List.setIfInBounds_toArray,List.set_cons_zero,List.set_cons_succ]
         rfl
        refine q1 11 none HT_ rfl (fun K hK => ?_)
        have hs87 : w85.cell? ⟨gb953,0,none⟩ = some (.slice none 0 0):=bc BK953
        have hfs87:=blk_frozen BK953.out 0
        have hns87_0:=NB931_953.out
        have hns87_1:=NB932_953.out
        have hns87_2:=NB940_953.out
        have hns87_3:=NB941_953.out
        have hns87_5:=NB954_953.out
        have hms87_0:=NB953_931.out
        have hms87_1:=NB953_932.out
        have hms87_2:=NB953_940.out
        have hms87_3:=NB953_941.out
        have hms87_5:=NB953_954.out
        refine skip_ (w1:=?_) (by rfl) rfl ?_ ?_
        rotate_left
        ·go_simp
         rfl
        refine hK.out _ _ ⟨((cell_far (p:=⟨gb953,_,none⟩) NB931_953.out _).trans (hHeld.1)),((cell_far (p:=⟨gb953,_,none⟩) NB932_953.out _).trans (hHeld.2))⟩ (fun hHeld => ?_)
        clear hK K
        refine q1 12 none HT_ rfl (fun K hK => ?_)
        have hs89 : w85.cell? ⟨gb954,0,none⟩ = some (.slice none 0 0):=bc BK954
        have hfs89:=blk_frozen BK954.out 0
        have hns89_0:=NB931_954.out
        have hns89_1:=NB932_954.out
        have hns89_2:=NB940_954.out
        have hns89_3:=NB941_954.out
        have hns89_4:=NB953_954.out
        have hms89_0:=NB954_931.out
        have hms89_1:=NB954_932.out
        have hms89_2:=NB954_940.out
        have hms89_3:=NB954_941.out
        have hms89_4:=NB954_953.out
        refine skip_ (w1:=?_) (by rfl) rfl ?_ ?_
        rotate_left
        ·go_simp
         rfl
        refine hK.out _ _ ⟨((cell_far (p:=⟨gb954,_,none⟩) NB931_954.out _).trans (hHeld.1)),((cell_far (p:=⟨gb954,_,none⟩) NB932_954.out _).trans (hHeld.2))⟩ (fun hHeld => ?_)
        clear hK K
        refine qP 13 12 HT_ ?_
        refine qD HT_ ?_
        try go_wp2
        generalize hw : ((w85.setCell ⟨gb953,0,none⟩ (.slice Ao86 t946.length co86)).setCell ⟨gb954,0,none⟩ (.slice Ao88 t949.length co88)) = w90
        replace hw:=hw.symm
        replace HO927:=qVh hw HO927
        replace HO930:=qVh hw HO930
        replace HO935:=qVh hw HO935
        replace HO938:=qVh hw HO938
        replace HO945:=qVh hw HO945
        replace HO948:=qVh hw HO948
        replace HO951:=qVh hw HO951
        replace BK931:=qBh hw BK931
        replace BK932:=qBh hw BK932
        replace BK940:=qBh hw BK940
        replace BK941:=qBh hw BK941
        replace BK953:=qBp hw BK953
        replace BK954:=qBp hw BK954
        replace HB:=qSh hw HB
        clear hw
        replace HO927:=qVw HO927
        replace HO930:=qVw HO930
        replace HO935:=qVw HO935
        replace HO938:=qVw HO938
        replace HO945:=qVw HO945
        replace HO948:=qVw HO948
        replace HO951:=qVw HO951
        replace BK931:=qbd BK931
        replace BK932:=qbd BK932
        replace BK940:=qbd BK940
        replace BK941:=qbd BK941
        replace BK953:=qbd BK953
        replace BK954:=qbd BK954
        replace HB:=qsd HB
        refine start_ (n:=33) (S:=fun w' => w'.cell? ⟨gb940,0,none⟩ = some (.slice Ao68 t933.length co68) ∧ w'.cell? ⟨gb932,0,none⟩ = some (.slice Ao60 t928.length co60) ∧ w'.cell? ⟨gb941,0,none⟩ = some (.slice Ao73 t936.length co73) ∧ w'.cell? ⟨gb931,0,none⟩ = some (.slice Ao56 t925.length co56) ∧ w'.cell? ⟨gb953,0,none⟩ = some (.slice Ao86 t946.length co86) ∧ w'.cell? ⟨gb954,0,none⟩ = some (.slice Ao88 t949.length co88)) (ds:=[]) #[false,false,false,false,false,false,false,false,false,false,false,false,false,false,false,false,false,false,false,false,false,false,false,false,false,false,false,false,false,false,false,false,false] (by kernel_rfl) rfl rfl ⟨bc BK940,bc BK932,bc BK941,bc BK931,bc BK953,bc BK954⟩ (fun hHeld => ?_);refine with_tabW sacristylaw01_NatBack.tab8 sacristylaw01_NatBack.bits8 (fun HT_ HW_ => ?_)
        generalize w90.drew = w91 at HO927 HO930 HO935 HO938 HO945 HO948 HO951 BK931 BK932 BK940 BK941 BK953 BK954 HB hHeld ⊢
        refine qP 0 39 HT_ ?_
        refine qP 1 40 HT_ ?_
        refine qP 2 41 HT_ ?_
        refine qP 3 42 HT_ ?_
        refine qP 4 43 HT_ ?_
        refine qP 5 44 HT_ ?_
        refine qP 6 45 HT_ ?_
        refine qT 7 46 HT_ HW_ hHeld ?_
        refine qT 8 47 HT_ HW_ hHeld ?_
        refine qT 10 49 HT_ HW_ hHeld ?_
        refine qT 12 51 HT_ HW_ hHeld ?_
        refine q1 9 (some 48) HT_ rfl (fun K hK => ?_)
        refine g_ Try.func57 #[.agg #[.slice Ao68 t933.length co68],.agg #[.slice Ao60 t928.length co60]] ?_
        with_reducible refine (nat_Nat_Mul.calls k _ _ t933 _ _ t928 t955 _ ?side1 ?side2 ?side3 ?side4 A42.out).mono ?_
        (case side1 => exact qCV HO935)
        (case side2 => exact qL HO935)
        (case side3 => exact qCV HO930)
        (case side4 => exact qL HO930)
        rintro e w92 ⟨v956,rfl,ho0,hb⟩
        refine ⟨_,rfl,?_⟩
        replace HO927:=qVb HO927 hb
        replace HO930:=qVb HO930 hb
        replace HO935:=qVb HO935 hb
        replace HO938:=qVb HO938 hb
        replace HO945:=qVb HO945 hb
        replace HO948:=qVb HO948 hb
        replace HO951:=qVb HO951 hb
        have HO957:=Aside0.mk (Kd.V_lower (Kd.V_mono (ok':=fun k_ => k_ ≠ gb931 ∧ k_ ≠ gb932 ∧ k_ ≠ gb940 ∧ k_ ≠ gb941 ∧ k_ ≠ gb953 ∧ k_ ≠ gb954) ho0 (fun k_ hk_ => ⟨(Kd.freshB (qB BK931.out) k_ hk_),(Kd.freshB (qB BK932.out) k_ hk_),(Kd.freshB (qB BK940.out) k_ hk_),(Kd.freshB (qB BK941.out) k_ hk_),(Kd.freshB (qB BK953.out) k_ hk_),(Kd.freshB (qB BK954.out) k_ hk_)⟩)) (below_size (qS HB)))
        replace BK931:=qb BK931 hb
        replace BK932:=qb BK932 hb
        replace BK940:=qb BK940 hb
        replace BK941:=qb BK941 hb
        replace BK953:=qb BK953 hb
        replace BK954:=qb BK954 hb
        replace HB:=qs HB hb
        clear hb ho0
        obtain ⟨Ao93,co93,eo93⟩:=Kd.V_slice HO957.out
        (first|subst eo93|(injection eo93 with f1_ f2_ f3_;have f4_:=f1_.symm;have f5_:=f3_.symm;clear f1_ f2_ f3_;subst f4_;subst f5_))
        refine hK.out _ _ ⟨bc BK940,bc BK932,bc BK941,bc BK931,bc BK953,bc BK954⟩ (fun hHeld => ?_)
        clear hK K
        refine qO 48 ?_
        refine q1 11 (some 50) HT_ rfl (fun K hK => ?_)
        refine g_ Try.func60 #[.agg #[.slice Ao93 t955.length co93],.agg #[.slice Ao73 t936.length co73]] ?_
        with_reducible refine (nat_Nat_Add.calls k _ _ t955 _ _ t936 t958 _ ?side1 ?side2 ?side3 ?side4 A43.out).mono ?_
        (case side1 => exact qCV HO957)
        (case side2 => exact qL HO957)
        (case side3 => exact qCV HO938)
        (case side4 => exact qL HO938)
        rintro e w94 ⟨v959,rfl,ho0,hb⟩
        refine ⟨_,rfl,?_⟩
        replace HO927:=qVb HO927 hb
        replace HO930:=qVb HO930 hb
        replace HO935:=qVb HO935 hb
        replace HO938:=qVb HO938 hb
        replace HO945:=qVb HO945 hb
        replace HO948:=qVb HO948 hb
        replace HO951:=qVb HO951 hb
        replace HO957:=qVb HO957 hb
        have HO960:=Aside0.mk (Kd.V_lower (Kd.V_mono (ok':=fun k_ => k_ ≠ gb931 ∧ k_ ≠ gb932 ∧ k_ ≠ gb940 ∧ k_ ≠ gb941 ∧ k_ ≠ gb953 ∧ k_ ≠ gb954) ho0 (fun k_ hk_ => ⟨(Kd.freshB (qB BK931.out) k_ hk_),(Kd.freshB (qB BK932.out) k_ hk_),(Kd.freshB (qB BK940.out) k_ hk_),(Kd.freshB (qB BK941.out) k_ hk_),(Kd.freshB (qB BK953.out) k_ hk_),(Kd.freshB (qB BK954.out) k_ hk_)⟩)) (below_size (qS HB)))
        replace BK931:=qb BK931 hb
        replace BK932:=qb BK932 hb
        replace BK940:=qb BK940 hb
        replace BK941:=qb BK941 hb
        replace BK953:=qb BK953 hb
        replace BK954:=qb BK954 hb
        replace HB:=qs HB hb
        clear hb ho0
        obtain ⟨Ao95,co95,eo95⟩:=Kd.V_slice HO960.out
        (first|subst eo95|(injection eo95 with f1_ f2_ f3_;have f4_:=f1_.symm;have f5_:=f3_.symm;clear f1_ f2_ f3_;subst f4_;subst f5_))
        refine hK.out _ _ ⟨bc BK940,bc BK932,bc BK941,bc BK931,bc BK953,bc BK954⟩ (fun hHeld => ?_)
        clear hK K
        refine qO 50 ?_
        refine q1 13 (some 52) HT_ rfl (fun K hK => ?_)
        refine g_ Try.func45 #[.agg #[.slice Ao95 t958.length co95],.agg #[.slice Ao56 t925.length co56]] ?_
        with_reducible refine (nat_Nat_Cmp.calls k _ _ t958 _ _ t925 t961 _ ?side1 ?side2 ?side3 ?side4 A44.out).mono ?_
        (case side1 => exact qCV HO960)
        (case side2 => exact qL HO960)
        (case side3 => exact qCV HO927)
        (case side4 => exact qL HO927)
        rintro e w96 ⟨rfl,hb⟩
        refine ⟨_,rfl,?_⟩
        replace HO927:=qVb HO927 hb
        replace HO930:=qVb HO930 hb
        replace HO935:=qVb HO935 hb
        replace HO938:=qVb HO938 hb
        replace HO945:=qVb HO945 hb
        replace HO948:=qVb HO948 hb
        replace HO951:=qVb HO951 hb
        replace HO957:=qVb HO957 hb
        replace HO960:=qVb HO960 hb
        replace BK931:=qb BK931 hb
        replace BK932:=qb BK932 hb
        replace BK940:=qb BK940 hb
        replace BK941:=qb BK941 hb
        replace BK953:=qb BK953 hb
        replace BK954:=qb BK954 hb
        replace HB:=qs HB hb
        clear hb
        refine hK.out _ _ ⟨bc BK940,bc BK932,bc BK941,bc BK931,bc BK953,bc BK954⟩ (fun hHeld => ?_)
        clear hK K
        refine qO 52 ?_
        refine qP 14 53 HT_ ?_
        refine qP 15 54 HT_ ?_
        refine qP 16 55 HT_ ?_
        refine qT 17 56 HT_ HW_ hHeld ?_
        refine qT 18 57 HT_ HW_ hHeld ?_
        refine q1 19 (some 58) HT_ rfl (fun K hK => ?_)
        refine g_ Try.func45 #[.agg #[.slice Ao73 t936.length co73],.agg #[.slice Ao60 t928.length co60]] ?_
        with_reducible refine (nat_Nat_Cmp.calls k _ _ t936 _ _ t928 t962 _ ?side1 ?side2 ?side3 ?side4 A46.out).mono ?_
        (case side1 => exact qCV HO938)
        (case side2 => exact qL HO938)
        (case side3 => exact qCV HO930)
        (case side4 => exact qL HO930)
        rintro e w97 ⟨rfl,hb⟩
        refine ⟨_,rfl,?_⟩
        replace HO927:=qVb HO927 hb
        replace HO930:=qVb HO930 hb
        replace HO935:=qVb HO935 hb
        replace HO938:=qVb HO938 hb
        replace HO945:=qVb HO945 hb
        replace HO948:=qVb HO948 hb
        replace HO951:=qVb HO951 hb
        replace HO957:=qVb HO957 hb
        replace HO960:=qVb HO960 hb
        replace BK931:=qb BK931 hb
        replace BK932:=qb BK932 hb
        replace BK940:=qb BK940 hb
        replace BK941:=qb BK941 hb
        replace BK953:=qb BK953 hb
        replace BK954:=qb BK954 hb
        replace HB:=qs HB hb
        clear hb
        refine hK.out _ _ ⟨bc BK940,bc BK932,bc BK941,bc BK931,bc BK953,bc BK954⟩ (fun hHeld => ?_)
        clear hK K
        refine qO 58 ?_
        refine qP 20 59 HT_ ?_
        refine qP 21 60 HT_ ?_
        refine qP 22 61 HT_ ?_
        refine qT 23 62 HT_ HW_ hHeld ?_
        refine qT 24 63 HT_ HW_ hHeld ?_
        refine q1 25 (some 64) HT_ rfl (fun K hK => ?_)
        refine g_ Try.func45 #[.agg #[.slice Ao86 t946.length co86],.agg #[.slice Ao56 t925.length co56]] ?_
        with_reducible refine (nat_Nat_Cmp.calls k _ _ t946 _ _ t925 t963 _ ?side1 ?side2 ?side3 ?side4 A48.out).mono ?_
        (case side1 => exact qCV HO948)
        (case side2 => exact qL HO948)
        (case side3 => exact qCV HO927)
        (case side4 => exact qL HO927)
        rintro e w98 ⟨rfl,hb⟩
        refine ⟨_,rfl,?_⟩
        replace HO927:=qVb HO927 hb
        replace HO930:=qVb HO930 hb
        replace HO935:=qVb HO935 hb
        replace HO938:=qVb HO938 hb
        replace HO945:=qVb HO945 hb
        replace HO948:=qVb HO948 hb
        replace HO951:=qVb HO951 hb
        replace HO957:=qVb HO957 hb
        replace HO960:=qVb HO960 hb
        replace BK931:=qb BK931 hb
        replace BK932:=qb BK932 hb
        replace BK940:=qb BK940 hb
        replace BK941:=qb BK941 hb
        replace BK953:=qb BK953 hb
        replace BK954:=qb BK954 hb
        replace HB:=qs HB hb
        clear hb
        refine hK.out _ _ ⟨bc BK940,bc BK932,bc BK941,bc BK931,bc BK953,bc BK954⟩ (fun hHeld => ?_)
        clear hK K
        refine qO 64 ?_
        refine qP 26 65 HT_ ?_
        refine qP 27 66 HT_ ?_
        refine qP 28 67 HT_ ?_
        refine qT 29 68 HT_ HW_ hHeld ?_
        refine q1 30 (some 69) HT_ rfl (fun K hK => ?_)
        refine g_ Try.func44 #[.agg #[.slice Ao88 t949.length co88]] ?_
        with_reducible refine (nat_Nat_Zero.calls _ _ t949 t964 _ ?side1 ?side2 A50.out).mono ?_
        (case side1 => exact qCV HO951)
        (case side2 => exact qL HO951)
        rintro e w99 ⟨rfl,hb⟩
        refine ⟨_,rfl,?_⟩
        replace HO927:=qVb HO927 hb
        replace HO930:=qVb HO930 hb
        replace HO935:=qVb HO935 hb
        replace HO938:=qVb HO938 hb
        replace HO945:=qVb HO945 hb
        replace HO948:=qVb HO948 hb
        replace HO951:=qVb HO951 hb
        replace HO957:=qVb HO957 hb
        replace HO960:=qVb HO960 hb
        replace BK931:=qb BK931 hb
        replace BK932:=qb BK932 hb
        replace BK940:=qb BK940 hb
        replace BK941:=qb BK941 hb
        replace BK953:=qb BK953 hb
        replace BK954:=qb BK954 hb
        replace HB:=qs HB hb
        clear hb
        refine hK.out _ _ ⟨bc BK940,bc BK932,bc BK941,bc BK931,bc BK953,bc BK954⟩ (fun hHeld => ?_)
        clear hK K
        refine qO 69 ?_
        refine qP 31 70 HT_ ?_
        refine qP 32 4 HT_ ?_
        refine qD HT_ ?_
        try go_wp2
        (first|go_ret|(refine ⟨_,results_tmp rfl _ _ _,?_⟩))
        exact ⟨by first|rfl|(simp [errW_none,errW_some] <;> rfl)|(simp [*,errW_none,errW_some] <;> rfl),qS HB⟩
       ·rw [if_neg c49] at H
        have c49b0 : (t963 == 0) = false:=beq_eq_false_iff_ne.mpr c49
        have c49b1 : (t963 != 0) = true:=bne_iff_ne.mpr c49
        exact absurd H (by simp)
      ·rw [if_neg c47] at H
       have c47b0 : decide (t962 < 0) = false:=decide_eq_false c47
       clear c47
       exact absurd H (by simp)
     ·rw [if_neg c45] at H
      have c45b0 : (t961 == 0) = false:=beq_eq_false_iff_ne.mpr c45
      have c45b1 : (t961 != 0) = true:=bne_iff_ne.mpr c45
      exact absurd H (by simp)
    ·rw [if_neg c41] at H
     have c41b0 : (t952 == 0) = false:=beq_eq_false_iff_ne.mpr c41
     have c41b1 : (t952 != 0) = true:=bne_iff_ne.mpr c41
     exact absurd H (by simp)
   ·rw [if_neg c40] at H
    have c40b0 : (t939 == 0) = false:=beq_eq_false_iff_ne.mpr c40
    have c40b1 : (t939 != 0) = true:=bne_iff_ne.mpr c40
    exact absurd H (by simp)
 ·replace c4:=Bool.eq_false_iff.mpr c4
  subst c4
  rw [qFT] at H
  exact absurd H (by simp)
def sacristylaw01_NatBack.Pure : Prop:=∀ (l0 : List Int) (l1 : List Int),l0.length ≤ maxLen → l0.length * 1 ≤ 140737488351232 → (∀ x ∈ l0,(Lit.int .u8 x).wf = true) → l1.length ≤ maxLen → l1.length * 1 ≤ 140737488351232 → (∀ x ∈ l1,(Lit.int .u8 x).wf = true) → ∃ k,sacristylaw01_NatBack.f k l0 l1 = some true
theorem sacristylaw01_NatBack.walk (P : sacristylaw01_NatBack.Pure) (a0 : Option Addr) (len0 cap0 : Nat) (z0 : List Int) (a1 : Option Addr) (len1 cap1 : Nat) (z1 : List Int) (w : World) (w0 : (a0 = none ∧ len0 = 0 ∧ cap0 = 0 ∧ z0 = []) ∨ ∃ x,a0 = some x ∧ len0 ≤ cap0 ∧ cap0 ≤ maxLen ∧ z0.length = cap0 ∧ (∀ i,i < z0.length → w.cell? (x.add i) = some (.int .u8 (z0.getD i 0))) ∧ ∀ n ∈ z0,(Lit.int .u8 n).wf = true) (y0 : len0 * 1 ≤ 140737488351232) (w1 : (a1 = none ∧ len1 = 0 ∧ cap1 = 0 ∧ z1 = []) ∨ ∃ x,a1 = some x ∧ len1 ≤ cap1 ∧ cap1 ≤ maxLen ∧ z1.length = cap1 ∧ (∀ i,i < z1.length → w.cell? (x.add i) = some (.int .u8 (z1.getD i 0))) ∧ ∀ n ∈ z1,(Lit.int .u8 n).wf = true) (y1 : len1 * 1 ≤ 140737488351232) :
  Calls Try.prog 14 #[.slice a0 len0 cap0,.slice a1 len1 cap1] w fun e w' => e = .returned (.bool true) ∧ Below w.heap.size w w':=by
 obtain ⟨l0,rfl,hr0,hm0,hw0,hc0⟩:=ReadsInt.ofRowC w0
 obtain ⟨l1,rfl,hr1,hm1,hw1,hc1⟩:=ReadsInt.ofRowC w1
 obtain ⟨k,h⟩:=P l0 l1 hm0 y0 hw0 hm1 y1 hw1
 refine (sacristylaw01_NatBack.calls k _ _ l0 _ _ l1 true w (Kd.C_of_reads (d:=(0 : Int)) (h1:=fun _ => rfl) hr0) hc0 (Kd.C_of_reads (d:=(0 : Int)) (h1:=fun _ => rfl) hr1) hc1 h).mono ?_
 rintro e w' ⟨rfl,hd⟩
 exact ⟨rfl,hd⟩
end Go.Proofs.Yteejcpbngnojkaa.P
end
section
namespace Go.Proofs.Yteejcpbngnojkaa.P
open Go.RowKit Go.Proofs.YteejcpbngnojkaaW.PrintWords Go.Proofs.YteejcpbngnojkaaW.PrintLast Go.Proofs.YteejcpbngnojkaaW.PrintMore
attribute [local go_sem] max2_int min2_int max_two min_two max_three min_three max_four min_four
set_option linter.unusedVariables false
set_option linter.unusedSimpArgs false
def sacristyref01_Cmp.l0 : Nat → List Bool → List Bool → Int → Option (Int)
 |0,_,_,_ => none
 |k + 1,x0,x1,x5 => if x5 ≥ 0 then (if 0 ≤ x5 then (if x5 < (x0.length : Int) then (if x5 < (x1.length : Int) then (if ((rdOf false x0 x5) != (rdOf false x1 x5)) = true then (if rdOf false x1 x5 = true then (some (-1)) else (some 1)) else (sacristyref01_Cmp.l0 k x0 x1 (wrap64 (x5 - 1)))) else (none)) else (none)) else (none)) else (some 0)
def sacristyref01_Cmp.f (k : Nat) (l0 : List Bool) (l1 : List Bool) : Option (Int):=if (l0.length : Int) < (l1.length : Int) then (some (-1)) else (if (l0.length : Int) > (l1.length : Int) then (some 1) else (sacristyref01_Cmp.l0 k l0 l1 (wrap64 ((l0.length : Int) - 1))))
theorem sacristyref01_Cmp.mono_l : ∀ k,(∀ y0 y1 y2,LeO (sacristyref01_Cmp.l0 k y0 y1 y2) (sacristyref01_Cmp.l0 (k + 1) y0 y1 y2))
 |0 => fun _ _ _ r h => by simp [sacristyref01_Cmp.l0] at h
 |k + 1 => by
  have ih0:=sacristyref01_Cmp.mono_l k
  ·intro y0 y1 y2
   unfold sacristyref01_Cmp.l0
   repeat' first
   |(with_reducible exact ih0 _ _ _)
   |(with_reducible exact LeO.refl _)
   |(with_reducible exact LeO.none _)
   |(with_reducible refine LeO.ite ?_ ?_)
   |(with_reducible refine LeO.bind ?_ (fun _ => ?_))
   |exact ih0 _ _ _
   |exact LeO.none _
   |refine LeO.ite ?_ ?_
   |refine LeO.bind ?_ (fun _ => ?_)
theorem sacristyref01_Cmp.mono : ∀ a0 a1 k,LeO (sacristyref01_Cmp.f k a0 a1) (sacristyref01_Cmp.f (k + 1) a0 a1):=by
 intro a0 a1 k
 have ih0:=sacristyref01_Cmp.mono_l k
 unfold sacristyref01_Cmp.f
 repeat' first
   |(with_reducible exact ih0 _ _ _)
   |(with_reducible exact LeO.refl _)
   |(with_reducible exact LeO.none _)
   |(with_reducible refine LeO.ite ?_ ?_)
   |(with_reducible refine LeO.bind ?_ (fun _ => ?_))
   |exact ih0 _ _ _
   |exact LeO.none _
   |refine LeO.ite ?_ ?_
   |refine LeO.bind ?_ (fun _ => ?_)
end Go.Proofs.Yteejcpbngnojkaa.P
end
section
namespace Go.Proofs.Yteejcpbngnojkaa.P
open Go.RowKit Go.Proofs.YteejcpbngnojkaaW.PrintWords Go.Proofs.YteejcpbngnojkaaW.PrintLast Go.Proofs.YteejcpbngnojkaaW.PrintMore
attribute [local go_sem] max2_int min2_int max_two min_two max_three min_three max_four min_four
set_option linter.unusedVariables false
set_option linter.unusedSimpArgs false
def sacristyref01_Trim.l0 : Nat → List Bool → Option (List Bool)
 |0,_ => none
 |k + 1,x0 => if (x0.length : Int) > 0 then (if 0 ≤ (wrap64 ((x0.length : Int) - 1)) then (if (wrap64 ((x0.length : Int) - 1)) < (x0.length : Int) then (if (rdOf false x0 (wrap64 ((x0.length : Int) - 1)) = true) then (some x0) else (if (wrap64 ((x0.length : Int) - 1)) ≤ (x0.length : Int) then (sacristyref01_Trim.l0 k (x0.take ((wrap64 ((x0.length : Int) - 1)) : Int).toNat)) else (none))) else (none)) else (none)) else (some x0)
def sacristyref01_Trim.f (k : Nat) (l0 : List Bool) : Option (List Bool):=sacristyref01_Trim.l0 k l0
theorem sacristyref01_Trim.mono_l : ∀ k,(∀ y0,LeO (sacristyref01_Trim.l0 k y0) (sacristyref01_Trim.l0 (k + 1) y0))
 |0 => fun _ r h => by simp [sacristyref01_Trim.l0] at h
 |k + 1 => by
  have ih0:=sacristyref01_Trim.mono_l k
  ·intro y0
   unfold sacristyref01_Trim.l0
   repeat' first
   |(with_reducible exact ih0 _)
   |(with_reducible exact LeO.refl _)
   |(with_reducible exact LeO.none _)
   |(with_reducible refine LeO.ite ?_ ?_)
   |(with_reducible refine LeO.bind ?_ (fun _ => ?_))
   |exact ih0 _
   |exact LeO.none _
   |refine LeO.ite ?_ ?_
   |refine LeO.bind ?_ (fun _ => ?_)
theorem sacristyref01_Trim.mono : ∀ a0 k,LeO (sacristyref01_Trim.f k a0) (sacristyref01_Trim.f (k + 1) a0):=by
 intro a0 k
 have ih0:=sacristyref01_Trim.mono_l k
 unfold sacristyref01_Trim.f
 repeat' first
   |(with_reducible exact ih0 _)
   |(with_reducible exact LeO.refl _)
   |(with_reducible exact LeO.none _)
   |(with_reducible refine LeO.ite ?_ ?_)
   |(with_reducible refine LeO.bind ?_ (fun _ => ?_))
   |exact ih0 _
   |exact LeO.none _
   |refine LeO.ite ?_ ?_
   |refine LeO.bind ?_ (fun _ => ?_)
end Go.Proofs.Yteejcpbngnojkaa.P
end
section
namespace Go.Proofs.Yteejcpbngnojkaa.P
open Go.RowKit Go.Proofs.YteejcpbngnojkaaW.PrintWords Go.Proofs.YteejcpbngnojkaaW.PrintLast Go.Proofs.YteejcpbngnojkaaW.PrintMore
attribute [local go_sem] max2_int min2_int max_two min_two max_three min_three max_four min_four
set_option linter.unusedVariables false
set_option linter.unusedSimpArgs false
def sacristyref01_at.f (l0 : List Bool) (a1 : Int) : Option (Int):=if a1 ≥ 0 then (if a1 < (l0.length : Int) then (if 0 ≤ a1 then (if rdOf false l0 a1 = true then (some 1) else (some 0)) else (none)) else (some 0)) else (some 0)
end Go.Proofs.Yteejcpbngnojkaa.P
end
section
namespace Go.Proofs.Yteejcpbngnojkaa.P
open Go.RowKit Go.Proofs.YteejcpbngnojkaaW.PrintWords Go.Proofs.YteejcpbngnojkaaW.PrintLast Go.Proofs.YteejcpbngnojkaaW.PrintMore
attribute [local go_sem] max2_int min2_int max_two min_two max_three min_three max_four min_four
set_option linter.unusedVariables false
set_option linter.unusedSimpArgs false
def sacristyref01_Sub.l0 : Nat → List Bool → List Bool → List Bool → Int → Int → Option (List Bool)
 |0,_,_,_,_,_ => none
 |k + 1,x0,x1,x5,x6,x7 => if x7 < (x0.length : Int) then ((sacristyref01_at.f x0 x7).bind fun t738 => ((sacristyref01_at.f x1 x7).bind fun t739 => (if (wrap64 ((wrap64 (t738 - t739)) - x6)) < 0 then (if x5.length < 140737488355328 then (sacristyref01_Sub.l0 k x0 x1 (x5 ++ [((wrap64 ((wrap64 ((wrap64 (t738 - t739)) - x6)) + 2)) == 1)]) 1 (wrap64 (x7 + 1))) else (none)) else (if x5.length < 140737488355328 then (sacristyref01_Sub.l0 k x0 x1 (x5 ++ [((wrap64 ((wrap64 (t738 - t739)) - x6)) == 1)]) 0 (wrap64 (x7 + 1))) else (none))))) else ((sacristyref01_Trim.f k x5).bind fun t735 => (some t735))
def sacristyref01_Sub.f (k : Nat) (l0 : List Bool) (l1 : List Bool) : Option (List Bool):=sacristyref01_Sub.l0 k l0 l1 (([] : List Bool)) 0 0
theorem sacristyref01_Sub.mono_l : ∀ k,(∀ y0 y1 y2 y3 y4,LeO (sacristyref01_Sub.l0 k y0 y1 y2 y3 y4) (sacristyref01_Sub.l0 (k + 1) y0 y1 y2 y3 y4))
 |0 => fun _ _ _ _ _ r h => by simp [sacristyref01_Sub.l0] at h
 |k + 1 => by
  have ih0:=sacristyref01_Sub.mono_l k
  ·intro y0 y1 y2 y3 y4
   unfold sacristyref01_Sub.l0
   repeat' first
   |(with_reducible exact ih0 _ _ _ _ _)
   |(with_reducible exact sacristyref01_Trim.mono _ _)
   |(with_reducible exact LeO.refl _)
   |(with_reducible exact LeO.none _)
   |(with_reducible refine LeO.ite ?_ ?_)
   |(with_reducible refine LeO.bind ?_ (fun _ => ?_))
   |exact ih0 _ _ _ _ _
   |exact sacristyref01_Trim.mono _ _
   |exact LeO.none _
   |refine LeO.ite ?_ ?_
   |refine LeO.bind ?_ (fun _ => ?_)
theorem sacristyref01_Sub.mono : ∀ a0 a1 k,LeO (sacristyref01_Sub.f k a0 a1) (sacristyref01_Sub.f (k + 1) a0 a1):=by
 intro a0 a1 k
 have ih0:=sacristyref01_Sub.mono_l k
 unfold sacristyref01_Sub.f
 repeat' first
   |(with_reducible exact ih0 _ _ _ _ _)
   |(with_reducible exact sacristyref01_Trim.mono _ _)
   |(with_reducible exact LeO.refl _)
   |(with_reducible exact LeO.none _)
   |(with_reducible refine LeO.ite ?_ ?_)
   |(with_reducible refine LeO.bind ?_ (fun _ => ?_))
   |exact ih0 _ _ _ _ _
   |exact sacristyref01_Trim.mono _ _
   |exact LeO.none _
   |refine LeO.ite ?_ ?_
   |refine LeO.bind ?_ (fun _ => ?_)
end Go.Proofs.Yteejcpbngnojkaa.P
end
section
namespace Go.Proofs.Yteejcpbngnojkaa.P
open Go.RowKit Go.Proofs.YteejcpbngnojkaaW.PrintWords Go.Proofs.YteejcpbngnojkaaW.PrintLast Go.Proofs.YteejcpbngnojkaaW.PrintMore
attribute [local go_sem] max2_int min2_int max_two min_two max_three min_three max_four min_four
set_option linter.unusedVariables false
set_option linter.unusedSimpArgs false
def sacristyref01_Div.l0 : Nat → List Bool → List Bool → List Bool → List Bool → Int → Option (List Bool × List Bool)
 |0,_,_,_,_,_ => none
 |k + 1,x0,x1,x6,x7,x8 => if x8 ≥ 0 then (if 0 ≤ x8 then (if x8 < (x0.length : Int) then ((some (([rdOf false x0 x8] : List Bool) : List Bool)).bind fun y756 => (if y756.length + x7.length < 140737488355328 then ((sacristyref01_Trim.f k (y756 ++ x7)).bind fun t762 => ((sacristyref01_Cmp.f k t762 x1).bind fun t765 => (if t765 ≥ 0 then ((sacristyref01_Sub.f k t762 x1).bind fun t766 => (if x8 < (x6.length : Int) then (sacristyref01_Div.l0 k x0 x1 (x6.set (x8 : Int).toNat true) t766 (wrap64 (x8 - 1))) else (none))) else (sacristyref01_Div.l0 k x0 x1 x6 t762 (wrap64 (x8 - 1)))))) else (none))) else (none)) else (none)) else ((sacristyref01_Trim.f k x6).bind fun t752 => (some (t752,x7)))
def sacristyref01_Div.f (k : Nat) (l0 : List Bool) (l1 : List Bool) : Option (List Bool × List Bool):=if 0 ≤ (l0.length : Int) then (if ((l0.length : Int) : Int).toNat ≤ 281474976710656 then (sacristyref01_Div.l0 k l0 l1 (List.replicate ((l0.length : Int) : Int).toNat false) (([] : List Bool)) (wrap64 ((l0.length : Int) - 1))) else (none)) else (none)
theorem sacristyref01_Div.mono_l : ∀ k,(∀ y0 y1 y2 y3 y4,LeO (sacristyref01_Div.l0 k y0 y1 y2 y3 y4) (sacristyref01_Div.l0 (k + 1) y0 y1 y2 y3 y4))
 |0 => fun _ _ _ _ _ r h => by simp [sacristyref01_Div.l0] at h
 |k + 1 => by
  have ih0:=sacristyref01_Div.mono_l k
  ·intro y0 y1 y2 y3 y4
   unfold sacristyref01_Div.l0
   repeat' first
   |(with_reducible exact ih0 _ _ _ _ _)
   |(with_reducible exact sacristyref01_Cmp.mono _ _ _)
   |(with_reducible exact sacristyref01_Sub.mono _ _ _)
   |(with_reducible exact sacristyref01_Trim.mono _ _)
   |(with_reducible exact LeO.refl _)
   |(with_reducible exact LeO.none _)
   |(with_reducible refine LeO.ite ?_ ?_)
   |(with_reducible refine LeO.bind ?_ (fun _ => ?_))
   |exact ih0 _ _ _ _ _
   |exact sacristyref01_Cmp.mono _ _ _
   |exact sacristyref01_Sub.mono _ _ _
   |exact sacristyref01_Trim.mono _ _
   |exact LeO.none _
   |refine LeO.ite ?_ ?_
   |refine LeO.bind ?_ (fun _ => ?_)
theorem sacristyref01_Div.mono : ∀ a0 a1 k,LeO (sacristyref01_Div.f k a0 a1) (sacristyref01_Div.f (k + 1) a0 a1):=by
 intro a0 a1 k
 have ih0:=sacristyref01_Div.mono_l k
 unfold sacristyref01_Div.f
 repeat' first
   |(with_reducible exact ih0 _ _ _ _ _)
   |(with_reducible exact sacristyref01_Cmp.mono _ _ _)
   |(with_reducible exact sacristyref01_Sub.mono _ _ _)
   |(with_reducible exact sacristyref01_Trim.mono _ _)
   |(with_reducible exact LeO.refl _)
   |(with_reducible exact LeO.none _)
   |(with_reducible refine LeO.ite ?_ ?_)
   |(with_reducible refine LeO.bind ?_ (fun _ => ?_))
   |exact ih0 _ _ _ _ _
   |exact sacristyref01_Cmp.mono _ _ _
   |exact sacristyref01_Sub.mono _ _ _
   |exact sacristyref01_Trim.mono _ _
   |exact LeO.none _
   |refine LeO.ite ?_ ?_
   |refine LeO.bind ?_ (fun _ => ?_)
end Go.Proofs.Yteejcpbngnojkaa.P
end
section
namespace Go.Proofs.Yteejcpbngnojkaa.P
open Go.RowKit Go.Proofs.YteejcpbngnojkaaW.PrintWords Go.Proofs.YteejcpbngnojkaaW.PrintLast Go.Proofs.YteejcpbngnojkaaW.PrintMore
attribute [local go_sem] max2_int min2_int max_two min_two max_three min_three max_four min_four
set_option linter.unusedVariables false
set_option linter.unusedSimpArgs false
def sacristyref01_Gcd.l0 : Nat → List Bool → List Bool → Option (List Bool)
 |0,_,_ => none
 |k + 1,x0,x1 => if (x1.length : Int) > 0 then ((sacristyref01_Div.f k x0 x1).bind fun bt770 => (sacristyref01_Gcd.l0 k x1 bt770.2)) else (some x0)
def sacristyref01_Gcd.f (k : Nat) (l0 : List Bool) (l1 : List Bool) : Option (List Bool):=sacristyref01_Gcd.l0 k l0 l1
theorem sacristyref01_Gcd.mono_l : ∀ k,(∀ y0 y1,LeO (sacristyref01_Gcd.l0 k y0 y1) (sacristyref01_Gcd.l0 (k + 1) y0 y1))
 |0 => fun _ _ r h => by simp [sacristyref01_Gcd.l0] at h
 |k + 1 => by
  have ih0:=sacristyref01_Gcd.mono_l k
  ·intro y0 y1
   unfold sacristyref01_Gcd.l0
   repeat' first
   |(with_reducible exact ih0 _ _)
   |(with_reducible exact sacristyref01_Div.mono _ _ _)
   |(with_reducible exact LeO.refl _)
   |(with_reducible exact LeO.none _)
   |(with_reducible refine LeO.ite ?_ ?_)
   |(with_reducible refine LeO.bind ?_ (fun _ => ?_))
   |exact ih0 _ _
   |exact sacristyref01_Div.mono _ _ _
   |exact LeO.none _
   |refine LeO.ite ?_ ?_
   |refine LeO.bind ?_ (fun _ => ?_)
theorem sacristyref01_Gcd.mono : ∀ a0 a1 k,LeO (sacristyref01_Gcd.f k a0 a1) (sacristyref01_Gcd.f (k + 1) a0 a1):=by
 intro a0 a1 k
 have ih0:=sacristyref01_Gcd.mono_l k
 unfold sacristyref01_Gcd.f
 repeat' first
   |(with_reducible exact ih0 _ _)
   |(with_reducible exact sacristyref01_Div.mono _ _ _)
   |(with_reducible exact LeO.refl _)
   |(with_reducible exact LeO.none _)
   |(with_reducible refine LeO.ite ?_ ?_)
   |(with_reducible refine LeO.bind ?_ (fun _ => ?_))
   |exact ih0 _ _
   |exact sacristyref01_Div.mono _ _ _
   |exact LeO.none _
   |refine LeO.ite ?_ ?_
   |refine LeO.bind ?_ (fun _ => ?_)
end Go.Proofs.Yteejcpbngnojkaa.P
end
section
namespace Go.Proofs.Yteejcpbngnojkaa.P
open Go.RowKit Go.Proofs.YteejcpbngnojkaaW.PrintWords Go.Proofs.YteejcpbngnojkaaW.PrintLast Go.Proofs.YteejcpbngnojkaaW.PrintMore
attribute [local go_sem] max2_int min2_int max_two min_two max_three min_three max_four min_four
set_option linter.unusedVariables false
set_option linter.unusedSimpArgs false
mutual
def sacristyref01_Add.l0 : Nat → List Bool → List Bool → List Bool → Int → Int → Option (List Bool)
 |0,_,_,_,_,_ => none
 |k + 1,x0,x1,x5,x6,x7 => if x7 < (x0.length : Int) then (sacristyref01_Add.j1 k x0 x1 x5 x6 x7 true) else (if x7 < (x1.length : Int) then (sacristyref01_Add.j1 k x0 x1 x5 x6 x7 true) else (sacristyref01_Add.j1 k x0 x1 x5 x6 x7 (decide (x6 > 0))))
def sacristyref01_Add.j1 : Nat → List Bool → List Bool → List Bool → Int → Int → Bool → Option (List Bool)
 |0,_,_,_,_,_,_ => none
 |k + 1,x0,x1,x5,x6,x7,x23 => if x23 = true then ((sacristyref01_at.f x0 x7).bind fun t853 => ((sacristyref01_at.f x1 x7).bind fun t854 => (if x5.length < 140737488355328 then (sacristyref01_Add.l0 k x0 x1 (x5 ++ [((Int.tmod (wrap64 ((wrap64 (t853 + t854)) + x6)) 2) == 1)]) (wrap64 (Int.tdiv (wrap64 ((wrap64 (t853 + t854)) + x6)) 2)) (wrap64 (x7 + 1))) else (none)))) else ((sacristyref01_Trim.f k x5).bind fun t858 => (some t858))
end
def sacristyref01_Add.f (k : Nat) (l0 : List Bool) (l1 : List Bool) : Option (List Bool):=sacristyref01_Add.l0 k l0 l1 (([] : List Bool)) 0 0
theorem sacristyref01_Add.mono_l : ∀ k,(∀ y0 y1 y2 y3 y4,LeO (sacristyref01_Add.l0 k y0 y1 y2 y3 y4) (sacristyref01_Add.l0 (k + 1) y0 y1 y2 y3 y4)) ∧ (∀ y0 y1 y2 y3 y4 y5,LeO (sacristyref01_Add.j1 k y0 y1 y2 y3 y4 y5) (sacristyref01_Add.j1 (k + 1) y0 y1 y2 y3 y4 y5))
 |0 => ⟨fun _ _ _ _ _ r h => by simp [sacristyref01_Add.l0] at h,fun _ _ _ _ _ _ r h => by simp [sacristyref01_Add.j1] at h⟩
 |k + 1 => by
  obtain ⟨ih0,ih1⟩:=sacristyref01_Add.mono_l k
  refine ⟨?_,?_⟩
  ·intro y0 y1 y2 y3 y4
   unfold sacristyref01_Add.l0
   repeat' first
   |(with_reducible exact ih0 _ _ _ _ _)
   |(with_reducible exact ih1 _ _ _ _ _ _)
   |(with_reducible exact sacristyref01_Trim.mono _ _)
   |(with_reducible exact LeO.refl _)
   |(with_reducible exact LeO.none _)
   |(with_reducible refine LeO.ite ?_ ?_)
   |(with_reducible refine LeO.bind ?_ (fun _ => ?_))
   |exact ih0 _ _ _ _ _
   |exact ih1 _ _ _ _ _ _
   |exact sacristyref01_Trim.mono _ _
   |exact LeO.none _
   |refine LeO.ite ?_ ?_
   |refine LeO.bind ?_ (fun _ => ?_)
  ·intro y0 y1 y2 y3 y4 y5
   unfold sacristyref01_Add.j1
   repeat' first
   |(with_reducible exact ih0 _ _ _ _ _)
   |(with_reducible exact ih1 _ _ _ _ _ _)
   |(with_reducible exact sacristyref01_Trim.mono _ _)
   |(with_reducible exact LeO.refl _)
   |(with_reducible exact LeO.none _)
   |(with_reducible refine LeO.ite ?_ ?_)
   |(with_reducible refine LeO.bind ?_ (fun _ => ?_))
   |exact ih0 _ _ _ _ _
   |exact ih1 _ _ _ _ _ _
   |exact sacristyref01_Trim.mono _ _
   |exact LeO.none _
   |refine LeO.ite ?_ ?_
   |refine LeO.bind ?_ (fun _ => ?_)
theorem sacristyref01_Add.mono : ∀ a0 a1 k,LeO (sacristyref01_Add.f k a0 a1) (sacristyref01_Add.f (k + 1) a0 a1):=by
 intro a0 a1 k
 obtain ⟨ih0,ih1⟩:=sacristyref01_Add.mono_l k
 unfold sacristyref01_Add.f
 repeat' first
   |(with_reducible exact ih0 _ _ _ _ _)
   |(with_reducible exact ih1 _ _ _ _ _ _)
   |(with_reducible exact sacristyref01_Trim.mono _ _)
   |(with_reducible exact LeO.refl _)
   |(with_reducible exact LeO.none _)
   |(with_reducible refine LeO.ite ?_ ?_)
   |(with_reducible refine LeO.bind ?_ (fun _ => ?_))
   |exact ih0 _ _ _ _ _
   |exact ih1 _ _ _ _ _ _
   |exact sacristyref01_Trim.mono _ _
   |exact LeO.none _
   |refine LeO.ite ?_ ?_
   |refine LeO.bind ?_ (fun _ => ?_)
end Go.Proofs.Yteejcpbngnojkaa.P
end
section
namespace Go.Proofs.Yteejcpbngnojkaa.P
open Go.RowKit Go.Proofs.YteejcpbngnojkaaW.PrintWords Go.Proofs.YteejcpbngnojkaaW.PrintLast Go.Proofs.YteejcpbngnojkaaW.PrintMore
attribute [local go_sem] max2_int min2_int max_two min_two max_three min_three max_four min_four
set_option linter.unusedVariables false
set_option linter.unusedSimpArgs false
def sacristyref01_Shift.f (l0 : List Bool) (a1 : Int) : Option (List Bool):=if (l0.length : Int) = 0 then (some (([] : List Bool))) else (if 0 ≤ a1 then (if (a1 : Int).toNat ≤ 281474976710656 then ((some (List.replicate (a1 : Int).toNat false : List Bool)).bind fun y864 => (if y864.length + l0.length < 140737488355328 then (some (y864 ++ l0)) else (none))) else (none)) else (none))
end Go.Proofs.Yteejcpbngnojkaa.P
end
section
namespace Go.Proofs.Yteejcpbngnojkaa.P
open Go.RowKit Go.Proofs.YteejcpbngnojkaaW.PrintWords Go.Proofs.YteejcpbngnojkaaW.PrintLast Go.Proofs.YteejcpbngnojkaaW.PrintMore
attribute [local go_sem] max2_int min2_int max_two min_two max_three min_three max_four min_four
set_option linter.unusedVariables false
set_option linter.unusedSimpArgs false
def sacristyref01_Mul.l0 : Nat → List Bool → List Bool → List Bool → Int → Int → Option (List Bool)
 |0,_,_,_,_,_ => none
 |k + 1,x0,x5,x9,x10,x11 => if x11 < x10 then (if 0 ≤ x11 then (if x11 < (x9.length : Int) then (if rdOf false x9 x11 = true then ((sacristyref01_Shift.f x0 x11).bind fun t874 => ((sacristyref01_Add.f k x5 t874).bind fun t877 => (sacristyref01_Mul.l0 k x0 t877 x9 x10 (wrap64 (x11 + 1))))) else (sacristyref01_Mul.l0 k x0 x5 x9 x10 (wrap64 (x11 + 1)))) else (none)) else (none)) else (some x5)
def sacristyref01_Mul.f (k : Nat) (l0 : List Bool) (l1 : List Bool) : Option (List Bool):=sacristyref01_Mul.l0 k l0 (([] : List Bool)) l1 (l1.length : Int) 0
theorem sacristyref01_Mul.mono_l : ∀ k,(∀ y0 y1 y2 y3 y4,LeO (sacristyref01_Mul.l0 k y0 y1 y2 y3 y4) (sacristyref01_Mul.l0 (k + 1) y0 y1 y2 y3 y4))
 |0 => fun _ _ _ _ _ r h => by simp [sacristyref01_Mul.l0] at h
 |k + 1 => by
  have ih0:=sacristyref01_Mul.mono_l k
  ·intro y0 y1 y2 y3 y4
   unfold sacristyref01_Mul.l0
   repeat' first
   |(with_reducible exact ih0 _ _ _ _ _)
   |(with_reducible exact sacristyref01_Add.mono _ _ _)
   |(with_reducible exact LeO.refl _)
   |(with_reducible exact LeO.none _)
   |(with_reducible refine LeO.ite ?_ ?_)
   |(with_reducible refine LeO.bind ?_ (fun _ => ?_))
   |exact ih0 _ _ _ _ _
   |exact sacristyref01_Add.mono _ _ _
   |exact LeO.none _
   |refine LeO.ite ?_ ?_
   |refine LeO.bind ?_ (fun _ => ?_)
theorem sacristyref01_Mul.mono : ∀ a0 a1 k,LeO (sacristyref01_Mul.f k a0 a1) (sacristyref01_Mul.f (k + 1) a0 a1):=by
 intro a0 a1 k
 have ih0:=sacristyref01_Mul.mono_l k
 unfold sacristyref01_Mul.f
 repeat' first
   |(with_reducible exact ih0 _ _ _ _ _)
   |(with_reducible exact sacristyref01_Add.mono _ _ _)
   |(with_reducible exact LeO.refl _)
   |(with_reducible exact LeO.none _)
   |(with_reducible refine LeO.ite ?_ ?_)
   |(with_reducible refine LeO.bind ?_ (fun _ => ?_))
   |exact ih0 _ _ _ _ _
   |exact sacristyref01_Add.mono _ _ _
   |exact LeO.none _
   |refine LeO.ite ?_ ?_
   |refine LeO.bind ?_ (fun _ => ?_)
end Go.Proofs.Yteejcpbngnojkaa.P
end
section
namespace Go.Proofs.Yteejcpbngnojkaa.P
open Go.RowKit Go.Proofs.YteejcpbngnojkaaW.PrintWords Go.Proofs.YteejcpbngnojkaaW.PrintLast Go.Proofs.YteejcpbngnojkaaW.PrintMore
attribute [local go_sem] max2_int min2_int max_two min_two max_three min_three max_four min_four
set_option linter.unusedVariables false
set_option linter.unusedSimpArgs false
mutual
def sacristyref01_Of.l0 : Nat → List Int → List Bool → Int → Option (List Bool)
 |0,_,_,_ => none
 |k + 1,x0,x3,x4 => if x4 ≥ 0 then (sacristyref01_Of.l1 k x0 x3 x4 0) else ((sacristyref01_Trim.f k x3).bind fun t462 => (some t462))
def sacristyref01_Of.l1 : Nat → List Int → List Bool → Int → Int → Option (List Bool)
 |0,_,_,_,_ => none
 |k + 1,x0,x3,x4,x5 => if x5 < 8 then (if 0 ≤ x4 then (if x4 < (x0.length : Int) then (if 0 ≤ x5 then (if x3.length < 140737488355328 then (sacristyref01_Of.l1 k x0 (x3 ++ [((Int.tmod (shr .u8 (rd x0 x4) x5) 2) == 1)]) x4 (wrap64 (x5 + 1))) else (none)) else (none)) else (none)) else (none)) else (sacristyref01_Of.l0 k x0 x3 (wrap64 (x4 - 1)))
end
def sacristyref01_Of.f (k : Nat) (l0 : List Int) : Option (List Bool):=sacristyref01_Of.l0 k l0 (([] : List Bool)) (wrap64 ((l0.length : Int) - 1))
theorem sacristyref01_Of.mono_l : ∀ k,(∀ y0 y1 y2,LeO (sacristyref01_Of.l0 k y0 y1 y2) (sacristyref01_Of.l0 (k + 1) y0 y1 y2)) ∧ (∀ y0 y1 y2 y3,LeO (sacristyref01_Of.l1 k y0 y1 y2 y3) (sacristyref01_Of.l1 (k + 1) y0 y1 y2 y3))
 |0 => ⟨fun _ _ _ r h => by simp [sacristyref01_Of.l0] at h,fun _ _ _ _ r h => by simp [sacristyref01_Of.l1] at h⟩
 |k + 1 => by
  obtain ⟨ih0,ih1⟩:=sacristyref01_Of.mono_l k
  refine ⟨?_,?_⟩
  ·intro y0 y1 y2
   unfold sacristyref01_Of.l0
   repeat' first
   |(with_reducible exact ih0 _ _ _)
   |(with_reducible exact ih1 _ _ _ _)
   |(with_reducible exact sacristyref01_Trim.mono _ _)
   |(with_reducible exact LeO.refl _)
   |(with_reducible exact LeO.none _)
   |(with_reducible refine LeO.ite ?_ ?_)
   |(with_reducible refine LeO.bind ?_ (fun _ => ?_))
   |exact ih0 _ _ _
   |exact ih1 _ _ _ _
   |exact sacristyref01_Trim.mono _ _
   |exact LeO.none _
   |refine LeO.ite ?_ ?_
   |refine LeO.bind ?_ (fun _ => ?_)
  ·intro y0 y1 y2 y3
   unfold sacristyref01_Of.l1
   repeat' first
   |(with_reducible exact ih0 _ _ _)
   |(with_reducible exact ih1 _ _ _ _)
   |(with_reducible exact sacristyref01_Trim.mono _ _)
   |(with_reducible exact LeO.refl _)
   |(with_reducible exact LeO.none _)
   |(with_reducible refine LeO.ite ?_ ?_)
   |(with_reducible refine LeO.bind ?_ (fun _ => ?_))
   |exact ih0 _ _ _
   |exact ih1 _ _ _ _
   |exact sacristyref01_Trim.mono _ _
   |exact LeO.none _
   |refine LeO.ite ?_ ?_
   |refine LeO.bind ?_ (fun _ => ?_)
theorem sacristyref01_Of.mono : ∀ a0 k,LeO (sacristyref01_Of.f k a0) (sacristyref01_Of.f (k + 1) a0):=by
 intro a0 k
 obtain ⟨ih0,ih1⟩:=sacristyref01_Of.mono_l k
 unfold sacristyref01_Of.f
 repeat' first
   |(with_reducible exact ih0 _ _ _)
   |(with_reducible exact ih1 _ _ _ _)
   |(with_reducible exact sacristyref01_Trim.mono _ _)
   |(with_reducible exact LeO.refl _)
   |(with_reducible exact LeO.none _)
   |(with_reducible refine LeO.ite ?_ ?_)
   |(with_reducible refine LeO.bind ?_ (fun _ => ?_))
   |exact ih0 _ _ _
   |exact ih1 _ _ _ _
   |exact sacristyref01_Trim.mono _ _
   |exact LeO.none _
   |refine LeO.ite ?_ ?_
   |refine LeO.bind ?_ (fun _ => ?_)
end Go.Proofs.Yteejcpbngnojkaa.P
end
section
namespace Go.Proofs.Yteejcpbngnojkaa.P
open Go.RowKit Go.Proofs.YteejcpbngnojkaaW.PrintWords Go.Proofs.YteejcpbngnojkaaW.PrintLast Go.Proofs.YteejcpbngnojkaaW.PrintMore
open Go.Proofs.Yteejcpbngnojkaa.Num
set_option linter.unusedVariables false
def gb (l : List Bool) (j : Nat) : Bool := l.getD j false
theorem rdB (l : List Bool) (i : Nat) : rdOf false l (i : Int) = gb l i := by simp [rdOf, gb]
theorem gb_eq {l : List Bool} {j : Nat} (h : j < l.length) : gb l j = l[j] := by simp [gb, List.getD_eq_getElem?_getD, List.getElem?_eq_getElem h]
theorem gb_out {l : List Bool} {j : Nat} (h : l.length ≤ j) : gb l j = false := by simp [gb, List.getD_eq_getElem?_getD, List.getElem?_eq_none h]
theorem winc {n : Nat} (h : n ≤ 4611686018427387904) : wrap64 ((n : Int) + 1) = ((n + 1 : Nat) : Int) := by rw [w64 (by omega) (by omega)]; omega
theorem bit_toNat (n : Nat) : (n % 2 == 1).toNat = n % 2 := by
  have := Nat.mod_lt n (show 0 < 2 by omega)
  rcases Nat.mod_two_eq_zero_or_one n with h | h <;> rw [h] <;> rfl
theorem rSmall_ev (x : Nat) : ∀ (acc : List Bool), x < 18446744073709551616 → acc.length + (toB x).length ≤ 1000 → Ev (fun k => sacristyref01_Small.l0 k (x : Int) acc) (acc ++ toB x) := by
  induction x using Nat.strongRecOn with
  | ind x ih =>
    intro acc hx hacc
    by_cases h0 : x = 0
    · subst h0
      rw [toB_zero, List.append_nil]
      exact Ev.step (fun k => by simp only [sacristyref01_Small.l0]; rw [if_neg (by omega)]) (Ev.now _)
    · rw [toB_pos (by omega)] at hacc ⊢
      have c1 : (x : Int) > 0 := by omega
      have c2 : acc.length < 140737488355328 := by omega
      have e1 : IntKind.u64.wrap (Int.tdiv (x : Int) 2) = ((x / 2 : Nat) : Int) := by
        rw [show (2 : Int) = ((2 : Nat) : Int) from rfl, ← Int.ofNat_tdiv, wu64 (by omega) (by omega)]
      have e2 : (Int.tmod (x : Int) 2 == 1) = (x % 2 == 1) := by
        rw [show (2 : Int) = ((2 : Nat) : Int) from rfl, ← Int.ofNat_tmod, Bool.eq_iff_iff, beq_iff_eq, beq_iff_eq]; omega
      have h := ih (x / 2) (by omega) (acc ++ [(x % 2 == 1)]) (by omega) (by simp at hacc ⊢; omega)
      rw [List.append_assoc] at h
      refine Ev.step (fun k => ?_) h
      simp only [sacristyref01_Small.l0]
      rw [if_pos c1, if_pos c2, e1, e2]
theorem rSmall (x : Nat) (hx : x < 18446744073709551616) : Ev (fun k => sacristyref01_Small.f k (x : Int)) (toB x) := by
  have h64 : (toB x).length ≤ 64 := toB_len_le 64 x hx
  have := rSmall_ev x [] hx (by simp; omega)
  simpa [sacristyref01_Small.f] using this
theorem gb_toB (a i : Nat) : (gb (toB a) i).toNat = a / 2 ^ i % 2 := by
  by_cases h : i < (toB a).length
  · rw [gb_eq h, toB_get, bit_toNat]
  · rw [gb_out (by omega)]
    have h1 := toB_lt a
    have h2 : 2 ^ (toB a).length ≤ 2 ^ i := Nat.pow_le_pow_right (by omega) (by omega)
    rw [Nat.div_eq_of_lt (by omega)]
    rfl
theorem mod_snoc (a i : Nat) : a % 2 ^ (i + 1) = a % 2 ^ i + 2 ^ i * (a / 2 ^ i % 2) := Nat.mod_pow_succ ..
end Go.Proofs.Yteejcpbngnojkaa.P
end
section
namespace Go.Proofs.Yteejcpbngnojkaa.P
open Go.RowKit Go.Proofs.YteejcpbngnojkaaW.PrintWords Go.Proofs.YteejcpbngnojkaaW.PrintLast Go.Proofs.YteejcpbngnojkaaW.PrintMore
attribute [local go_sem] max2_int min2_int max_two min_two max_three min_three max_four min_four
set_option linter.unusedVariables false
set_option linter.unusedSimpArgs false
def sacristylaw01_ref.f (k : Nat) (l0 : List Int) : Option (List Bool):=if 0 ≤ (mn (l0.length : Int) 48) then (if (mn (l0.length : Int) 48) ≤ (l0.length : Int) then ((sacristyref01_Of.f k (l0.take ((mn (l0.length : Int) 48) : Int).toNat)).bind fun t512 => (some t512)) else (none)) else (none)
theorem sacristylaw01_ref.mono : ∀ a0 k,LeO (sacristylaw01_ref.f k a0) (sacristylaw01_ref.f (k + 1) a0):=by
 intro a0 k
 unfold sacristylaw01_ref.f
 repeat' first
   |(with_reducible exact sacristyref01_Of.mono _ _)
   |(with_reducible exact LeO.refl _)
   |(with_reducible exact LeO.none _)
   |(with_reducible refine LeO.ite ?_ ?_)
   |(with_reducible refine LeO.bind ?_ (fun _ => ?_))
   |exact sacristyref01_Of.mono _ _
   |exact LeO.none _
   |refine LeO.ite ?_ ?_
   |refine LeO.bind ?_ (fun _ => ?_)
end Go.Proofs.Yteejcpbngnojkaa.P
end
section
namespace Go.Proofs.Yteejcpbngnojkaa.P
open Go.RowKit Go.Proofs.YteejcpbngnojkaaW.PrintWords Go.Proofs.YteejcpbngnojkaaW.PrintLast Go.Proofs.YteejcpbngnojkaaW.PrintMore
open Go.Proofs.Yteejcpbngnojkaa.Num
set_option linter.unusedVariables false
theorem pw_two (q : Nat) : pw q = 2 ^ (32 * q) := by
  unfold pw; rw [show (4294967296 : Nat) = 2 ^ 32 from by decide, ← Nat.pow_mul]
theorem pow256 (i : Nat) : 256 ^ i = pw (i / 4) * 2 ^ (8 * (i % 4)) := by
  rw [pw_two, ← Nat.pow_add, show (256 : Nat) = 2 ^ 8 from by decide, ← Nat.pow_mul]
  congr 1
  omega
theorem toB_len_eq {n L : Nat} (hL : 0 < L) (h1 : n < 2 ^ L) (h2 : 2 ^ (L - 1) ≤ n) : (toB n).length = L := by
  have h3 := toB_len_le L n h1
  have h4 := toB_len_gt (L - 1) n h2
  omega
theorem bits_len {n m r : Nat} (hm : 1 ≤ m) (hr : 0 < r) (h1 : n / pw (m - 1) < 2 ^ r) (h2 : 2 ^ (r - 1) ≤ n / pw (m - 1)) : (toB n).length = 32 * (m - 1) + r := by
  refine toB_len_eq (by omega) ?_ ?_
  · rw [Nat.div_lt_iff_lt_mul (pw_pos _), Nat.mul_comm, pw_two, ← Nat.pow_add] at h1
    exact h1
  · rw [Nat.le_div_iff_mul_le (pw_pos _), pw_two, ← Nat.pow_add] at h2
    rw [show 32 * (m - 1) + r - 1 = r - 1 + 32 * (m - 1) by omega]
    exact h2
theorem Bits_toW (n : Nat) (hn : (toW n).length ≤ 1048576) : nat_Nat_Bits.f (toW n) = some (((toB n).length : Nat) : Int) := by
  unfold nat_Nat_Bits.f
  by_cases h0 : n = 0
  · subst h0; simp [toW_zero, toB_zero]
  · have hne : (toW n).length ≠ 0 := by rw [Ne, List.length_eq_zero_iff, toW_eq_nil]; exact h0
    obtain ⟨m, hm⟩ : ∃ m, (toW n).length = m := ⟨_, rfl⟩
    have c1 : ¬ (((toW n).length : Nat) : Int) = 0 := by omega
    have c2 : (0 : Int) ≤ ((m - 1 : Nat) : Int) := by omega
    have c3 : ((m - 1 : Nat) : Int) < (m : Int) := by omega
    have hm1 : 1 ≤ m := by omega
    have hm2 : m ≤ 1048576 := by omega
    have hlo : pw (m - 1) ≤ n := toW_len_lt (by omega)
    have hhi : n < pw m := by have := toW_lt n; rwa [hm] at this
    have hd : n / pw (m - 1) < 4294967296 := by
      rw [Nat.div_lt_iff_lt_mul (pw_pos _), Nat.mul_comm, ← pw_succ, show m - 1 + 1 = m by omega]; exact hhi
    have hp : 0 < n / pw (m - 1) := Nat.div_pos hlo (pw_pos _)
    have hg : gw (toW n) (m - 1) = ((n / pw (m - 1) : Nat) : Int) := by rw [toW_gw, Nat.mod_eq_of_lt hd]
    obtain ⟨r, hr, hr32, hlt, hge⟩ := len32 (gw (toW n) (m - 1)) (by rw [hg]; exact Int.natCast_nonneg _) (by rw [hg]; exact Int.ofNat_lt.2 hd)
    rw [hg] at hlt hge
    rw [Int.toNat_natCast] at hlt hge
    obtain ⟨h3, h4⟩ := hge (Int.natCast_pos.2 hp)
    have hlen := bits_len hm1 h3 hlt h4
    have w1 : wrap64 ((m : Int) - 1) = ((m - 1 : Nat) : Int) := by clear hlen hr; rw [w64 (by omega) (by omega)]; omega
    have w2 : wrap64 (wrap64 (32 * ((m - 1 : Nat) : Int)) + (r : Int)) = ((32 * (m - 1) + r : Nat) : Int) := by
      clear hlen hr w1 hd hp hlt h4 hlo hhi hg
      rw [w64 (x := 32 * ((m - 1 : Nat) : Int)) (by omega) (by omega), w64 (by omega) (by omega)]; omega
    rw [if_neg c1, hm, w1, if_pos c2, if_pos c3, rd_gw, hr]
    simp only [Option.bind_some]
    rw [w2, hlen]
theorem fb_round (a b : Int) (y : Nat) (hy : y = 0 ∨ y = 8 ∨ y = 16 ∨ y = 24) (ha0 : 0 ≤ a) (ha : a.toNat < 2 ^ y) (hb0 : 0 ≤ b) (hb : b < 256) :
    Go.bits .or .u32 a (shl .u32 (b % 4294967296) (y : Int)) = ((a.toNat + b.toNat * 2 ^ y : Nat) : Int) ∧ a.toNat + b.toNat * 2 ^ y < 4294967296 := by
  obtain ⟨n, rfl⟩ := Int.eq_ofNat_of_zero_le ha0
  obtain ⟨m, rfl⟩ := Int.eq_ofNat_of_zero_le hb0
  simp only [Int.toNat_natCast] at ha ⊢
  have hmin : min y IntKind.u32.bits = y := Nat.min_eq_left (by show y ≤ 32; omega)
  have hs : shl .u32 ((m : Int) % 4294967296) (y : Int) = ((m * 2 ^ y : Nat) : Int) := by
    unfold shl
    rw [Int.toNat_natCast, hmin]
    have e1 : (m : Int) % 4294967296 = (m : Int) := by omega
    have e2 : (m : Int) * 2 ^ y = ((m * 2 ^ y : Nat) : Int) := by simp
    rw [e1, e2]
    rcases hy with rfl | rfl | rfl | rfl <;> exact wraps_u32 _ (by omega) (by omega)
  rw [hs]
  rcases hy with rfl | rfl | rfl | rfl
  all_goals
    refine ⟨?_, by omega⟩
    rw [bits_join_low .u32 32 (by decide) wraps_u32 _ (n : Int) ((m * 2 ^ _ : Nat) : Int) (by omega) (by first | exact_mod_cast ha) (by omega) (by omega) (by omega) (by omega)]
    omega
structure FBInv (l : List Int) (i : Nat) (row : List Int) : Prop where
  len : row.length = (l.length + 3) / 4
  sz : Sized row
  eq : valW row = valL (l.reverse.take i)
theorem digit_lt {row : List Int} (hs : Sized row) {q c : Nat} (hq : q < row.length) (h : valW row < pw q * c) : (gw row q).toNat < c := by
  have h1 : valW row = valW (row.take q) + pw q * valW (row.drop q) := valW_drop (by omega)
  have h2 : row.drop q = gw row q :: row.drop (q + 1) := by rw [List.drop_eq_getElem_cons hq, gw_eq hq]
  rw [h2, valW_cons] at h1
  have h3 : pw q * (gw row q).toNat < pw q * c := by
    rw [Nat.mul_add] at h1
    omega
  exact Nat.lt_of_mul_lt_mul_left h3
theorem valW_set' {row : List Int} {q : Nat} (hq : q < row.length) {x : Int} (hx : 0 ≤ x) : valW (row.set q x) + pw q * (gw row q).toNat = valW row + pw q * x.toNat := by
  have := val_set (β := 4294967296) (enc := Int.toNat) row q x hq
  rw [← gw_eq hq] at this
  exact this
theorem fb_loop (l : List Int) (hb : Bytes l) (hl : l.length ≤ 128) (d : Nat) : ∀ (i : Nat) (row : List Int), FBInv l i row → i + d = l.length →
    Ev (fun k => nat_FromBytes.l0 k l row (l.length : Int) (i : Int)) (toW (valH l), 0) := by
  induction d with
  | zero =>
    intro i row h hi
    obtain rfl : i = l.length := by omega
    have ht := trim_ev row h.sz (by rw [h.len]; omega)
    have hv : valW row = valH l := by rw [h.eq, List.take_of_length_le (by simp)]; rfl
    rw [hv] at ht
    exact Ev.step (fun k => by simp only [nat_FromBytes.l0]; rw [if_neg (by omega)]) (Ev.bind (f := fun _ t => some (t, (0 : Int))) ht (Ev.now _))
  | succ d ih =>
    intro i row h hi
    have hrl := h.len
    have hil : i < l.length := by omega
    have c1 : (i : Int) < (l.length : Int) := by omega
    have c2 : (0 : Int) ≤ ((l.length - 1 - i : Nat) : Int) := by omega
    have c3 : ((l.length - 1 - i : Nat) : Int) < (l.length : Int) := by omega
    have c4 : (0 : Int) ≤ ((i / 4 : Nat) : Int) := by omega
    have c5 : ((i / 4 : Nat) : Int) < (row.length : Int) := by omega
    have c6 : (0 : Int) ≤ ((8 * (i % 4) : Nat) : Int) := by omega
    have hq : i / 4 < row.length := by omega
    have hy : 8 * (i % 4) = 0 ∨ 8 * (i % 4) = 8 ∨ 8 * (i % 4) = 16 ∨ 8 * (i % 4) = 24 := by omega
    have i1 : i + 1 + d = l.length := by omega
    have hgl : gw l (l.length - 1 - i) = gw l.reverse i := by
      rw [gw_eq (by omega), gw_eq (by simp; omega), List.getElem_reverse]
    have g := hb.gw (l.length - 1 - i)
    have gr := h.sz.gw (i / 4)
    have hval : valW row < 256 ^ i := by
      have := valL_lt (hb.reverse.take i)
      rw [List.length_take, List.length_reverse, Nat.min_eq_left (by omega)] at this
      rw [h.eq]; exact this
    rw [pow256] at hval
    have hdig := digit_lt h.sz hq hval
    obtain ⟨e1, e2⟩ := fb_round (gw row (i / 4)) (gw l (l.length - 1 - i)) (8 * (i % 4)) hy gr.1 hdig g.1 g.2
    have hst : FBInv l (i + 1) (row.set (i / 4) (((gw row (i / 4)).toNat + (gw l (l.length - 1 - i)).toNat * 2 ^ (8 * (i % 4)) : Nat) : Int)) := by
      refine ⟨by rw [List.length_set]; exact h.len, h.sz.set _ ⟨Int.natCast_nonneg _, Int.ofNat_lt.2 e2⟩, ?_⟩
      have e3 := valW_set' hq (x := (((gw row (i / 4)).toNat + (gw l (l.length - 1 - i)).toNat * 2 ^ (8 * (i % 4)) : Nat) : Int)) (Int.natCast_nonneg _)
      rw [Int.toNat_natCast] at e3
      have e4 : valL (l.reverse.take (i + 1)) = valL (l.reverse.take i) + 256 ^ i * (gw l (l.length - 1 - i)).toNat := by
        rw [take_snoc (by simp; omega), valL_append, valL_one, hgl, List.length_take, List.length_reverse, Nat.min_eq_left (by omega)]
      rw [e4, ← h.eq, pow256]
      generalize 2 ^ (8 * (i % 4)) = P at *
      generalize pw (i / 4) = Q at *
      generalize (gw row (i / 4)).toNat = x at *
      generalize (gw l (l.length - 1 - i)).toNat = y at *
      clear e1 e2 e4 hdig hval hgl hy h ih
      grind
    have w1 : wrap64 (wrap64 ((l.length : Int) - 1) - (i : Int)) = ((l.length - 1 - i : Nat) : Int) := by
      clear e1 e2 hst hdig hval hgl
      rw [w64 (x := (l.length : Int) - 1) (by omega) (by omega), w64 (by omega) (by omega)]; omega
    have w2 : wrap64 (Int.tdiv (i : Int) 4) = ((i / 4 : Nat) : Int) := by
      clear e1 e2 hst hdig hval hgl w1
      rw [show (4 : Int) = ((4 : Nat) : Int) from rfl, ← Int.ofNat_tdiv]; exact w64 (by omega) (by omega)
    have w3 : wrap64 (8 * Int.tmod (i : Int) 4) = ((8 * (i % 4) : Nat) : Int) := by
      clear e1 e2 hst hdig hval hgl w1 w2
      rw [show (4 : Int) = ((4 : Nat) : Int) from rfl, ← Int.ofNat_tmod, w64 (by omega) (by omega)]; omega
    have w4 : wrap64 ((i : Int) + 1) = ((i + 1 : Nat) : Int) := by clear e1 e2 hst hdig hval hgl w1 w2 w3; exact winc (by omega)
    refine Ev.step (fun k => ?_) (ih (i + 1) _ hst i1)
    simp only [nat_FromBytes.l0]
    rw [if_pos c1, w1, if_pos c2, if_pos c3, w2, if_pos c4, if_pos c5, w3, if_pos c6, rd_gw, rd_gw, e1, w4, Int.toNat_natCast]
theorem FromBytes_ev (l : List Int) (hb : Bytes l) (hl : l.length ≤ 128) : Ev (fun k => nat_FromBytes.f k l) (toW (valH l), 0) := by
  unfold nat_FromBytes.f
  have h := fb_loop l hb hl l.length 0 (List.replicate ((l.length + 3) / 4) 0) ⟨by simp, Sized.zeros _, by rw [valW_zeros]; rfl⟩ (by omega)
  have w1 : wrap64 (Int.tdiv (wrap64 ((l.length : Int) + 3)) 4) = (((l.length + 3) / 4 : Nat) : Int) := by
    have : wrap64 ((l.length : Int) + 3) = ((l.length + 3 : Nat) : Int) := by rw [w64 (by omega) (by omega)]; omega
    rw [this, show (4 : Int) = ((4 : Nat) : Int) from rfl, ← Int.ofNat_tdiv]
    clear this
    exact w64 (by omega) (by omega)
  have c0 : ¬ (l.length : Int) > 128 := by omega
  have c1 : (0 : Int) ≤ (((l.length + 3) / 4 : Nat) : Int) := by clear w1; omega
  have c2 : (l.length + 3) / 4 ≤ 70368744177664 := by clear w1; omega
  refine Ev.congr (fun k => ?_) h
  rw [if_neg c0, w1, if_pos c1, Int.toNat_natCast, if_pos c2]
  rfl
end Go.Proofs.Yteejcpbngnojkaa.P
end
section
namespace Go.Proofs.Yteejcpbngnojkaa.P
open Go.RowKit Go.Proofs.YteejcpbngnojkaaW.PrintWords Go.Proofs.YteejcpbngnojkaaW.PrintLast Go.Proofs.YteejcpbngnojkaaW.PrintMore
open Go.Proofs.Yteejcpbngnojkaa.Num
set_option linter.unusedVariables false
def nb (v : Nat) : Nat := ((toB v).length + 7) / 8
def highBytes (v size : Nat) : List Int := (lowBytes v size).reverse
theorem highBytes_length (v size : Nat) : (highBytes v size).length = size := by simp [highBytes, lowBytes_length]
theorem highBytes_bytes (v size : Nat) : Bytes (highBytes v size) := (lowBytes_bytes v size).reverse
theorem nb_lt (v : Nat) : v < 256 ^ nb v := by
  have h := toB_lt v
  have h2 : 2 ^ (toB v).length ≤ 2 ^ (8 * nb v) := Nat.pow_le_pow_right (by decide) (by unfold nb; omega)
  rw [show (256 : Nat) = 2 ^ 8 from by decide, ← Nat.pow_mul]
  exact Nat.lt_of_lt_of_le h h2
theorem nb_le {v i : Nat} (h : i < nb v) : 256 ^ i ≤ v := by
  rw [show (256 : Nat) = 2 ^ 8 from by decide, ← Nat.pow_mul]
  exact toB_len_lt (by unfold nb at h; omega)
theorem gw_rev {l : List Int} {j : Nat} (h : j < l.length) : gw l.reverse j = gw l (l.length - 1 - j) := by
  rw [gw_eq (by simpa using h), gw_eq (by omega), List.getElem_reverse]
theorem word_byte (v i : Nat) : (gw (toW v) (i / 4) / 2 ^ (8 * (i % 4))) % 256 = ((v / 256 ^ i % 256 : Nat) : Int) := by
  rw [toW_gw, pow256, ← Nat.div_div_eq_div_mul]
  generalize v / pw (i / 4) = X
  have hy : i % 4 = 0 ∨ i % 4 = 1 ∨ i % 4 = 2 ∨ i % 4 = 3 := by omega
  rcases hy with h | h | h | h <;> rw [h] <;> simp only [Nat.reduceMul, Nat.reducePow, Int.reducePow] <;> omega
theorem nBytes_loop (v size n : Nat) (hn : n = nb v) (hs : n ≤ size) (hsz : size ≤ 1000000) (hv : (toW v).length ≤ 1048576) (d : Nat) : ∀ (i : Nat) (out : List Int), i + d = n → out.length = size → (∀ j, j < size → gw out (size - 1 - j) = if j < i then ((v / 256 ^ j % 256 : Nat) : Int) else 0) →
    Ev (fun k => nat_Nat_Bytes.l0 k (size : Int) out (n : Int) (i : Int) (toW v)) (highBytes v size, 0) := by
  induction d with
  | zero =>
    intro i out hi hl hg
    obtain rfl : i = n := by omega
    have he : out = highBytes v size := by
      refine list_ext_gw (by rw [hl, highBytes_length]) fun j hj => ?_
      unfold highBytes
      rw [gw_rev (by rw [lowBytes_length]; omega), lowBytes_length, lowBytes_get _ _ _ (by omega)]
      have h := hg (size - 1 - j) (by omega)
      rw [show size - 1 - (size - 1 - j) = j by omega] at h
      rw [h]
      by_cases hc : size - 1 - j < i
      · rw [if_pos hc]
      · rw [if_neg hc]
        have h1 := nb_lt v
        rw [← hn] at h1
        have h2 : 256 ^ i ≤ 256 ^ (size - 1 - j) := Nat.pow_le_pow_right (by decide) (by omega)
        rw [Nat.div_eq_of_lt (Nat.lt_of_lt_of_le h1 h2)]
        rfl
    rw [← he]
    exact Ev.step (f := fun _ => some (out, (0 : Int))) (fun k => by simp only [nat_Nat_Bytes.l0]; rw [if_neg (by omega)]) (Ev.now _)
  | succ d ih =>
    intro i out hi hl hg
    have hin : i < nb v := by omega
    have hle := nb_le hin
    have hqa : i / 4 < (toW v).length := by
      refine toW_len_gt _ _ (Nat.le_trans ?_ hle)
      rw [pow256]
      exact Nat.le_mul_of_pos_right _ (Nat.pow_pos (by decide))
    clear hle
    have c1 : (i : Int) < (n : Int) := by omega
    have c2 : (0 : Int) ≤ ((i / 4 : Nat) : Int) := by omega
    have c3 : ((i / 4 : Nat) : Int) < ((toW v).length : Int) := by omega
    have c4 : (0 : Int) ≤ ((8 * (i % 4) : Nat) : Int) := by omega
    have c5 : (0 : Int) ≤ ((size - 1 - i : Nat) : Int) := by omega
    have c6 : ((size - 1 - i : Nat) : Int) < (out.length : Int) := by omega
    have hso : size - 1 - i < out.length := by omega
    have i1 : i + 1 + d = n := by omega
    have hjj : ∀ j, j < size → (size - 1 - i = size - 1 - j ↔ i = j) := fun j hj => by omega
    have hj2 : ∀ j, i ≠ j → (j < i + 1 ↔ j < i) := fun j hj => by omega
    have h2i : i < i + 1 := by omega
    have hy : 8 * (i % 4) ≤ 32 := by omega
    have w1 : wrap64 (wrap64 ((size : Int) - 1) - (i : Int)) = ((size - 1 - i : Nat) : Int) := by
      rw [w64 (x := (size : Int) - 1) (by omega) (by omega), w64 (by omega) (by omega)]; omega
    have w2 : wrap64 (Int.tdiv (i : Int) 4) = ((i / 4 : Nat) : Int) := by
      clear w1
      rw [show (4 : Int) = ((4 : Nat) : Int) from rfl, ← Int.ofNat_tdiv]; exact w64 (by omega) (by omega)
    have w3 : wrap64 (8 * Int.tmod (i : Int) 4) = ((8 * (i % 4) : Nat) : Int) := by
      clear w1 w2
      rw [show (4 : Int) = ((4 : Nat) : Int) from rfl, ← Int.ofNat_tmod, w64 (by omega) (by omega)]; omega
    have w4 : wrap64 ((i : Int) + 1) = ((i + 1 : Nat) : Int) := by clear w1 w2 w3; exact winc (by omega)
    have hsh : shr .u32 (gw (toW v) (i / 4)) ((8 * (i % 4) : Nat) : Int) % 256 = ((v / 256 ^ i % 256 : Nat) : Int) := by
      have hmin : min (8 * (i % 4)) IntKind.u32.bits = 8 * (i % 4) := Nat.min_eq_left hy
      unfold shr
      rw [Int.toNat_natCast, hmin, word_byte]
    refine Ev.step (fun k => ?_) (ih (i + 1) (out.set (size - 1 - i) ((v / 256 ^ i % 256 : Nat) : Int)) i1 (by rw [List.length_set]; exact hl) (fun j hj => ?_))
    · simp only [nat_Nat_Bytes.l0]
      rw [if_pos c1, w2, if_pos c2, if_pos c3, w3, if_pos c4, w1, if_pos c5, if_pos c6, rd_gw, hsh, w4, Int.toNat_natCast]
    · rw [gw_set hso]
      by_cases hij : i = j
      · subst hij
        rw [if_pos rfl, if_pos h2i]
      · rw [if_neg (fun e => hij ((hjj j hj).1 e)), hg j hj]
        simp only [hj2 j hij]
theorem toB_len_words (v n : Nat) (h : 32 * (toW v).length ≤ n) : (toB v).length ≤ n := by
  refine toB_len_le _ _ (Nat.lt_of_lt_of_le (toW_lt v) ?_)
  rw [pw_two]
  exact Nat.pow_le_pow_right (by decide) h
theorem nb_word (v : Nat) (hv : (toW v).length ≤ 1048576) : wrap64 (Int.tdiv (wrap64 ((((toB v).length : Nat) : Int) + 7)) 8) = ((nb v : Nat) : Int) := by
  have h1 : (toB v).length ≤ 33554432 := toB_len_words v _ (by omega)
  unfold nb
  have e1 : wrap64 ((((toB v).length : Nat) : Int) + 7) = (((toB v).length + 7 : Nat) : Int) := by rw [w64 (by omega) (by omega)]; omega
  rw [e1, show (8 : Int) = ((8 : Nat) : Int) from rfl, ← Int.ofNat_tdiv]
  clear e1
  exact w64 (by omega) (by omega)
theorem nb_bound (v : Nat) (hv : (toW v).length ≤ 1000) : nb v ≤ 4000 := by
  have h1 : (toB v).length ≤ 32000 := toB_len_words v _ (by omega)
  unfold nb; omega
theorem nBytes_ev (v size : Nat) (hs : nb v ≤ size) (hsz : size ≤ 1000000) (hv : (toW v).length ≤ 1048576) : Ev (fun k => nat_Nat_Bytes.f k (toW v) (size : Int)) (highBytes v size, 0) := by
  have h : Ev (fun k => nat_Nat_Bytes.l0 k (size : Int) (List.replicate size 0) ((nb v : Nat) : Int) 0 (toW v)) (highBytes v size, 0) := nBytes_loop v size (nb v) rfl hs hsz hv (nb v) 0 (List.replicate size 0) (by omega) (by simp) (fun j hj => by rw [if_neg (by omega)]; exact valW_zero (Sized.zeros _) (valW_zeros _) _)
  have c1 : ¬ (size : Int) < 0 := by omega
  have c2 : ¬ ((nb v : Nat) : Int) > (size : Int) := by omega
  have c3 : (0 : Int) ≤ (size : Int) := by omega
  have c4 : size ≤ 281474976710656 := by omega
  refine Ev.congr (fun k => ?_) h
  unfold nat_Nat_Bytes.f
  rw [if_neg c1, Bits_toW v hv]
  refine (Option.bind_some _ _).trans ?_
  rw [nb_word v hv]
  refine (if_neg c2).trans ?_
  refine (if_pos c3).trans ?_
  rw [Int.toNat_natCast]
  refine (if_pos c4).trans ?_
  with_reducible rfl
theorem Least_ev (v : Nat) (hv : (toW v).length ≤ 1000) : Ev (fun k => nat_Nat_Least.f k (toW v)) (highBytes v (nb v)) := by
  have hb := nb_bound v hv
  have h := nBytes_ev v (nb v) (Nat.le_refl _) (by omega) (by omega)
  refine Ev.congr (fun k => ?_) (Ev.bind (f := fun _ bt => some bt.1) h (Ev.now _))
  unfold nat_Nat_Least.f
  have hv2 : (toW v).length ≤ 1048576 := Nat.le_trans hv (by decide)
  rw [Bits_toW v hv2]
  refine (Option.bind_some _ _).trans ?_
  rw [nb_word v hv2]
structure RBInv (v size i : Nat) (out : List Int) : Prop where
  len : out.length = size
  by_ : Bytes out
  eq : valL out.reverse = v % 2 ^ i
theorem set_rev {l : List Int} {j : Nat} {x : Int} (h : j < l.length) : (l.set (l.length - 1 - j) x).reverse = l.reverse.set j x := by
  refine list_ext_gw (by simp) fun i hi => ?_
  rw [List.length_reverse, List.length_set] at hi
  rw [gw_rev (by rw [List.length_set]; exact hi), gw_set (by omega), gw_set (by rw [List.length_reverse]; exact h), List.length_set]
  by_cases e : j = i
  · subst e; rw [if_pos rfl, if_pos rfl]
  · rw [if_neg (by omega), if_neg e, gw_rev hi]
theorem digitL_lt {l : List Int} (hb : Bytes l) {q c : Nat} (hq : q < l.length) (h : valL l < 256 ^ q * c) : (gw l q).toNat < c := by
  have h1 := val_take_drop (β := 256) (enc := Int.toNat) q l (by omega)
  have h2 : l.drop q = gw l q :: l.drop (q + 1) := by rw [List.drop_eq_getElem_cons hq, gw_eq hq]
  rw [h2] at h1
  have h1 : valL l = valL (l.take q) + 256 ^ q * ((gw l q).toNat + 256 * valL (l.drop (q + 1))) := h1
  have h3 : 256 ^ q * (gw l q).toNat < 256 ^ q * c := by
    rw [Nat.mul_add] at h1
    omega
  exact Nat.lt_of_mul_lt_mul_left h3
theorem valL_set {l : List Int} {q : Nat} (hq : q < l.length) {x : Int} : valL (l.set q x) + 256 ^ q * (gw l q).toNat = valL l + 256 ^ q * x.toNat := by
  have := val_set (β := 256) (enc := Int.toNat) l q x hq
  rw [← gw_eq hq] at this
  exact this
theorem pow2_8 (i : Nat) : 2 ^ i = 256 ^ (i / 8) * 2 ^ (i % 8) := by
  rw [show (256 : Nat) = 2 ^ 8 from by decide, ← Nat.pow_mul, ← Nat.pow_add]
  congr 1
  omega
theorem rb_round (a : Int) (y : Nat) (hy : y < 8) (ha0 : 0 ≤ a) (ha : a.toNat < 2 ^ y) : (a + shl .u8 1 (y : Int)) % 256 = ((a.toNat + 2 ^ y : Nat) : Int) ∧ a.toNat + 2 ^ y < 256 := by
  obtain ⟨n, rfl⟩ := Int.eq_ofNat_of_zero_le ha0
  simp only [Int.toNat_natCast] at ha ⊢
  have hy8 : y = 0 ∨ y = 1 ∨ y = 2 ∨ y = 3 ∨ y = 4 ∨ y = 5 ∨ y = 6 ∨ y = 7 := by omega
  rcases hy8 with rfl | rfl | rfl | rfl | rfl | rfl | rfl | rfl
  all_goals
    simp only [shl, IntKind.bits, Int.toNat_natCast, IntKind.wrap, IntKind.signed] at ha ⊢
    simp at ha ⊢
    omega
theorem rBytes_loop (v size : Nat) (hs : nb v ≤ size) (hsz : size ≤ 1000000) (hv : (toB v).length ≤ 1000000) (d : Nat) : ∀ (i : Nat) (out : List Int), RBInv v size i out → i + d = (toB v).length →
    Ev (fun k => sacristyref01_Bytes.l0 k (size : Int) out (toB v) ((toB v).length : Int) (i : Int)) (highBytes v size, true) := by
  induction d with
  | zero =>
    intro i out h hi
    have hlt := toB_lt v
    rw [show (toB v).length = i by omega] at hlt
    have he : out = highBytes v size := by
      have e1 := h.eq
      rw [Nat.mod_eq_of_lt hlt] at e1
      have e2 := lowBytes_valL h.by_.reverse
      rw [e1, List.length_reverse, h.len] at e2
      unfold highBytes
      rw [e2, List.reverse_reverse]
    rw [← he]
    exact Ev.step (f := fun _ => some (out, true)) (fun k => by simp only [sacristyref01_Bytes.l0]; rw [if_neg (by omega)]) (Ev.now _)
  | succ d ih =>
    intro i out h hi
    have hl := h.len
    have c1 : (i : Int) < ((toB v).length : Int) := by omega
    have c2 : (0 : Int) ≤ (i : Int) := by omega
    have hq8 : i / 8 < size := by unfold nb at hs; omega
    have c3 : (0 : Int) ≤ ((size - 1 - i / 8 : Nat) : Int) := by omega
    have c4 : ((size - 1 - i / 8 : Nat) : Int) < (out.length : Int) := by omega
    have c5 : (0 : Int) ≤ ((i % 8 : Nat) : Int) := by omega
    have i1 : i + 1 + d = (toB v).length := by omega
    have hi8 : i % 8 < 8 := by omega
    have hlo : i / 8 < out.length := by omega
    have hlor : i / 8 < out.reverse.length := by rw [List.length_reverse]; exact hlo
    have w1 : wrap64 (wrap64 ((size : Int) - 1) - wrap64 (Int.tdiv (i : Int) 8)) = ((size - 1 - i / 8 : Nat) : Int) := by
      have : wrap64 (Int.tdiv (i : Int) 8) = ((i / 8 : Nat) : Int) := by
        rw [show (8 : Int) = ((8 : Nat) : Int) from rfl, ← Int.ofNat_tdiv]; exact w64 (by omega) (by omega)
      rw [this]
      clear this
      rw [w64 (x := (size : Int) - 1) (by omega) (by omega), w64 (by omega) (by omega)]; omega
    have w3 : Int.tmod (i : Int) 8 = ((i % 8 : Nat) : Int) := by
      rw [show (8 : Int) = ((8 : Nat) : Int) from rfl, ← Int.ofNat_tmod]
    have w4 : wrap64 ((i : Int) + 1) = ((i + 1 : Nat) : Int) := by clear w1 w3; exact winc (by omega)
    have hg := gb_toB v i
    have hm := mod_snoc v i
    cases hx : gb (toB v) i with
    | false =>
      rw [hx] at hg
      rw [← hg] at hm
      simp only [Bool.toNat_false, Nat.mul_zero, Nat.add_zero] at hm
      refine Ev.step (fun k => ?_) (ih (i + 1) out ⟨h.len, h.by_, by rw [hm]; exact h.eq⟩ i1)
      simp only [sacristyref01_Bytes.l0]
      rw [if_pos c1, if_pos c2, if_pos c1, rdB, hx, if_neg (by decide), w4]
    | true =>
      rw [hx] at hg
      rw [← hg] at hm
      simp only [Bool.toNat_true, Nat.mul_one] at hm
      have hval : valL out.reverse < 2 ^ i := by rw [h.eq]; exact Nat.mod_lt _ (Nat.pow_pos (by decide))
      rw [pow2_8] at hval
      have hdig := digitL_lt h.by_.reverse hlor hval
      have hgr : gw out.reverse (i / 8) = gw out (size - 1 - i / 8) := by rw [gw_rev hlo, hl]
      rw [hgr] at hdig
      obtain ⟨e1, e2⟩ := rb_round (gw out (size - 1 - i / 8)) (i % 8) hi8 (h.by_.gw _).1 hdig
      have hst : RBInv v size (i + 1) (out.set (size - 1 - i / 8) (((gw out (size - 1 - i / 8)).toNat + 2 ^ (i % 8) : Nat) : Int)) := by
        refine ⟨by rw [List.length_set]; exact h.len, fun y hy => ?_, ?_⟩
        · rcases List.mem_or_eq_of_mem_set hy with h1 | rfl
          · exact h.by_ y h1
          · exact ⟨Int.natCast_nonneg _, Int.ofNat_lt.2 e2⟩
        · have e3 := set_rev (l := out) (x := (((gw out (size - 1 - i / 8)).toNat + 2 ^ (i % 8) : Nat) : Int)) hlo
          rw [hl] at e3
          have e4 := valL_set hlor (x := (((gw out (size - 1 - i / 8)).toNat + 2 ^ (i % 8) : Nat) : Int))
          rw [Int.toNat_natCast, hgr, h.eq] at e4
          rw [e3, hm]
          have e5 := pow2_8 i
          rw [e5] at e4 ⊢
          generalize 256 ^ (i / 8) = Q at *
          generalize 2 ^ (i % 8) = P at *
          generalize (gw out (size - 1 - i / 8)).toNat = x at *
          rw [Nat.mul_add] at e4
          clear e1 e2 e3 e5 hdig hgr hval hm ih w1 w3 w4 hg
          omega
      refine Ev.step (fun k => ?_) (ih (i + 1) _ hst i1)
      simp only [sacristyref01_Bytes.l0]
      rw [if_pos c1, if_pos c2, if_pos c1, rdB, hx, if_pos rfl, w1, if_pos c3, if_pos c4, w3, if_pos c5, rd_gw, e1, w4, Int.toNat_natCast]
theorem rnb_word (v : Nat) (hv : (toB v).length ≤ 1000000) : wrap64 (Int.tdiv (wrap64 ((((toB v).length : Nat) : Int) + 7)) 8) = ((nb v : Nat) : Int) := by
  unfold nb
  have e1 : wrap64 ((((toB v).length : Nat) : Int) + 7) = (((toB v).length + 7 : Nat) : Int) := by rw [w64 (by omega) (by omega)]; omega
  rw [e1, show (8 : Int) = ((8 : Nat) : Int) from rfl, ← Int.ofNat_tdiv]
  clear e1
  exact w64 (by omega) (by omega)
theorem rBytes_ev (v size : Nat) (hs : nb v ≤ size) (hsz : size ≤ 1000000) (hv : (toB v).length ≤ 1000000) : Ev (fun k => sacristyref01_Bytes.f k (toB v) (size : Int)) (highBytes v size, true) := by
  have hz : Bytes (List.replicate size 0) := fun x hx => by rw [List.eq_of_mem_replicate hx]; decide
  have h : Ev (fun k => sacristyref01_Bytes.l0 k (size : Int) (List.replicate size 0) (toB v) ((toB v).length : Int) 0) (highBytes v size, true) := rBytes_loop v size hs hsz hv (toB v).length 0 (List.replicate size 0) ⟨by simp, hz, by rw [List.reverse_replicate, valL_zeros]; simp [Nat.mod_one]⟩ (by omega)
  have c2 : ¬ ((nb v : Nat) : Int) > (size : Int) := by omega
  have c3 : (0 : Int) ≤ (size : Int) := by omega
  have c4 : size ≤ 281474976710656 := by omega
  refine Ev.congr (fun k => ?_) h
  unfold sacristyref01_Bytes.f
  rw [rnb_word v hv]
  refine (if_neg c2).trans ?_
  refine (if_pos c3).trans ?_
  rw [Int.toNat_natCast]
  refine (if_pos c4).trans ?_
  with_reducible rfl
theorem highBytes_inj {a b : Nat} (h : highBytes a (nb a) = highBytes b (nb b)) : a = b := by
  have hl := congrArg List.length h
  rw [highBytes_length, highBytes_length] at hl
  have h2 : lowBytes a (nb a) = lowBytes b (nb b) := by
    have := congrArg List.reverse h
    simpa [highBytes] using this
  have h3 := congrArg valL h2
  rw [lowBytes_val, lowBytes_val, Nat.mod_eq_of_lt (nb_lt a), Nat.mod_eq_of_lt (nb_lt b)] at h3
  exact h3
end Go.Proofs.Yteejcpbngnojkaa.P
end
section
namespace Go.Proofs.Yteejcpbngnojkaa.P
open Go.RowKit Go.Proofs.YteejcpbngnojkaaW.PrintWords Go.Proofs.YteejcpbngnojkaaW.PrintLast Go.Proofs.YteejcpbngnojkaaW.PrintMore
attribute [local go_sem] max2_int min2_int max_two min_two max_three min_three max_four min_four
set_option linter.unusedVariables false
set_option linter.unusedSimpArgs false
def nat_Nat_Gcd.l0 : Nat → List Int → List Int → Option (List Int)
 |0,_,_ => none
 |k + 1,x719000,x720000 => (nat_Nat_Zero.f x720000).bind fun t721 => (if t721 = true then (some x719000) else ((nat_Nat_Div.f k x719000 x720000).bind fun bt722 => (nat_Nat_Gcd.l0 k x720000 bt722.2.1)))
def nat_Nat_Gcd.f (k : Nat) (l0_0 : List Int) (l1_0 : List Int) : Option (List Int):=nat_Nat_Gcd.l0 k l0_0 l1_0
theorem nat_Nat_Gcd.mono_l : ∀ k,(∀ y0 y1,LeO (nat_Nat_Gcd.l0 k y0 y1) (nat_Nat_Gcd.l0 (k + 1) y0 y1))
 |0 => fun _ _ r h => by simp [nat_Nat_Gcd.l0] at h
 |k + 1 => by
  have ih0:=nat_Nat_Gcd.mono_l k
  ·intro y0 y1
   unfold nat_Nat_Gcd.l0
   repeat' first
   |(with_reducible exact ih0 _ _)
   |(with_reducible exact nat_Nat_Div.mono _ _ _)
   |(with_reducible exact LeO.refl _)
   |(with_reducible exact LeO.none _)
   |(with_reducible refine LeO.ite ?_ ?_)
   |(with_reducible refine LeO.bind ?_ (fun _ => ?_))
   |exact ih0 _ _
   |exact nat_Nat_Div.mono _ _ _
   |exact LeO.none _
   |refine LeO.ite ?_ ?_
   |refine LeO.bind ?_ (fun _ => ?_)
theorem nat_Nat_Gcd.mono : ∀ a0 a1 k,LeO (nat_Nat_Gcd.f k a0 a1) (nat_Nat_Gcd.f (k + 1) a0 a1):=by
 intro a0 a1 k
 have ih0:=nat_Nat_Gcd.mono_l k
 unfold nat_Nat_Gcd.f
 repeat' first
   |(with_reducible exact ih0 _ _)
   |(with_reducible exact nat_Nat_Div.mono _ _ _)
   |(with_reducible exact LeO.refl _)
   |(with_reducible exact LeO.none _)
   |(with_reducible refine LeO.ite ?_ ?_)
   |(with_reducible refine LeO.bind ?_ (fun _ => ?_))
   |exact ih0 _ _
   |exact nat_Nat_Div.mono _ _ _
   |exact LeO.none _
   |refine LeO.ite ?_ ?_
   |refine LeO.bind ?_ (fun _ => ?_)
end Go.Proofs.Yteejcpbngnojkaa.P
end
section
namespace Go.Proofs.Yteejcpbngnojkaa.P
open Go.RowKit Go.Proofs.YteejcpbngnojkaaW.PrintWords Go.Proofs.YteejcpbngnojkaaW.PrintLast Go.Proofs.YteejcpbngnojkaaW.PrintMore
open Go.Proofs.Yteejcpbngnojkaa.Num
set_option linter.unusedVariables false
theorem str_inj {xs ys : List Int} (hx : Bytes xs) (hy : Bytes ys) : (strOfNums xs).toList = (strOfNums ys).toList ↔ xs = ys := by
  constructor
  · intro h
    rw [Lib.strOfNums_toList, Lib.strOfNums_toList] at h
    have h3 : xs.map (fun n => UInt8.ofNat n.toNat) = ys.map (fun n => UInt8.ofNat n.toNat) := h
    refine List.ext_getElem (by have := congrArg List.length h3; simpa using this) fun i h1 h4 => ?_
    have h5 := congrArg (fun l => l[i]?) h3
    simp only [List.getElem?_map, List.getElem?_eq_getElem h1, List.getElem?_eq_getElem h4, Option.map_some, Option.some.injEq] at h5
    have g1 := hx _ (List.getElem_mem h1)
    have g2 := hy _ (List.getElem_mem h4)
    have h6 := congrArg UInt8.toNat h5
    rw [UInt8.toNat_ofNat_of_lt' (by show _ < 256; omega), UInt8.toNat_ofNat_of_lt' (by show _ < 256; omega)] at h6
    omega
  · rintro rfl; rfl
theorem toB_of_W {v : Nat} {n : Nat} (hv : v < pw n) : (toB v).length ≤ 32 * n := toB_len_le _ _ (by rwa [pw_two] at hv)
theorem Same_ev (a b : Nat) (ha : (toW a).length ≤ 1000) (hb : (toB b).length ≤ 1000000) : Ev (fun k => sacristylaw01_Same.f k (toW a) (toB b)) (decide (a = b)) := by
  have h1 := Least_ev a ha
  have h2 := rBytes_ev b (nb b) (Nat.le_refl _) (by unfold nb; omega) hb
  have e : ((strOfNums (highBytes a (nb a))).toList == (strOfNums (highBytes b (nb b))).toList) = decide (a = b) := by
    rw [Bool.eq_iff_iff, beq_iff_eq, decide_eq_true_iff, str_inj (highBytes_bytes _ _) (highBytes_bytes _ _)]
    exact ⟨fun h => highBytes_inj h, fun h => by rw [h]⟩
  rw [← e]
  refine Ev.congr (fun k => ?_) (Ev.bind (f := fun k bt => (nat_Nat_Least.f k (toW a)).bind fun t317 => some ((strOfNums t317).toList == (strOfNums bt.1).toList)) h2 (Ev.bind h1 (f := fun _ t317 => some ((strOfNums t317).toList == (strOfNums (highBytes b (nb b))).toList)) (Ev.now _)))
  unfold sacristylaw01_Same.f
  rw [rnb_word b hb]
theorem Same_true (a : Nat) (ha : (toW a).length ≤ 1000) : Ev (fun k => sacristylaw01_Same.f k (toW a) (toB a)) true := by
  have := Same_ev a a ha (Nat.le_trans (toB_of_W (toW_lt a)) (by omega))
  simpa using this
theorem mn_nat (a b : Nat) : mn (a : Int) (b : Int) = ((min a b : Nat) : Int) := by unfold mn; split <;> omega
def num48 (l : List Int) : Nat := valH (l.take 48)
theorem num48_lt (l : List Int) (hb : Bytes l) : num48 l < pw 12 := by
  have h := valH_lt (hb.take 48)
  refine Nat.lt_of_lt_of_le h (Nat.le_trans (Nat.pow_le_pow_right (by decide) (List.length_take_le ..)) ?_)
  exact Nat.le_of_eq (by rw [pow256]; decide)
theorem num48_W (l : List Int) (hb : Bytes l) : (toW (num48 l)).length ≤ 12 := toW_len_le _ _ (num48_lt l hb)
theorem take_min (l : List Int) (n : Nat) : l.take (min l.length n) = l.take n := by
  by_cases h : n ≤ l.length
  · rw [Nat.min_eq_right h]
  · rw [Nat.min_eq_left (by omega), List.take_length, List.take_of_length_le (by omega)]
theorem Num_ev (l : List Int) (hb : Bytes l) : Ev (fun k => sacristylaw01_Num.f k l) (toW (num48 l)) := by
  have h := FromBytes_ev (l.take 48) (hb.take 48) (Nat.le_trans (List.length_take_le ..) (by decide))
  have hm : mn (l.length : Int) 48 = ((min l.length 48 : Nat) : Int) := mn_nat _ 48
  have c1 : (0 : Int) ≤ ((min l.length 48 : Nat) : Int) := Int.natCast_nonneg _
  have c2 : ((min l.length 48 : Nat) : Int) ≤ (l.length : Int) := Int.ofNat_le.2 (Nat.min_le_left ..)
  refine Ev.congr (fun k => ?_) (Ev.bind (f := fun _ bt => some bt.1) h (Ev.now _))
  unfold sacristylaw01_Num.f
  rw [hm, if_pos c1, if_pos c2, Int.toNat_natCast, take_min]
theorem Div_toW (k a b : Nat) (hb : 0 < b) (ha : (toW a).length ≤ 1048576) (hbl : (toW b).length ≤ 1048576) : nat_Nat_Div.f k (toW a) (toW b) = some (toW (a / b), toW (a % b), 0) := by
  unfold nat_Nat_Div.f
  rw [if_pos (by rw [canonB_toW, canonB_toW]; simp [ha, hbl]), valW_toW, valW_toW, if_neg (by omega)]
theorem Div_zero (k a : Nat) (ha : (toW a).length ≤ 1048576) : nat_Nat_Div.f k (toW a) (toW 0) = some ([], [], 5) := by
  unfold nat_Nat_Div.f
  rw [if_pos (by rw [canonB_toW, canonB_toW]; simp [ha, toW_zero]), valW_toW, if_pos rfl]
theorem toW_small (n : Nat) (h : n < 4294967296) : (toW n).length ≤ 1 := toW_len_le 1 n (by simpa [pw] using h)
theorem lives_ev : Ev (fun k => sacristylaw01_lives.f k) true := by
  have n7 := New_ev 7 (by decide) (by decide)
  have n2 := New_ev 2 (by decide) (by decide)
  have s3 := rSmall 3 (by decide)
  have s1 := rSmall 1 (by decide)
  have m3 := Same_true 3 (Nat.le_trans (toW_small 3 (by decide)) (by decide))
  have m1 := Same_true 1 (Nat.le_trans (toW_small 1 (by decide)) (by decide))
  unfold sacristylaw01_lives.f
  refine Ev.bind n7 (Ev.bind n2 ?_)
  have hd : ∀ k, nat_Nat_Div.f k (toW (7 : Int).toNat) (toW (2 : Int).toNat) = some (toW 3, toW 1, 0) := fun k => Div_toW k 7 2 (by decide) (Nat.le_trans (toW_small 7 (by decide)) (by decide)) (Nat.le_trans (toW_small 2 (by decide)) (by decide))
  refine Ev.congr (f := fun k => (sacristyref01_Small.f k 3).bind fun t435 => (sacristylaw01_Same.f k (toW 3) t435).bind fun t438 => if t438 = true then ((sacristyref01_Small.f k 1).bind fun t439 => (sacristylaw01_Same.f k (toW 1) t439).bind fun t442 => some t442) else some false) (fun k => ?_) ?_
  · rw [hd]
    refine (Option.bind_some _ _).trans ?_
    exact if_pos rfl
  · refine Ev.bind s3 (Ev.bind m3 ?_)
    refine Ev.congr (fun k => if_pos rfl) ?_
    exact Ev.bind s1 (Ev.bind (f := fun _ t442 => some t442) m1 (Ev.now _))
end Go.Proofs.Yteejcpbngnojkaa.P
end
section
namespace Go.Proofs.Yteejcpbngnojkaa.P
open Go.RowKit Go.Proofs.YteejcpbngnojkaaW.PrintWords Go.Proofs.YteejcpbngnojkaaW.PrintLast Go.Proofs.YteejcpbngnojkaaW.PrintMore
open Go.Proofs.Yteejcpbngnojkaa.Num
set_option linter.unusedVariables false
theorem mul_step {V V' P x y c old s : Nat} (hs : s = c + (x * y + old)) (h : V' + P * old = V + P * (s % 4294967296)) : V' + P * 4294967296 * (s / 4294967296) = V + P * c + P * (x * y) := by
  have h1 := Nat.mod_add_div s 4294967296
  have h2 : P * (s % 4294967296) + P * 4294967296 * (s / 4294967296) = P * s := by rw [Nat.mul_assoc, ← Nat.mul_add, h1]
  have h3 : P * s = P * c + (P * (x * y) + P * old) := by rw [hs, Nat.mul_add, Nat.mul_add]
  omega
theorem mul_inner (a b : List Int) (hb : Sized b) (i x : Nat) (hx : x < 4294967296) (hi : i < a.length) (hla : a.length ≤ 100000) (hlb : b.length ≤ 100000) (r : List Int) (d : Nat) :
    ∀ (j c V0 : Nat) (out : List Int), j + d = b.length → out.length = a.length + b.length → Sized out → c < 4294967296 → gw out (i + b.length) = 0 → valW out + pw (i + j) * c = V0 + pw i * (x * valW (b.take j)) →
    (∀ out', out'.length = a.length + b.length → Sized out' → valW out' = V0 + pw i * (x * valW b) → Ev (fun k => nat_Nat_Mul.l0 k out' a (a.length : Int) (wrap64 ((i : Int) + 1)) b) r) →
    Ev (fun k => nat_Nat_Mul.l1 k out (i : Int) (x : Int) (c : Int) a (a.length : Int) (i : Int) b (b.length : Int) (j : Int) b) r := by
  induction d with
  | zero =>
    intro j c V0 out hj hol hos hc hz he hK
    obtain rfl : j = b.length := by omega
    have c1 : ¬ ((b.length : Nat) : Int) < (b.length : Int) := by omega
    have c2 : (0 : Int) ≤ ((i + b.length : Nat) : Int) := by omega
    have c3 : ((i + b.length : Nat) : Int) < (out.length : Int) := by omega
    have hq : i + b.length < out.length := by omega
    have ec : (c : Int) % 4294967296 = (c : Int) := by omega
    have hbd : (0 : Int) ≤ (c : Int) ∧ (c : Int) < 4294967296 := by omega
    have w1 : wrap64 ((i : Int) + (b.length : Int)) = ((i + b.length : Nat) : Int) := by rw [w64 (by omega) (by omega)]; omega
    have hv := valW_set' hq (x := (c : Int)) hbd.1
    rw [hz, Int.toNat_natCast] at hv
    rw [List.take_length] at he
    refine Ev.step (fun k => ?_) (hK (out.set (i + b.length) (c : Int)) (by rw [List.length_set]; exact hol) (hos.set _ hbd) (by simp at hv; omega))
    simp only [nat_Nat_Mul.l1]
    rw [if_neg c1, w1, if_pos c2, if_pos c3, Int.toNat_natCast, ec]
  | succ d ih =>
    intro j c V0 out hj hol hos hc hz he hK
    have c1 : (j : Int) < (b.length : Int) := by omega
    have c2 : (0 : Int) ≤ (j : Int) := by omega
    have c3 : (0 : Int) ≤ ((i + j : Nat) : Int) := by omega
    have c4 : ((i + j : Nat) : Int) < (out.length : Int) := by omega
    have hq : i + j < out.length := by omega
    have hjb : j < b.length := by omega
    have j1 : j + 1 + d = b.length := by omega
    have hne : ¬ i + j = i + b.length := by omega
    have gy := hb.gw j
    have go := hos.gw (i + j)
    obtain ⟨y, hy⟩ := Int.eq_ofNat_of_zero_le gy.1
    obtain ⟨o, ho⟩ := Int.eq_ofNat_of_zero_le go.1
    rw [hy] at gy
    rw [ho] at go
    have hy4 : y < 4294967296 := by omega
    have ho4 : o < 4294967296 := by omega
    have hxy : x * y ≤ 4294967295 * 4294967295 := Nat.mul_le_mul (by omega) (by omega)
    have hs64 : c + (x * y + o) < 18446744073709551616 := by omega
    have e1 : IntKind.u64.wrap ((x : Int) * (y : Int)) = ((x * y : Nat) : Int) := by
      rw [← Int.natCast_mul]; exact wu64 (by omega) (by omega)
    have e2 : IntKind.u64.wrap (((x * y : Nat) : Int) + (o : Int)) = ((x * y + o : Nat) : Int) := by
      rw [← Int.natCast_add]; exact wu64 (by omega) (by omega)
    have e3 : IntKind.u64.wrap ((c : Int) + ((x * y + o : Nat) : Int)) = ((c + (x * y + o) : Nat) : Int) := by
      rw [← Int.natCast_add]; exact wu64 (by omega) (by omega)
    have ex : IntKind.u64.wrap (x : Int) = (x : Int) := wu64 (by omega) (by omega)
    have ey : IntKind.u64.wrap (y : Int) = (y : Int) := wu64 (by omega) (by omega)
    have eo : IntKind.u64.wrap (o : Int) = (o : Int) := wu64 (by omega) (by omega)
    have w1 : wrap64 ((i : Int) + (j : Int)) = ((i + j : Nat) : Int) := by
      clear e1 e2 e3 ex ey eo
      rw [w64 (by omega) (by omega)]; omega
    have w2 : wrap64 ((j : Int) + 1) = ((j + 1 : Nat) : Int) := by clear e1 e2 e3 ex ey eo w1; exact winc (by omega)
    obtain ⟨s, hs⟩ : ∃ s, s = c + (x * y + o) := ⟨_, rfl⟩
    rw [← hs] at e3 hs64
    have hbd : (0 : Int) ≤ ((s % 4294967296 : Nat) : Int) ∧ ((s % 4294967296 : Nat) : Int) < 4294967296 := by clear e1 e2 e3 ex ey eo w1 w2; omega
    have hcc : s / 4294967296 < 4294967296 := by clear e1 e2 e3 ex ey eo w1 w2; omega
    have hv := valW_set' hq (x := ((s % 4294967296 : Nat) : Int)) hbd.1
    rw [ho, Int.toNat_natCast, Int.toNat_natCast] at hv
    have hm := mul_step hs hv
    have hz' : gw (out.set (i + j) ((s % 4294967296 : Nat) : Int)) (i + b.length) = 0 := by rw [gw_set hq, if_neg hne]; exact hz
    have hval : valW (out.set (i + j) ((s % 4294967296 : Nat) : Int)) + pw (i + (j + 1)) * (s / 4294967296) = V0 + pw i * (x * valW (b.take (j + 1))) := by
      rw [show i + (j + 1) = i + j + 1 from rfl, pw_succ, hm, valW_snoc hjb, hy, Int.toNat_natCast, he, pw_add]
      clear e1 e2 e3 ex ey eo w1 w2 hm hv hz' ih hK
      generalize pw i = P
      generalize pw j = Q
      generalize valW (b.take j) = T
      grind
    refine Ev.step (fun k => ?_) (ih (j + 1) (s / 4294967296) V0 _ j1 (by rw [List.length_set]; exact hol) (hos.set _ hbd) hcc hz' hval hK)
    simp only [nat_Nat_Mul.l1]
    rw [if_pos c1, if_pos c2, if_pos c1, w1, if_pos c3, if_pos c4, rd_gw, rd_gw, hy, ho, ex, ey, eo, e1, e2, e3, w2, Int.toNat_natCast]
    rfl
theorem mul_outer (a b : List Int) (ha : Sized a) (hb : Sized b) (hla : a.length ≤ 100000) (hlb : b.length ≤ 100000) (d : Nat) : ∀ (i : Nat) (out : List Int), i + d = a.length → out.length = a.length + b.length → Sized out → valW out = valW (a.take i) * valW b →
    Ev (fun k => nat_Nat_Mul.l0 k out a (a.length : Int) (i : Int) b) (toW (valW a * valW b)) := by
  induction d with
  | zero =>
    intro i out hi hol hos he
    obtain rfl : i = a.length := by omega
    have ht := trim_ev out hos (by omega)
    rw [he, List.take_length] at ht
    exact Ev.step (fun k => by simp only [nat_Nat_Mul.l0]; rw [if_neg (by omega)]) (Ev.bind (f := fun _ t => some t) ht (Ev.now _))
  | succ d ih =>
    intro i out hi hol hos he
    have c1 : (i : Int) < (a.length : Int) := by omega
    have c2 : (0 : Int) ≤ (i : Int) := by omega
    have hia : i < a.length := by omega
    have i1 : i + 1 + d = a.length := by omega
    have hq : i + b.length < out.length := by omega
    have gx := ha.gw i
    obtain ⟨x, hx⟩ := Int.eq_ofNat_of_zero_le gx.1
    rw [hx] at gx
    have hx4 : x < 4294967296 := by omega
    have hT := valW_lt (ha.take i)
    rw [List.length_take, Nat.min_eq_left (by omega)] at hT
    have hB := valW_lt hb
    have hz : gw out (i + b.length) = 0 := by
      have h1 : valW out < pw (i + b.length) * 1 := by
        rw [he, Nat.mul_one, pw_add]; exact Nat.mul_lt_mul'' hT hB
      have h2 := digit_lt hos hq h1
      have := (hos.gw (i + b.length)).1
      omega
    have hw := winc (n := i) (by omega)
    refine Ev.step (f := fun k => nat_Nat_Mul.l1 k out (i : Int) (x : Int) 0 a (a.length : Int) (i : Int) b (b.length : Int) 0 b) (fun k => ?_) ?_
    · simp only [nat_Nat_Mul.l0]
      rw [if_pos c1, if_pos c2, if_pos c1, rd_gw, hx]
    · refine mul_inner a b hb i x hx4 hia hla hlb _ b.length 0 0 (valW out) out (by simp) hol hos (by decide) hz (by simp [valW_nil]) (fun out' hl' hs' hv' => ?_)
      rw [hw]
      refine ih (i + 1) out' i1 hl' hs' ?_
      rw [hv', he, valW_snoc hia, hx, Int.toNat_natCast, Nat.add_mul, Nat.mul_assoc]
theorem Mul_ev (a b : Nat) (ha : (toW a).length ≤ 100000) (hb : (toW b).length ≤ 100000) : Ev (fun k => nat_Nat_Mul.f k (toW a) (toW b)) (toW (a * b)) := by
  have h := mul_outer (toW a) (toW b) (toW_sized a) (toW_sized b) ha hb (toW a).length 0 (List.replicate ((toW a).length + (toW b).length) 0) (by omega) (by simp) (Sized.zeros _) (by rw [valW_zeros, List.take_zero, valW_nil, Nat.zero_mul])
  rw [valW_toW, valW_toW] at h
  have w1 : wrap64 (((toW a).length : Int) + ((toW b).length : Int)) = (((toW a).length + (toW b).length : Nat) : Int) := by rw [w64 (by omega) (by omega)]; omega
  have c1 : (0 : Int) ≤ (((toW a).length + (toW b).length : Nat) : Int) := Int.natCast_nonneg _
  have c2 : (toW a).length + (toW b).length ≤ 70368744177664 := by clear w1; omega
  refine Ev.congr (fun k => ?_) h
  unfold nat_Nat_Mul.f
  rw [w1, if_pos c1, Int.toNat_natCast]
  exact if_pos c2
end Go.Proofs.Yteejcpbngnojkaa.P
end
section
namespace Go.Proofs.Yteejcpbngnojkaa.P
open Go.RowKit Go.Proofs.YteejcpbngnojkaaW.PrintWords Go.Proofs.YteejcpbngnojkaaW.PrintLast Go.Proofs.YteejcpbngnojkaaW.PrintMore
attribute [local go_sem] max2_int min2_int max_two min_two max_three min_three max_four min_four
set_option linter.unusedVariables false
set_option linter.unusedSimpArgs false
def nat_Nat_Sub.l0 : Nat → List Int → Int → List Int → Int → Int → List Int → Option (List Int × Bool)
 |0,_,_,_,_,_,_ => none
 |k + 1,x6,x7,x21,x22,x23,x584000 => if x23 < x22 then (if 0 ≤ x23 then (if x23 < (x21.length : Int) then (if x23 < (x584000.length : Int) then (if (wrap64 ((wrap64 ((wrap64 (rd x21 x23)) - x7)) - (wrap64 (rd x584000 x23)))) < 0 then (if x23 < (x6.length : Int) then (nat_Nat_Sub.l0 k (x6.set (x23 : Int).toNat ((wrap64 ((wrap64 ((wrap64 ((wrap64 (rd x21 x23)) - x7)) - (wrap64 (rd x584000 x23)))) + 4294967296)) % 4294967296)) 1 x21 x22 (wrap64 (x23 + 1)) x584000) else (none)) else (if x23 < (x6.length : Int) then (nat_Nat_Sub.l0 k (x6.set (x23 : Int).toNat ((wrap64 ((wrap64 ((wrap64 (rd x21 x23)) - x7)) - (wrap64 (rd x584000 x23)))) % 4294967296)) 0 x21 x22 (wrap64 (x23 + 1)) x584000) else (none))) else (if (wrap64 ((wrap64 (rd x21 x23)) - x7)) < 0 then (if x23 < (x6.length : Int) then (nat_Nat_Sub.l0 k (x6.set (x23 : Int).toNat ((wrap64 ((wrap64 ((wrap64 (rd x21 x23)) - x7)) + 4294967296)) % 4294967296)) 1 x21 x22 (wrap64 (x23 + 1)) x584000) else (none)) else (if x23 < (x6.length : Int) then (nat_Nat_Sub.l0 k (x6.set (x23 : Int).toNat ((wrap64 ((wrap64 (rd x21 x23)) - x7)) % 4294967296)) 0 x21 x22 (wrap64 (x23 + 1)) x584000) else (none)))) else (none)) else (none)) else ((nat_trim.f k x6).bind fun t589 => (some (t589,true)))
def nat_Nat_Sub.f (k : Nat) (l0_0 : List Int) (l1_0 : List Int) : Option (List Int × Bool):=(nat_Nat_Cmp.f k l0_0 l1_0).bind fun t585 => (if t585 < 0 then (some (([] : List Int),false)) else (if 0 ≤ (l0_0.length : Int) then (if ((l0_0.length : Int) : Int).toNat ≤ 70368744177664 then (nat_Nat_Sub.l0 k (List.replicate ((l0_0.length : Int) : Int).toNat 0) 0 l0_0 (l0_0.length : Int) 0 l1_0) else (none)) else (none)))
theorem nat_Nat_Sub.mono_l : ∀ k,(∀ y0 y1 y2 y3 y4 y5,LeO (nat_Nat_Sub.l0 k y0 y1 y2 y3 y4 y5) (nat_Nat_Sub.l0 (k + 1) y0 y1 y2 y3 y4 y5))
 |0 => fun _ _ _ _ _ _ r h => by simp [nat_Nat_Sub.l0] at h
 |k + 1 => by
  have ih0:=nat_Nat_Sub.mono_l k
  ·intro y0 y1 y2 y3 y4 y5
   unfold nat_Nat_Sub.l0
   repeat' first
   |(with_reducible exact ih0 _ _ _ _ _ _)
   |(with_reducible exact nat_Nat_Cmp.mono _ _ _)
   |(with_reducible exact nat_trim.mono _ _)
   |(with_reducible exact LeO.refl _)
   |(with_reducible exact LeO.none _)
   |(with_reducible refine LeO.ite ?_ ?_)
   |(with_reducible refine LeO.bind ?_ (fun _ => ?_))
   |exact ih0 _ _ _ _ _ _
   |exact nat_Nat_Cmp.mono _ _ _
   |exact nat_trim.mono _ _
   |exact LeO.none _
   |refine LeO.ite ?_ ?_
   |refine LeO.bind ?_ (fun _ => ?_)
theorem nat_Nat_Sub.mono : ∀ a0 a1 k,LeO (nat_Nat_Sub.f k a0 a1) (nat_Nat_Sub.f (k + 1) a0 a1):=by
 intro a0 a1 k
 have ih0:=nat_Nat_Sub.mono_l k
 unfold nat_Nat_Sub.f
 repeat' first
   |(with_reducible exact ih0 _ _ _ _ _ _)
   |(with_reducible exact nat_Nat_Cmp.mono _ _ _)
   |(with_reducible exact nat_trim.mono _ _)
   |(with_reducible exact LeO.refl _)
   |(with_reducible exact LeO.none _)
   |(with_reducible refine LeO.ite ?_ ?_)
   |(with_reducible refine LeO.bind ?_ (fun _ => ?_))
   |exact ih0 _ _ _ _ _ _
   |exact nat_Nat_Cmp.mono _ _ _
   |exact nat_trim.mono _ _
   |exact LeO.none _
   |refine LeO.ite ?_ ?_
   |refine LeO.bind ?_ (fun _ => ?_)
end Go.Proofs.Yteejcpbngnojkaa.P
end
section
namespace Go.Proofs.Yteejcpbngnojkaa.P
open Go.RowKit Go.Proofs.YteejcpbngnojkaaW.PrintWords Go.Proofs.YteejcpbngnojkaaW.PrintLast Go.Proofs.YteejcpbngnojkaaW.PrintMore
attribute [local go_sem] max2_int min2_int max_two min_two max_three min_three max_four min_four
set_option linter.unusedVariables false
set_option linter.unusedSimpArgs false
def nat_Nat_Uint.l0 : Nat → Int → List Int → Int → Int → Option (Int × Bool)
 |0,_,_,_,_ => none
 |k + 1,x4,x12,x13,x14 => if x14 < x13 then (if 0 ≤ x14 then (if x14 < (x12.length : Int) then (if 0 ≤ (wrap64 (32 * x14)) then (nat_Nat_Uint.l0 k (Go.bits .or .u64 x4 (shl .u64 (IntKind.u64.wrap (rd x12 x14)) (wrap64 (32 * x14)))) x12 x13 (wrap64 (x14 + 1))) else (none)) else (none)) else (none)) else (some (x4,true))
def nat_Nat_Uint.f (k : Nat) (l0_0 : List Int) : Option (Int × Bool):=if (l0_0.length : Int) > 2 then (some (0,false)) else (nat_Nat_Uint.l0 k 0 l0_0 (l0_0.length : Int) 0)
theorem nat_Nat_Uint.mono_l : ∀ k,(∀ y0 y1 y2 y3,LeO (nat_Nat_Uint.l0 k y0 y1 y2 y3) (nat_Nat_Uint.l0 (k + 1) y0 y1 y2 y3))
 |0 => fun _ _ _ _ r h => by simp [nat_Nat_Uint.l0] at h
 |k + 1 => by
  have ih0:=nat_Nat_Uint.mono_l k
  ·intro y0 y1 y2 y3
   unfold nat_Nat_Uint.l0
   repeat' first
   |(with_reducible exact ih0 _ _ _ _)
   |(with_reducible exact LeO.refl _)
   |(with_reducible exact LeO.none _)
   |(with_reducible refine LeO.ite ?_ ?_)
   |(with_reducible refine LeO.bind ?_ (fun _ => ?_))
   |exact ih0 _ _ _ _
   |exact LeO.none _
   |refine LeO.ite ?_ ?_
   |refine LeO.bind ?_ (fun _ => ?_)
theorem nat_Nat_Uint.mono : ∀ a0 k,LeO (nat_Nat_Uint.f k a0) (nat_Nat_Uint.f (k + 1) a0):=by
 intro a0 k
 have ih0:=nat_Nat_Uint.mono_l k
 unfold nat_Nat_Uint.f
 repeat' first
   |(with_reducible exact ih0 _ _ _ _)
   |(with_reducible exact LeO.refl _)
   |(with_reducible exact LeO.none _)
   |(with_reducible refine LeO.ite ?_ ?_)
   |(with_reducible refine LeO.bind ?_ (fun _ => ?_))
   |exact ih0 _ _ _ _
   |exact LeO.none _
   |refine LeO.ite ?_ ?_
   |refine LeO.bind ?_ (fun _ => ?_)
end Go.Proofs.Yteejcpbngnojkaa.P
end
section
namespace Go.Proofs.Yteejcpbngnojkaa.P
open Go.RowKit Go.Proofs.YteejcpbngnojkaaW.PrintWords Go.Proofs.YteejcpbngnojkaaW.PrintLast Go.Proofs.YteejcpbngnojkaaW.PrintMore
attribute [local go_sem] max2_int min2_int max_two min_two max_three min_three max_four min_four
set_option linter.unusedVariables false
set_option linter.unusedSimpArgs false
def nat_Nat_Bit.f (l0_0 : List Int) (a1 : Int) : Option (Int):=if a1 < 0 then (some 0) else (if (wrap64 (Int.tdiv a1 32)) ≥ (l0_0.length : Int) then (some 0) else (if 0 ≤ (wrap64 (Int.tdiv a1 32)) then (if (wrap64 (Int.tdiv a1 32)) < (l0_0.length : Int) then (if 0 ≤ (Int.tmod a1 32) then (some (wrap64 (Go.bits .and .u32 (shr .u32 (rd l0_0 (wrap64 (Int.tdiv a1 32))) (Int.tmod a1 32)) 1))) else (none)) else (none)) else (none)))
end Go.Proofs.Yteejcpbngnojkaa.P
end
section
namespace Go.Proofs.Yteejcpbngnojkaa.P
open Go.RowKit Go.Proofs.YteejcpbngnojkaaW.PrintWords Go.Proofs.YteejcpbngnojkaaW.PrintLast Go.Proofs.YteejcpbngnojkaaW.PrintMore
open Go.Proofs.Yteejcpbngnojkaa.Num
set_option linter.unusedVariables false
end Go.Proofs.Yteejcpbngnojkaa.P
end
section
namespace Go.Proofs.Yteejcpbngnojkaa.P
open Go.RowKit Go.Proofs.YteejcpbngnojkaaW.PrintWords Go.Proofs.YteejcpbngnojkaaW.PrintLast Go.Proofs.YteejcpbngnojkaaW.PrintMore
open Go.Proofs.Yteejcpbngnojkaa.Num
set_option linter.unusedVariables false
theorem Ev.same {α : Type} {g : Nat → Option α} {r : α} (h : ∀ k, g k = some r) : Ev g r := ⟨0, fun k _ => h k⟩
theorem CmpE (a b : Nat) : Ev (fun k => nat_Nat_Cmp.f k (toW a) (toW b)) (cmpN a b) := Ev.same fun k => Cmp_toW k a b
theorem ZeroE (a : Nat) : Ev (fun _ => nat_Nat_Zero.f (toW a)) (a == 0) := Ev.same fun _ => Zero_toW a
theorem AddE (a b : Nat) (ha : (toW a).length < 1000) (hb : (toW b).length < 1000) : Ev (fun k => nat_Nat_Add.f k (toW a) (toW b)) (toW (a + b)) := Ev.same fun k => Add_toW k a b ha hb
theorem DivE (a b : Nat) (hb : 0 < b) (ha : (toW a).length ≤ 1000) (hbl : (toW b).length ≤ 1000) : Ev (fun k => nat_Nat_Div.f k (toW a) (toW b)) (toW (a / b), toW (a % b), 0) := Ev.same fun k => Div_toW k a b hb (by omega) (by omega)
theorem cmpN_self (a : Nat) : cmpN a a = 0 := cmpN_eq.2 rfl
theorem len_of {n m : Nat} (h : n < pw m) : (toW n).length ≤ m := toW_len_le m n h
theorem lt_mul {a b m n : Nat} (ha : a < pw m) (hb : b < pw n) : a * b < pw (m + n) := by rw [pw_add]; exact Nat.mul_lt_mul'' ha hb
end Go.Proofs.Yteejcpbngnojkaa.P
end
section
namespace Go.Proofs.Yteejcpbngnojkaa.Pure
open Go.RowKit Go.Proofs.Yteejcpbngnojkaa.P Go.Proofs.YteejcpbngnojkaaW.PrintWords Go.Proofs.YteejcpbngnojkaaW.PrintLast Go.Proofs.YteejcpbngnojkaaW.PrintMore
open Go.Proofs.Yteejcpbngnojkaa.Num
set_option linter.unusedVariables false
theorem bytes_of_wf {l : List Int} (h : ∀ x ∈ l, (Lit.int .u8 x).wf = true) : Bytes l := fun x hx => by
  have := h x hx
  simp [Lit.wf, IntKind.min, IntKind.max, IntKind.bits, IntKind.signed] at this
  omega
theorem NatBack : sacristylaw01_NatBack.Pure := by
  intro l0 l1 _ _ b0 _ _ b1
  have B0 := bytes_of_wf b0
  have B1 := bytes_of_wf b1
  refine Ev.rounds ?_
  unfold sacristylaw01_NatBack.f
  refine Ev.bind lives_ev ?_
  refine Ev.congr (fun k => if_pos rfl) ?_
  have la := num48_W _ B0
  have lb := num48_W _ B1
  have na := Num_ev _ B0
  have nb := Num_ev _ B1
  have ha12 := num48_lt _ B0
  have hb12 := num48_lt _ B1
  generalize num48 l0 = a at *
  generalize num48 l1 = b at *
  refine Ev.bind na ?_
  refine Ev.bind nb ?_
  by_cases h0 : b = 0
  · subst h0
    have hd : Ev (fun k => nat_Nat_Div.f k (toW a) (toW 0)) ([], [], 5) := Ev.same fun k => Div_zero k a (by omega)
    refine Ev.bind hd ?_
    refine Ev.bind (ZeroE 0) ?_
    exact Ev.congr (fun k => if_pos rfl) (Ev.now _)
  · have hp : 0 < b := Nat.pos_of_ne_zero h0
    have lab := len_of (lt_mul ha12 hb12)
    have lq : (toW (a / b)).length ≤ 12 := len_of (Nat.lt_of_le_of_lt (Nat.div_le_self _ _) ha12)
    have lr : (toW (a % b)).length ≤ 12 := len_of (Nat.lt_of_le_of_lt (Nat.mod_le _ _) ha12)
    have lqb : (toW (a / b * b)).length ≤ 12 := len_of (Nat.lt_of_le_of_lt (Nat.div_mul_le_self _ _) ha12)
    have hd2 := DivE (a * b) b hp (by omega) (by omega)
    rw [Nat.mul_div_cancel _ hp, Nat.mul_mod_left] at hd2
    have e1 : cmpN (a / b * b + a % b) a = 0 := by rw [Nat.mul_comm, Nat.div_add_mod]; exact cmpN_self _
    have e2 : cmpN (a % b) b < 0 := cmpN_lt.2 (Nat.mod_lt _ hp)
    refine Ev.bind (DivE a b hp (by omega) (by omega)) ?_
    refine Ev.bind (ZeroE b) ?_
    refine Ev.congr (fun k => if_neg (by simp [h0])) ?_
    refine Ev.bind (Mul_ev a b (by omega) (by omega)) ?_
    refine Ev.bind hd2 ?_
    refine Ev.congr (fun k => (if_pos rfl).trans (if_pos rfl)) ?_
    refine Ev.bind (Mul_ev (a / b) b (by omega) (by omega)) ?_
    refine Ev.bind (AddE (a / b * b) (a % b) (by omega) (by omega)) ?_
    refine Ev.bind (CmpE (a / b * b + a % b) a) ?_
    refine Ev.congr (fun k => if_pos e1) ?_
    refine Ev.bind (CmpE (a % b) b) ?_
    refine Ev.congr (fun k => if_pos e2) ?_
    refine Ev.bind (CmpE a a) ?_
    refine Ev.congr (fun k => if_pos (cmpN_self a)) ?_
    exact Ev.bind (f := fun _ t => some t) (ZeroE 0) (Ev.now _)
end Go.Proofs.Yteejcpbngnojkaa.Pure
end
section
namespace Go.Proofs.Yteejcpbngnojkaa.Head
open Go
def hd : List Char := ['h', 'a', 'r', 'n', 'e', 's', 's']
def sm : List Char := ['1', '8', 'e', 'b', '4', '4', '3', '4', '8', '7', 'b', 'c', 'a', 'd', 'e', '8', '1', '4', '1', 'e', '3', 'b', 'e', '1', '8', '2', '5', '9', '4', '4', '6', '3', 'a', '2', 'd', 'e', 'd', '6', 'd', 'a', 'e', 'b', 'f', 'a', '9', 'e', 'f', '2', 'e', '8', '6', '2', '7', '8', '6', 'b', '2', '1', '5', '3', 'b', 'd', '8', '1']
def ct : List Char := ['c', 'u', 't']
def rs : List Char := ['a', 't', ' ', 's', 'a', 'c', 'r', 'i', 's', 't', 'y', '/', 's', 'a', 'c', 'r', 'i', 's', 't', 'y', 'l', 'a', 'w', '0', '5', '.', 'S', 't', 'r', 'e', 'a', 'm', 'B', 'l', 'o', 'c', 'k', 's', ' ', 's', 'a', 'c', 'r', 'i', 's', 't', 'y', '/', 's', 'a', 'c', 'r', 'i', 's', 't', 'y', 'l', 'a', 'w', '0', '5', '.', 'S', 't', 'r', 'e', 'a', 'm', 'X', 'o', 'r', 's', ' ', 's', 'a', 'c', 'r', 'i', 's', 't', 'y', '/', 's', 'a', 'c', 'r', 'i', 's', 't', 'y', 'l', 'a', 'w', '0', '5', '.', 'S', 't', 'r', 'e', 'a', 'm', 'B', 'a', 'c', 'k', ' ', 's', 'a', 'c', 'r', 'i', 's', 't', 'y', '/', 's', 'a', 'c', 'r', 'i', 's', 't', 'y', 'l', 'a', 'w', '0', '5', '.', 'S', 't', 'r', 'e', 'a', 'm', 'P', 'a', 'r', 't', 's', ' ', 's', 'a', 'c', 'r', 'i', 's', 't', 'y', '/', 's', 'a', 'c', 'r', 'i', 's', 't', 'y', 'l', 'a', 'w', '0', '1', '.', 'N', 'a', 't', 'B', 'y', 't', 'e', 's', ' ', 's', 'a', 'c', 'r', 'i', 's', 't', 'y', '/', 's', 'a', 'c', 'r', 'i', 's', 't', 'y', 'l', 'a', 'w', '0', '1', '.', 'N', 'a', 't', 'B', 'i', 't', 's', ' ', 's', 'a', 'c', 'r', 'i', 's', 't', 'y', '/', 's', 'a', 'c', 'r', 'i', 's', 't', 'y', 'l', 'a', 'w', '0', '7', '.', 'B', 'o', 'x', 'B', 'a', 'c', 'k', ' ', 's', 'a', 'c', 'r', 'i', 's', 't', 'y', '/', 's', 'a', 'c', 'r', 'i', 's', 't', 'y', 'l', 'a', 'w', '0', '1', '.', 'N', 'a', 't', 'G', 'c', 'd', 's', ' ', 's', 'a', 'c', 'r', 'i', 's', 't', 'y', '/', 's', 'a', 'c', 'r', 'i', 's', 't', 'y', 'l', 'a', 'w', '0', '1', '.', 'N', 'a', 't', 'S', 'm', 'a', 'l', 'l', ' ', 's', 'a', 'c', 'r', 'i', 's', 't', 'y', '/', 's', 'a', 'c', 'r', 'i', 's', 't', 'y', 'l', 'a', 'w', '0', '7', '.', 'B', 'o', 'x', 'S', 'h', 'o', 'r', 't', ' ', 's', 'a', 'c', 'r', 'i', 's', 't', 'y', '/', 's', 'a', 'c', 'r', 'i', 's', 't', 'y', 'l', 'a', 'w', '0', '1', '.', 'N', 'a', 't', 'P', 'r', 'o', 'd', 'u', 'c', 't', 's', ' ', 's', 'a', 'c', 'r', 'i', 's', 't', 'y', '/', 's', 'a', 'c', 'r', 'i', 's', 't', 'y', 'l', 'a', 'w', '0', '1', '.', 'N', 'a', 't', 'B', 'a', 'c', 'k', ' ', 's', 'a', 'c', 'r', 'i', 's', 't', 'y', '/', 's', 'a', 'c', 'r', 'i', 's', 't', 'y', 'l', 'a', 'w', '0', '1', '.', 'N', 'a', 't', 'O', 'r', 'd', 'e', 'r', 's', ' ', 's', 'a', 'c', 'r', 'i', 's', 't', 'y', '/', 's', 'a', 'c', 'r', 'i', 's', 't', 'y', 'l', 'a', 'w', '0', '1', '.', 'N', 'a', 't', 'S', 'u', 'm', 's', ' ', 's', 'a', 'c', 'r', 'i', 's', 't', 'y', '/', 's', 'a', 'c', 'r', 'i', 's', 't', 'y', 'l', 'a', 'w', '0', '1', '.', 'N', 'a', 't', 'R', 'u', 'l', 'e', 's', ' ', 's', 'a', 'c', 'r', 'i', 's', 't', 'y', '/', 's', 'a', 'c', 'r', 'i', 's', 't', 'y', 'l', 'a', 'w', '0', '6', '.', 'T', 'a', 'g', 'T', 'a', 'g', 's', ' ', 's', 'a', 'c', 'r', 'i', 's', 't', 'y', '/', 's', 'a', 'c', 'r', 'i', 's', 't', 'y', 'l', 'a', 'w', '0', '6', '.', 'T', 'a', 'g', 'N', 'o', 'n', 'e', ' ', 's', 'a', 'c', 'r', 'i', 's', 't', 'y', '/', 's', 'a', 'c', 'r', 'i', 's', 't', 'y', 'l', 'a', 'w', '0', '6', '.', 'T', 'a', 'g', 'A', 'd', 'd', 's', ' ', 's', 'a', 'c', 'r', 'i', 's', 't', 'y', '/', 's', 'a', 'c', 'r', 'i', 's', 't', 'y', 'l', 'a', 'w', '0', '2', '.', 'M', 'o', 'd', 'S', 'u', 'm', 's', ' ', 's', 'a', 'c', 'r', 'i', 's', 't', 'y', '/', 's', 'a', 'c', 'r', 'i', 's', 't', 'y', 'l', 'a', 'w', '0', '8', '.', 'C', 'e', 'r', 't', 'S', 'm', 'a', 'l', 'l', 's', ' ', 's', 'a', 'c', 'r', 'i', 's', 't', 'y', '/', 's', 'a', 'c', 'r', 'i', 's', 't', 'y', 'l', 'a', 'w', '0', '8', '.', 'C', 'e', 'r', 't', 'F', 'r', 'o', 'n', 't', 's', ' ', 's', 'a', 'c', 'r', 'i', 's', 't', 'y', '/', 's', 'a', 'c', 'r', 'i', 's', 't', 'y', 'l', 'a', 'w', '0', '8', '.', 'C', 'e', 'r', 't', 'C', 'h', 'e', 'c', 'k', 's', ' ', 's', 'a', 'c', 'r', 'i', 's', 't', 'y', '/', 's', 'a', 'c', 'r', 'i', 's', 't', 'y', 'l', 'a', 'w', '0', '8', '.', 'C', 'e', 'r', 't', 'P', 'r', 'i', 'm', 'e', 's', ' ', 's', 'a', 'c', 'r', 'i', 's', 't', 'y', '/', 's', 'a', 'c', 'r', 'i', 's', 't', 'y', 'l', 'a', 'w', '0', '7', '.', 'B', 'o', 'x', 'S', 'e', 'a', 'l', 's', ' ', 's', 'a', 'c', 'r', 'i', 's', 't', 'y', '/', 's', 'a', 'c', 'r', 'i', 's', 't', 'y', 'l', 'a', 'w', '0', '7', '.', 'B', 'o', 'x', 'O', 'p', 'e', 'n', 's']
set_option maxRecDepth 100000 in
theorem init_chars : Try.prog.initOrder.toList = hd ++ ' ' :: (sm ++ ' ' :: (ct ++ ' ' :: rs)) :=
  (String.toList_ofList : (String.ofList (hd ++ ' ' :: (sm ++ ' ' :: (ct ++ ' ' :: rs)))).toList = _)
theorem words_cons (a r : List Char) (h : ∀ c ∈ a, c ≠ ' ') : wordsSigns (a ++ ' ' :: r) = a :: wordsSigns r := by
  induction a with
  | nil => rfl
  | cons c a ih =>
    have hc : c ≠ ' ' := h c List.mem_cons_self
    have := ih fun x hx => h x (List.mem_cons_of_mem _ hx)
    rw [List.cons_append, wordsSigns.eq_3 _ _ (fun e => hc e), this]
theorem init_words : ∃ r, wordsSigns Try.prog.initOrder.toList = hd :: sm :: ct :: r := by
  refine ⟨wordsSigns rs, ?_⟩
  rw [init_chars, words_cons _ _ (by decide), words_cons _ _ (by decide), words_cons _ _ (by decide)]
theorem behind (r : List (List Char)) : behindMainWord (hd :: sm :: ct :: r) = ct :: r := by
  unfold behindMainWord
  dsimp only
  rw [if_pos (by decide +kernel)]
theorem init_behind : ∃ r, behindMainWord (wordsSigns Try.prog.initOrder.toList) = ct :: r := by
  obtain ⟨r, h⟩ := init_words
  exact ⟨r, by rw [h, behind]⟩
theorem strip (os : List String) (h : ∀ o ∈ os, (ct == o.toList) = false) (r : List (List Char)) : stripLifts os (ct :: r) = ([], ct :: r) := by
  induction os with
  | nil => rfl
  | cons o os ih =>
    rw [stripLifts, h o List.mem_cons_self]
    exact ih fun x hx => h x (List.mem_cons_of_mem _ hx)
theorem strip_lifts (r : List (List Char)) : stripLifts liftWords (ct :: r) = ([], ct :: r) := strip _ (by decide +kernel) r
section
variable (P : Program) (r : List (List Char)) (h : behindMainWord (wordsSigns P.initOrder.toList) = ct :: r)
include h
theorem head_lifts_of : P.headLifts = [] := by
  unfold Program.headLifts
  rw [h, strip_lifts]
  dsimp only
  split <;> rfl
theorem may_enter_of (h1 : P.laysLater = false) (h2 : P.bearsReflect = false) (h3 : P.doorFits [] = true) : P.mayEnter = true := by
  unfold Program.mayEnter
  rw [h]
  dsimp only
  rw [strip_lifts, h1, h2, h3]
  have h4 : (some ct == some "cut".toList) = true := by decide +kernel
  rw [List.head?_cons, h4]
  simp
theorem lifts_final_of : P.liftsFinal = false := by
  unfold Program.liftsFinal
  rw [head_lifts_of P r h]
  dsimp only
  rw [h]
  have h4 : (some ct == some "carried".toList) = false := by decide +kernel
  rw [List.head?_cons, h4]
  rfl
theorem make_cut_of : P.make = some .cut := by
  unfold Program.make
  rw [h]
  dsimp only
  rw [if_neg (by decide +kernel), if_pos (by rw [show (ct == "cut".toList) = true by decide +kernel]; rfl)]
end
theorem lays_later : Try.prog.laysLater = false := by kernel_rfl
theorem bears_reflect : Try.prog.bearsReflect = false := by kernel_rfl
theorem door_fits : Try.prog.doorFits [] = true := by kernel_rfl
theorem may_enter : Try.prog.mayEnter = true := by
  obtain ⟨r, h⟩ := init_behind
  exact may_enter_of _ r h lays_later bears_reflect door_fits
theorem lifts_final : Try.prog.liftsFinal = false := by
  obtain ⟨r, h⟩ := init_behind
  exact lifts_final_of _ r h
theorem make_cut : Try.prog.make = some .cut := by
  obtain ⟨r, h⟩ := init_behind
  exact make_cut_of _ r h
end Go.Proofs.Yteejcpbngnojkaa.Head
end
section
namespace Go.Proofs.YteejcpbngnojkaaW.PrintWords
open Go.ChangeShapes Go.WideShapes
theorem sized_ints {H : Type} {enc : TypeId × Value → H} {P : Program} {W : World} {base : Nat} {spare : Nat → Bool} {held : Bool} {t e : TypeId} {k : IntKind} {a : Option Addr} {len cap : Nat} {d : DataW H} {ps : List MemPlace} {ts : List TypeId} {ds : List (DataW H)} {j : Nat}
    (hsz : (DataW.weightsEach P ts ds).all (· ≤ reachBytes) = true) (ht : ts[j]? = some t) (hd : ds[j]? = some d) (hu : P.underlying t = some (.slice e)) (he : P.underlying e = some (.int k)) (hc : P.cellsOf e = 1) {B : Nat} (hB : P.bytesOf e = B)
    (h : DataW.Trod enc P W base spare held t (.slice a len cap) d ps) : len * B ≤ 140737488351232 := by
  obtain ⟨fuel, hf⟩ := h
  rcases open_ints hu he hc hf with ⟨hcs, _⟩ | ⟨x, l, c, zs, hcs, _, hl, _, hz, hx, _, _⟩
  · simp [Value.cells] at hcs
    obtain ⟨rfl, rfl, rfl⟩ := hcs
    simp
  · simp [Value.cells] at hcs
    obtain ⟨rfl, rfl, rfl⟩ := hcs
    obtain ⟨hx, _⟩ := Prod.mk.inj hx
    subst hx
    have z := sized_slice hsz ht hd hu
    rw [hB] at z
    have hl2 : len ≤ zs.length := by
      rw [hz]
      split
      · exact hl
      · exact Nat.le_refl _
    have h1 : (lits (H := H) k (zs.take len)).length + (lits (H := H) k (zs.drop len)).length = zs.length := by
      simp [lits]
      omega
    rw [h1] at z
    exact Nat.le_trans (Nat.mul_le_mul_right _ hl2) z
end Go.Proofs.YteejcpbngnojkaaW.PrintWords
end
