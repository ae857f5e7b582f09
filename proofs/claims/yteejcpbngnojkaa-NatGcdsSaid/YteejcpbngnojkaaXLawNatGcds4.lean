/- Part of the proof: the walks and the plain arithmetic, in line (wip/tools/pack.py). -/
import Derived.Test.YteejcpbngnojkaaXLawNatGcds3
import Derived.Lib.Bytes
import Derived.Test.YteejcpbngnojkaaRows
import Derived.WalkKit
import Derived.ProofKit
import Derived.SizedLaws
import Derived.ChangeSlices
section
namespace Go.Proofs.Yteejcpbngnojkaa.P
open Go.RowKit Go.Proofs.YteejcpbngnojkaaW.PrintWords Go.Proofs.YteejcpbngnojkaaW.PrintLast Go.Proofs.YteejcpbngnojkaaW.PrintMore
open Go.Proofs.Yteejcpbngnojkaa.Num
set_option linter.unusedVariables false
theorem str_inj {xs ys : List Int} (hx : Bytes xs) (hy : Bytes ys) : (strOfNums xs).toList = (strOfNums ys).toList ↔ xs = ys := by
  constructor
  · intro h
    rw [Lib.strOfNums_toList, Lib.strOfNums_toList] at h
    have h3 : xs.map (fun n => UInt8.ofNat n.toNat) = ys.map (fun n => UInt8.ofNat n.toNat) := h
    refine List.ext_getElem (by have := congrArg List.length h3; simpa using this) fun i h1 h4 => ?_
    have h5 := congrArg (fun l => l[i]?) h3
    simp only [List.getElem?_map, List.getElem?_eq_getElem h1, List.getElem?_eq_getElem h4, Option.map_some, Option.some.injEq] at h5
    have g1 := hx _ (List.getElem_mem h1)
    have g2 := hy _ (List.getElem_mem h4)
    have h6 := congrArg UInt8.toNat h5
    rw [UInt8.toNat_ofNat_of_lt' (by show _ < 256; omega), UInt8.toNat_ofNat_of_lt' (by show _ < 256; omega)] at h6
    omega
  · rintro rfl; rfl
theorem toB_of_W {v : Nat} {n : Nat} (hv : v < pw n) : (toB v).length ≤ 32 * n := toB_len_le _ _ (by rwa [pw_two] at hv)
theorem Same_ev (a b : Nat) (ha : (toW a).length ≤ 1000) (hb : (toB b).length ≤ 1000000) : Ev (fun k => sacristylaw01_Same.f k (toW a) (toB b)) (decide (a = b)) := by
  have h1 := Least_ev a ha
  have h2 := rBytes_ev b (nb b) (Nat.le_refl _) (by unfold nb; omega) hb
  have e : ((strOfNums (highBytes a (nb a))).toList == (strOfNums (highBytes b (nb b))).toList) = decide (a = b) := by
    rw [Bool.eq_iff_iff, beq_iff_eq, decide_eq_true_iff, str_inj (highBytes_bytes _ _) (highBytes_bytes _ _)]
    exact ⟨fun h => highBytes_inj h, fun h => by rw [h]⟩
  rw [← e]
  refine Ev.congr (fun k => ?_) (Ev.bind (f := fun k bt => (nat_Nat_Least.f k (toW a)).bind fun t317 => some ((strOfNums t317).toList == (strOfNums bt.1).toList)) h2 (Ev.bind h1 (f := fun _ t317 => some ((strOfNums t317).toList == (strOfNums (highBytes b (nb b))).toList)) (Ev.now _)))
  unfold sacristylaw01_Same.f
  rw [rnb_word b hb]
theorem Same_true (a : Nat) (ha : (toW a).length ≤ 1000) : Ev (fun k => sacristylaw01_Same.f k (toW a) (toB a)) true := by
  have := Same_ev a a ha (Nat.le_trans (toB_of_W (toW_lt a)) (by omega))
  simpa using this
theorem mn_nat (a b : Nat) : mn (a : Int) (b : Int) = ((min a b : Nat) : Int) := by unfold mn; split <;> omega
def num48 (l : List Int) : Nat := valH (l.take 48)
theorem num48_lt (l : List Int) (hb : Bytes l) : num48 l < pw 12 := by
  have h := valH_lt (hb.take 48)
  refine Nat.lt_of_lt_of_le h (Nat.le_trans (Nat.pow_le_pow_right (by decide) (List.length_take_le ..)) ?_)
  exact Nat.le_of_eq (by rw [pow256]; decide)
theorem num48_W (l : List Int) (hb : Bytes l) : (toW (num48 l)).length ≤ 12 := toW_len_le _ _ (num48_lt l hb)
theorem num48_B (l : List Int) (hb : Bytes l) : (toB (num48 l)).length ≤ 384 := toB_of_W (num48_lt l hb)
theorem take_min (l : List Int) (n : Nat) : l.take (min l.length n) = l.take n := by
  by_cases h : n ≤ l.length
  · rw [Nat.min_eq_right h]
  · rw [Nat.min_eq_left (by omega), List.take_length, List.take_of_length_le (by omega)]
theorem Num_ev (l : List Int) (hb : Bytes l) : Ev (fun k => sacristylaw01_Num.f k l) (toW (num48 l)) := by
  have h := FromBytes_ev (l.take 48) (hb.take 48) (Nat.le_trans (List.length_take_le ..) (by decide))
  have hm : mn (l.length : Int) 48 = ((min l.length 48 : Nat) : Int) := mn_nat _ 48
  have c1 : (0 : Int) ≤ ((min l.length 48 : Nat) : Int) := Int.natCast_nonneg _
  have c2 : ((min l.length 48 : Nat) : Int) ≤ (l.length : Int) := Int.ofNat_le.2 (Nat.min_le_left ..)
  refine Ev.congr (fun k => ?_) (Ev.bind (f := fun _ bt => some bt.1) h (Ev.now _))
  unfold sacristylaw01_Num.f
  rw [hm, if_pos c1, if_pos c2, Int.toNat_natCast, take_min]
theorem ref_ev (l : List Int) (hb : Bytes l) : Ev (fun k => sacristylaw01_ref.f k l) (toB (num48 l)) := by
  have h := rOf_ev (l.take 48) (hb.take 48) (Nat.le_trans (List.length_take_le ..) (by decide))
  have hm : mn (l.length : Int) 48 = ((min l.length 48 : Nat) : Int) := mn_nat _ 48
  have c1 : (0 : Int) ≤ ((min l.length 48 : Nat) : Int) := Int.natCast_nonneg _
  have c2 : ((min l.length 48 : Nat) : Int) ≤ (l.length : Int) := Int.ofNat_le.2 (Nat.min_le_left ..)
  refine Ev.congr (fun k => ?_) (Ev.bind (f := fun _ t => some t) h (Ev.now _))
  unfold sacristylaw01_ref.f
  rw [hm, if_pos c1, if_pos c2, Int.toNat_natCast, take_min]
theorem Div_toW (k a b : Nat) (hb : 0 < b) (ha : (toW a).length ≤ 1048576) (hbl : (toW b).length ≤ 1048576) : nat_Nat_Div.f k (toW a) (toW b) = some (toW (a / b), toW (a % b), 0) := by
  unfold nat_Nat_Div.f
  rw [if_pos (by rw [canonB_toW, canonB_toW]; simp [ha, hbl]), valW_toW, valW_toW, if_neg (by omega)]
theorem toW_small (n : Nat) (h : n < 4294967296) : (toW n).length ≤ 1 := toW_len_le 1 n (by simpa [pw] using h)
theorem lives_ev : Ev (fun k => sacristylaw01_lives.f k) true := by
  have n7 := New_ev 7 (by decide) (by decide)
  have n2 := New_ev 2 (by decide) (by decide)
  have s3 := rSmall 3 (by decide)
  have s1 := rSmall 1 (by decide)
  have m3 := Same_true 3 (Nat.le_trans (toW_small 3 (by decide)) (by decide))
  have m1 := Same_true 1 (Nat.le_trans (toW_small 1 (by decide)) (by decide))
  unfold sacristylaw01_lives.f
  refine Ev.bind n7 (Ev.bind n2 ?_)
  have hd : ∀ k, nat_Nat_Div.f k (toW (7 : Int).toNat) (toW (2 : Int).toNat) = some (toW 3, toW 1, 0) := fun k => Div_toW k 7 2 (by decide) (Nat.le_trans (toW_small 7 (by decide)) (by decide)) (Nat.le_trans (toW_small 2 (by decide)) (by decide))
  refine Ev.congr (f := fun k => (sacristyref01_Small.f k 3).bind fun t435 => (sacristylaw01_Same.f k (toW 3) t435).bind fun t438 => if t438 = true then ((sacristyref01_Small.f k 1).bind fun t439 => (sacristylaw01_Same.f k (toW 1) t439).bind fun t442 => some t442) else some false) (fun k => ?_) ?_
  · rw [hd]
    refine (Option.bind_some _ _).trans ?_
    exact if_pos rfl
  · refine Ev.bind s3 (Ev.bind m3 ?_)
    refine Ev.congr (fun k => if_pos rfl) ?_
    exact Ev.bind s1 (Ev.bind (f := fun _ t442 => some t442) m1 (Ev.now _))
theorem Gcd_ev (b : Nat) : ∀ (a : Nat), (toW a).length ≤ 1000 → (toW b).length ≤ 1000 → Ev (fun k => nat_Nat_Gcd.f k (toW a) (toW b)) (toW (Nat.gcd a b)) := by
  unfold nat_Nat_Gcd.f
  induction b using Nat.strongRecOn with
  | ind b ih =>
    intro a ha hb
    by_cases h0 : b = 0
    · subst h0
      rw [Nat.gcd_zero_right]
      refine Ev.step (f := fun _ => some (toW a)) (fun k => ?_) (Ev.now _)
      simp only [nat_Nat_Gcd.l0]
      rw [Zero_toW]
      rfl
    · have hbp : 0 < b := Nat.pos_of_ne_zero h0
      have hm := Nat.mod_lt a hbp
      have hml : (toW (a % b)).length ≤ 1000 := by
        refine Nat.le_trans (toW_len_le (toW b).length _ ?_) hb
        have := toW_lt b
        omega
      have h := ih (a % b) hm b hb hml
      have hg : Nat.gcd a b = Nat.gcd b (a % b) := by rw [Nat.gcd_comm a b, Nat.gcd_rec b a, Nat.gcd_comm]
      have hz : (b == 0) = false := by simp [h0]
      rw [hg]
      refine Ev.step (fun k => ?_) h
      simp only [nat_Nat_Gcd.l0]
      rw [Zero_toW, hz]
      refine (Option.bind_some _ _).trans ?_
      refine (if_neg (by decide)).trans ?_
      rw [Div_toW k a b hbp (by omega) (by omega)]
      exact Option.bind_some _ _
end Go.Proofs.Yteejcpbngnojkaa.P
end
section
namespace Go.Proofs.Yteejcpbngnojkaa.Pure
open Go.RowKit Go.Proofs.Yteejcpbngnojkaa.P Go.Proofs.YteejcpbngnojkaaW.PrintWords Go.Proofs.YteejcpbngnojkaaW.PrintLast Go.Proofs.YteejcpbngnojkaaW.PrintMore
open Go.Proofs.Yteejcpbngnojkaa.Num
set_option linter.unusedVariables false
theorem bytes_of_wf {l : List Int} (h : ∀ x ∈ l, (Lit.int .u8 x).wf = true) : Bytes l := fun x hx => by
  have := h x hx
  simp [Lit.wf, IntKind.min, IntKind.max, IntKind.bits, IntKind.signed] at this
  omega
theorem NatGcds : sacristylaw01_NatGcds.Pure := by
  intro l0 l1 _ _ b0 _ _ b1
  have B0 := (bytes_of_wf b0).take 24
  have B1 := (bytes_of_wf b1).take 24
  refine Ev.rounds ?_
  unfold sacristylaw01_NatGcds.f
  refine Ev.bind lives_ev ?_
  refine Ev.congr (fun k => if_pos rfl) ?_
  have hm : ∀ l : List Int, mn (l.length : Int) 24 = ((min l.length 24 : Nat) : Int) := fun l => mn_nat _ 24
  have c1 : ∀ l : List Int, (0 : Int) ≤ ((min l.length 24 : Nat) : Int) := fun l => Int.natCast_nonneg _
  have c2 : ∀ l : List Int, ((min l.length 24 : Nat) : Int) ≤ (l.length : Int) := fun l => Int.ofNat_le.2 (Nat.min_le_left ..)
  simp only [hm]
  refine Ev.congr (fun k => (if_pos (c1 l0)).trans ((if_pos (c2 l0)).trans ((if_pos (c1 l1)).trans (if_pos (c2 l1))))) ?_
  simp only [Int.toNat_natCast, take_min]
  have la := num48_W _ B0
  have lb := num48_W _ B1
  have ra := num48_B _ B0
  have rb := num48_B _ B1
  have na := Num_ev _ B0
  have nb := Num_ev _ B1
  have fa := ref_ev _ B0
  have fb := ref_ev _ B1
  generalize num48 (l0.take 24) = a at *
  generalize num48 (l1.take 24) = b at *
  have hg := Gcd_ev b a (by omega) (by omega)
  have hr := rGcd_ev b a (by omega) (by omega)
  have hgl : (toW (Nat.gcd a b)).length ≤ 12 := by
    have h1 := toW_lt a
    have h2 := toW_lt b
    have p1 : pw (toW a).length ≤ pw 12 := Nat.pow_le_pow_right (by decide) la
    have p2 : pw (toW b).length ≤ pw 12 := Nat.pow_le_pow_right (by decide) lb
    refine toW_len_le 12 _ ?_
    rcases Nat.eq_zero_or_pos a with h | h
    · subst h; rw [Nat.gcd_zero_left]; omega
    · have := Nat.gcd_le_left b h
      omega
  have hS := Same_true (Nat.gcd a b) (by omega)
  refine Ev.bind na ?_
  refine Ev.bind nb ?_
  refine Ev.bind hg ?_
  refine Ev.bind fa ?_
  refine Ev.bind fb ?_
  refine Ev.bind hr ?_
  refine Ev.bind hS ?_
  refine Ev.congr (fun k => if_pos rfl) ?_
  by_cases h0 : Nat.gcd a b = 0
  · obtain ⟨ha, hb⟩ := Nat.gcd_eq_zero_iff.1 h0
    refine Ev.congr (f := fun _ => some true) (fun k => ?_) (Ev.now _)
    rw [h0, ha, hb, Zero_toW]
    rfl
  · have hp : 0 < Nat.gcd a b := Nat.pos_of_ne_zero h0
    have hz : (Nat.gcd a b == 0) = false := by simp [h0]
    have e1 : a % Nat.gcd a b = 0 := Nat.mod_eq_zero_of_dvd (Nat.gcd_dvd_left a b)
    have e2 : b % Nat.gcd a b = 0 := Nat.mod_eq_zero_of_dvd (Nat.gcd_dvd_right a b)
    refine Ev.congr (f := fun _ => some true) (fun k => ?_) (Ev.now _)
    rw [Zero_toW, hz]
    refine (Option.bind_some _ _).trans ?_
    refine (if_neg (by decide)).trans ?_
    rw [Div_toW k a _ hp (by omega) (by omega)]
    refine (Option.bind_some _ _).trans ?_
    rw [Div_toW k b _ hp (by omega) (by omega)]
    refine (Option.bind_some _ _).trans ?_
    dsimp only
    rw [e1, e2, Zero_toW]
    rfl
end Go.Proofs.Yteejcpbngnojkaa.Pure
end
section
namespace Go.Proofs.Yteejcpbngnojkaa.Head
open Go
def hd : List Char := ['h', 'a', 'r', 'n', 'e', 's', 's']
def sm : List Char := ['1', '8', 'e', 'b', '4', '4', '3', '4', '8', '7', 'b', 'c', 'a', 'd', 'e', '8', '1', '4', '1', 'e', '3', 'b', 'e', '1', '8', '2', '5', '9', '4', '4', '6', '3', 'a', '2', 'd', 'e', 'd', '6', 'd', 'a', 'e', 'b', 'f', 'a', '9', 'e', 'f', '2', 'e', '8', '6', '2', '7', '8', '6', 'b', '2', '1', '5', '3', 'b', 'd', '8', '1']
def ct : List Char := ['c', 'u', 't']
def rs : List Char := ['a', 't', ' ', 's', 'a', 'c', 'r', 'i', 's', 't', 'y', '/', 's', 'a', 'c', 'r', 'i', 's', 't', 'y', 'l', 'a', 'w', '0', '5', '.', 'S', 't', 'r', 'e', 'a', 'm', 'B', 'l', 'o', 'c', 'k', 's', ' ', 's', 'a', 'c', 'r', 'i', 's', 't', 'y', '/', 's', 'a', 'c', 'r', 'i', 's', 't', 'y', 'l', 'a', 'w', '0', '5', '.', 'S', 't', 'r', 'e', 'a', 'm', 'X', 'o', 'r', 's', ' ', 's', 'a', 'c', 'r', 'i', 's', 't', 'y', '/', 's', 'a', 'c', 'r', 'i', 's', 't', 'y', 'l', 'a', 'w', '0', '5', '.', 'S', 't', 'r', 'e', 'a', 'm', 'B', 'a', 'c', 'k', ' ', 's', 'a', 'c', 'r', 'i', 's', 't', 'y', '/', 's', 'a', 'c', 'r', 'i', 's', 't', 'y', 'l', 'a', 'w', '0', '5', '.', 'S', 't', 'r', 'e', 'a', 'm', 'P', 'a', 'r', 't', 's', ' ', 's', 'a', 'c', 'r', 'i', 's', 't', 'y', '/', 's', 'a', 'c', 'r', 'i', 's', 't', 'y', 'l', 'a', 'w', '0', '1', '.', 'N', 'a', 't', 'B', 'y', 't', 'e', 's', ' ', 's', 'a', 'c', 'r', 'i', 's', 't', 'y', '/', 's', 'a', 'c', 'r', 'i', 's', 't', 'y', 'l', 'a', 'w', '0', '1', '.', 'N', 'a', 't', 'B', 'i', 't', 's', ' ', 's', 'a', 'c', 'r', 'i', 's', 't', 'y', '/', 's', 'a', 'c', 'r', 'i', 's', 't', 'y', 'l', 'a', 'w', '0', '7', '.', 'B', 'o', 'x', 'B', 'a', 'c', 'k', ' ', 's', 'a', 'c', 'r', 'i', 's', 't', 'y', '/', 's', 'a', 'c', 'r', 'i', 's', 't', 'y', 'l', 'a', 'w', '0', '1', '.', 'N', 'a', 't', 'G', 'c', 'd', 's', ' ', 's', 'a', 'c', 'r', 'i', 's', 't', 'y', '/', 's', 'a', 'c', 'r', 'i', 's', 't', 'y', 'l', 'a', 'w', '0', '1', '.', 'N', 'a', 't', 'S', 'm', 'a', 'l', 'l', ' ', 's', 'a', 'c', 'r', 'i', 's', 't', 'y', '/', 's', 'a', 'c', 'r', 'i', 's', 't', 'y', 'l', 'a', 'w', '0', '7', '.', 'B', 'o', 'x', 'S', 'h', 'o', 'r', 't', ' ', 's', 'a', 'c', 'r', 'i', 's', 't', 'y', '/', 's', 'a', 'c', 'r', 'i', 's', 't', 'y', 'l', 'a', 'w', '0', '1', '.', 'N', 'a', 't', 'P', 'r', 'o', 'd', 'u', 'c', 't', 's', ' ', 's', 'a', 'c', 'r', 'i', 's', 't', 'y', '/', 's', 'a', 'c', 'r', 'i', 's', 't', 'y', 'l', 'a', 'w', '0', '1', '.', 'N', 'a', 't', 'B', 'a', 'c', 'k', ' ', 's', 'a', 'c', 'r', 'i', 's', 't', 'y', '/', 's', 'a', 'c', 'r', 'i', 's', 't', 'y', 'l', 'a', 'w', '0', '1', '.', 'N', 'a', 't', 'O', 'r', 'd', 'e', 'r', 's', ' ', 's', 'a', 'c', 'r', 'i', 's', 't', 'y', '/', 's', 'a', 'c', 'r', 'i', 's', 't', 'y', 'l', 'a', 'w', '0', '1', '.', 'N', 'a', 't', 'S', 'u', 'm', 's', ' ', 's', 'a', 'c', 'r', 'i', 's', 't', 'y', '/', 's', 'a', 'c', 'r', 'i', 's', 't', 'y', 'l', 'a', 'w', '0', '1', '.', 'N', 'a', 't', 'R', 'u', 'l', 'e', 's', ' ', 's', 'a', 'c', 'r', 'i', 's', 't', 'y', '/', 's', 'a', 'c', 'r', 'i', 's', 't', 'y', 'l', 'a', 'w', '0', '6', '.', 'T', 'a', 'g', 'T', 'a', 'g', 's', ' ', 's', 'a', 'c', 'r', 'i', 's', 't', 'y', '/', 's', 'a', 'c', 'r', 'i', 's', 't', 'y', 'l', 'a', 'w', '0', '6', '.', 'T', 'a', 'g', 'N', 'o', 'n', 'e', ' ', 's', 'a', 'c', 'r', 'i', 's', 't', 'y', '/', 's', 'a', 'c', 'r', 'i', 's', 't', 'y', 'l', 'a', 'w', '0', '6', '.', 'T', 'a', 'g', 'A', 'd', 'd', 's', ' ', 's', 'a', 'c', 'r', 'i', 's', 't', 'y', '/', 's', 'a', 'c', 'r', 'i', 's', 't', 'y', 'l', 'a', 'w', '0', '2', '.', 'M', 'o', 'd', 'S', 'u', 'm', 's', ' ', 's', 'a', 'c', 'r', 'i', 's', 't', 'y', '/', 's', 'a', 'c', 'r', 'i', 's', 't', 'y', 'l', 'a', 'w', '0', '8', '.', 'C', 'e', 'r', 't', 'S', 'm', 'a', 'l', 'l', 's', ' ', 's', 'a', 'c', 'r', 'i', 's', 't', 'y', '/', 's', 'a', 'c', 'r', 'i', 's', 't', 'y', 'l', 'a', 'w', '0', '8', '.', 'C', 'e', 'r', 't', 'F', 'r', 'o', 'n', 't', 's', ' ', 's', 'a', 'c', 'r', 'i', 's', 't', 'y', '/', 's', 'a', 'c', 'r', 'i', 's', 't', 'y', 'l', 'a', 'w', '0', '8', '.', 'C', 'e', 'r', 't', 'C', 'h', 'e', 'c', 'k', 's', ' ', 's', 'a', 'c', 'r', 'i', 's', 't', 'y', '/', 's', 'a', 'c', 'r', 'i', 's', 't', 'y', 'l', 'a', 'w', '0', '8', '.', 'C', 'e', 'r', 't', 'P', 'r', 'i', 'm', 'e', 's', ' ', 's', 'a', 'c', 'r', 'i', 's', 't', 'y', '/', 's', 'a', 'c', 'r', 'i', 's', 't', 'y', 'l', 'a', 'w', '0', '7', '.', 'B', 'o', 'x', 'S', 'e', 'a', 'l', 's', ' ', 's', 'a', 'c', 'r', 'i', 's', 't', 'y', '/', 's', 'a', 'c', 'r', 'i', 's', 't', 'y', 'l', 'a', 'w', '0', '7', '.', 'B', 'o', 'x', 'O', 'p', 'e', 'n', 's']
set_option maxRecDepth 100000 in
theorem init_chars : Try.prog.initOrder.toList = hd ++ ' ' :: (sm ++ ' ' :: (ct ++ ' ' :: rs)) :=
  (String.toList_ofList : (String.ofList (hd ++ ' ' :: (sm ++ ' ' :: (ct ++ ' ' :: rs)))).toList = _)
theorem words_cons (a r : List Char) (h : ∀ c ∈ a, c ≠ ' ') : wordsSigns (a ++ ' ' :: r) = a :: wordsSigns r := by
  induction a with
  | nil => rfl
  | cons c a ih =>
    have hc : c ≠ ' ' := h c List.mem_cons_self
    have := ih fun x hx => h x (List.mem_cons_of_mem _ hx)
    rw [List.cons_append, wordsSigns.eq_3 _ _ (fun e => hc e), this]
theorem init_words : ∃ r, wordsSigns Try.prog.initOrder.toList = hd :: sm :: ct :: r := by
  refine ⟨wordsSigns rs, ?_⟩
  rw [init_chars, words_cons _ _ (by decide), words_cons _ _ (by decide), words_cons _ _ (by decide)]
theorem behind (r : List (List Char)) : behindMainWord (hd :: sm :: ct :: r) = ct :: r := by
  unfold behindMainWord
  dsimp only
  rw [if_pos (by decide +kernel)]
theorem init_behind : ∃ r, behindMainWord (wordsSigns Try.prog.initOrder.toList) = ct :: r := by
  obtain ⟨r, h⟩ := init_words
  exact ⟨r, by rw [h, behind]⟩
theorem strip (os : List String) (h : ∀ o ∈ os, (ct == o.toList) = false) (r : List (List Char)) : stripLifts os (ct :: r) = ([], ct :: r) := by
  induction os with
  | nil => rfl
  | cons o os ih =>
    rw [stripLifts, h o List.mem_cons_self]
    exact ih fun x hx => h x (List.mem_cons_of_mem _ hx)
theorem strip_lifts (r : List (List Char)) : stripLifts liftWords (ct :: r) = ([], ct :: r) := strip _ (by decide +kernel) r
section
variable (P : Program) (r : List (List Char)) (h : behindMainWord (wordsSigns P.initOrder.toList) = ct :: r)
include h
theorem head_lifts_of : P.headLifts = [] := by
  unfold Program.headLifts
  rw [h, strip_lifts]
  dsimp only
  split <;> rfl
theorem may_enter_of (h1 : P.laysLater = false) (h2 : P.bearsReflect = false) (h3 : P.doorFits [] = true) : P.mayEnter = true := by
  unfold Program.mayEnter
  rw [h]
  dsimp only
  rw [strip_lifts, h1, h2, h3]
  have h4 : (some ct == some "cut".toList) = true := by decide +kernel
  rw [List.head?_cons, h4]
  simp
theorem lifts_final_of : P.liftsFinal = false := by
  unfold Program.liftsFinal
  rw [head_lifts_of P r h]
  dsimp only
  rw [h]
  have h4 : (some ct == some "carried".toList) = false := by decide +kernel
  rw [List.head?_cons, h4]
  rfl
theorem make_cut_of : P.make = some .cut := by
  unfold Program.make
  rw [h]
  dsimp only
  rw [if_neg (by decide +kernel), if_pos (by rw [show (ct == "cut".toList) = true by decide +kernel]; rfl)]
end
theorem lays_later : Try.prog.laysLater = false := by kernel_rfl
theorem bears_reflect : Try.prog.bearsReflect = false := by kernel_rfl
theorem door_fits : Try.prog.doorFits [] = true := by kernel_rfl
theorem may_enter : Try.prog.mayEnter = true := by
  obtain ⟨r, h⟩ := init_behind
  exact may_enter_of _ r h lays_later bears_reflect door_fits
theorem lifts_final : Try.prog.liftsFinal = false := by
  obtain ⟨r, h⟩ := init_behind
  exact lifts_final_of _ r h
theorem make_cut : Try.prog.make = some .cut := by
  obtain ⟨r, h⟩ := init_behind
  exact make_cut_of _ r h
end Go.Proofs.Yteejcpbngnojkaa.Head
end
section
namespace Go.Proofs.YteejcpbngnojkaaW.PrintWords
open Go.ChangeShapes Go.WideShapes
theorem sized_ints {H : Type} {enc : TypeId × Value → H} {P : Program} {W : World} {base : Nat} {spare : Nat → Bool} {held : Bool} {t e : TypeId} {k : IntKind} {a : Option Addr} {len cap : Nat} {d : DataW H} {ps : List MemPlace} {ts : List TypeId} {ds : List (DataW H)} {j : Nat}
    (hsz : (DataW.weightsEach P ts ds).all (· ≤ reachBytes) = true) (ht : ts[j]? = some t) (hd : ds[j]? = some d) (hu : P.underlying t = some (.slice e)) (he : P.underlying e = some (.int k)) (hc : P.cellsOf e = 1) {B : Nat} (hB : P.bytesOf e = B)
    (h : DataW.Trod enc P W base spare held t (.slice a len cap) d ps) : len * B ≤ 140737488351232 := by
  obtain ⟨fuel, hf⟩ := h
  rcases open_ints hu he hc hf with ⟨hcs, _⟩ | ⟨x, l, c, zs, hcs, _, hl, _, hz, hx, _, _⟩
  · simp [Value.cells] at hcs
    obtain ⟨rfl, rfl, rfl⟩ := hcs
    simp
  · simp [Value.cells] at hcs
    obtain ⟨rfl, rfl, rfl⟩ := hcs
    obtain ⟨hx, _⟩ := Prod.mk.inj hx
    subst hx
    have z := sized_slice hsz ht hd hu
    rw [hB] at z
    have hl2 : len ≤ zs.length := by
      rw [hz]
      split
      · exact hl
      · exact Nat.le_refl _
    have h1 : (lits (H := H) k (zs.take len)).length + (lits (H := H) k (zs.drop len)).length = zs.length := by
      simp [lits]
      omega
    rw [h1] at z
    exact Nat.le_trans (Nat.mul_le_mul_right _ hl2) z
end Go.Proofs.YteejcpbngnojkaaW.PrintWords
end
