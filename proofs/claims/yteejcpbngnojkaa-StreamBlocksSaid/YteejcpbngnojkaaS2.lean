/- Bytes with the stream: the program's and the document's, in plain lists. -/
import Derived.Test.YteejcpbngnojkaaS1
namespace Go.Proofs.Yteejcpbngnojkaa.P
open Go.RowKit Go.Proofs.YteejcpbngnojkaaW.PrintWords Go.Proofs.YteejcpbngnojkaaW.PrintLast Go.Proofs.YteejcpbngnojkaaW.PrintMore
set_option linter.unusedVariables false

/-- The stream's byte number i. -/
def ks (key : List Int) (c : Int) (nonce : List Int) (i : Nat) : Int := rd (blk key ((c + ((i / 64 : Nat) : Int)) % 4294967296) nonce) ((i % 64 : Nat) : Int)
/-- Bytes with the stream. -/
def xr (key : List Int) (c : Int) (nonce b : List Int) : List Int := (List.range b.length).map fun (i : Nat) => Go.bits .xor .u8 (rd b (i : Int)) (ks key c nonce i)
/-- The first n of them, noughts behind. -/
def pt (key : List Int) (c : Int) (nonce b : List Int) (n : Nat) : List Int := (List.range b.length).map fun (i : Nat) => if i < n then Go.bits .xor .u8 (rd b (i : Int)) (ks key c nonce i) else 0
theorem xr_len (key : List Int) (c : Int) (nonce b : List Int) : (xr key c nonce b).length = b.length := by simp [xr]
theorem pt_len (key : List Int) (c : Int) (nonce b : List Int) (n : Nat) : (pt key c nonce b n).length = b.length := by simp [pt]
theorem pt_zero (key : List Int) (c : Int) (nonce b : List Int) : pt key c nonce b 0 = List.replicate b.length 0 := by
  apply List.ext_getElem <;> simp [pt]
theorem pt_all (key : List Int) (c : Int) (nonce b : List Int) (n : Nat) (h : b.length ≤ n) : pt key c nonce b n = xr key c nonce b := by
  apply List.ext_getElem
  · simp [pt, xr]
  · intro i h1 h2
    have : i < b.length := by simpa [pt] using h1
    simp [pt, xr, show i < n by omega]
theorem pt_set (key : List Int) (c : Int) (nonce b : List Int) (i : Nat) (h : i < b.length) : (pt key c nonce b i).set i (Go.bits .xor .u8 (rd b (i : Int)) (ks key c nonce i)) = pt key c nonce b (i + 1) := by
  apply List.ext_getElem
  · simp [pt]
  · intro j h1 h2
    have hj : j < b.length := by simpa [pt] using h2
    rw [List.getElem_set]
    by_cases e : i = j
    · subst e; simp [pt]
    · rw [if_neg e]
      simp only [pt, List.getElem_map, List.getElem_range]
      by_cases hlt : j < i
      · rw [if_pos hlt, if_pos (by omega)]
      · rw [if_neg hlt, if_neg (by omega)]
theorem blk_len (key : List Int) (c : Int) (nonce : List Int) : (blk key c nonce).length = 64 := by simp [blk, outw_len]
theorem wrong_good {key nonce : List Int} (hk : key.length = 32) (hn : nonce.length = 12) : stream_wrong.f key nonce = some false := by
  unfold stream_wrong.f
  rw [if_pos (by omega), hn]
  rfl
theorem wrong_bad {key nonce : List Int} (h : ¬ (key.length = 32 ∧ nonce.length = 12)) : stream_wrong.f key nonce = some true := by
  unfold stream_wrong.f
  by_cases hk : (key.length : Int) = 32
  · rw [if_pos hk]
    have : nonce.length ≠ 12 := fun e => h ⟨by omega, e⟩
    congr 1
    simp
    omega
  · rw [if_neg hk]
theorem right_good {key nonce : List Int} (hk : key.length = 32) (hn : nonce.length = 12) : sacristyref05_Right.f key nonce = some true := by
  unfold sacristyref05_Right.f
  rw [if_pos (by omega), hn]
  rfl
theorem right_bad {key nonce : List Int} (h : ¬ (key.length = 32 ∧ nonce.length = 12)) : sacristyref05_Right.f key nonce = some false := by
  unfold sacristyref05_Right.f
  by_cases hk : (key.length : Int) = 32
  · rw [if_pos hk]
    have : nonce.length ≠ 12 := fun e => h ⟨by omega, e⟩
    congr 1
    simp
    omega
  · rw [if_neg hk]
theorem block_some {key nonce : List Int} (c : Int) (k : Nat) (hk : key.length = 32) (hn : nonce.length = 12) : stream_Block.f k key c nonce = some (blk key c nonce, 0) := by
  unfold stream_Block.f
  rw [wrong_good hk hn]
  rfl
theorem block_no {key nonce : List Int} (c : Int) (k : Nat) (h : ¬ (key.length = 32 ∧ nonce.length = 12)) : stream_Block.f k key c nonce = some ([], 1) := by
  unfold stream_Block.f
  rw [wrong_bad h]
  rfl
theorem wrap_small (n : Nat) (h : n ≤ 140737488355328) : wrap64 (n : Int) = (n : Int) := by unfold wrap64; omega
theorem wrap_one (n : Nat) (h : n ≤ 140737488355328) : wrap64 ((n : Int) + 1) = ((n + 1 : Nat) : Int) := by unfold wrap64; omega
theorem wrap_off (i m : Nat) (h1 : 64 * m ≤ i) (h2 : i < 64 * m + 64) (h3 : i ≤ 140737488355328) : wrap64 ((i : Int) - ((64 * m : Nat) : Int)) = ((i % 64 : Nat) : Int) := by
  have e : i % 64 = i - 64 * m := by omega
  rw [e]
  unfold wrap64
  omega
theorem tmod64 (i : Nat) : Int.tmod (i : Int) 64 = ((i % 64 : Nat) : Int) := by rw [Int.tmod_eq_emod_of_nonneg (by omega)]; rfl
theorem tdiv64 (i : Nat) : Int.tdiv (i : Int) 64 = ((i / 64 : Nat) : Int) := by rw [Int.tdiv_eq_ediv_of_nonneg (by omega)]; rfl
theorem div_in {i m : Nat} (h1 : 64 * m ≤ i) (h2 : i < 64 * m + 64) : i / 64 = m := by omega
theorem mod_in (i : Nat) : ((i % 64 : Nat) : Int) < ((64 : Nat) : Int) := by omega
theorem take_len (l : List Int) (i : Nat) : (l.take i).length ≤ i := by rw [List.length_take]; exact Nat.min_le_left _ _
theorem div_next {i : Nat} (h : (i + 1) % 64 ≠ 0) : (i + 1) / 64 = i / 64 := by omega
theorem div_small {i : Nat} (h : i ≤ 140737488355328) : i / 64 ≤ 140737488355328 := by omega
section
variable {key nonce b : List Int} {c : Int} (hk : key.length = 32) (hn : nonce.length = 12) (hb : b.length ≤ 140737488351232) (hc : 0 ≤ c ∧ c < 4294967296)
include hk hn hb hc
omit hk hn hc in
theorem xor_l1 (m : Nat) (c' : Int) (r : List Int × Int) (d : Nat) : ∀ i : Nat, 64 * m ≤ i → i ≤ 64 * m + 64 → i ≤ b.length → 64 * m + 64 - i = d →
    Ev (fun k => stream_Xor.l0 k key c' nonce b (pt key c nonce b (64 * (m + 1))) ((64 * (m + 1) : Nat) : Int)) r →
    Ev (fun k => stream_Xor.l1 k key c' nonce b (pt key c nonce b i) ((64 * m : Nat) : Int) (blk key ((c + (m : Int)) % 4294967296) nonce) (i : Int)) r := by
  induction d with
  | zero =>
    intro i h1 h2 h3 hd h
    have hw : wrap64 (((64 * m : Nat) : Int) + 64) = ((64 * (m + 1) : Nat) : Int) := by unfold wrap64; omega
    obtain rfl : i = 64 * (m + 1) := by omega
    refine Ev.step (fun k => ?_) h
    simp only [stream_Xor.l1]
    rw [hw]
    by_cases hlt : ((64 * (m + 1) : Nat) : Int) < (b.length : Int)
    · rw [if_pos hlt, if_neg (by omega)]
    · rw [if_neg hlt]
  | succ d ih =>
    intro i h1 h2 h3 hd h
    have hw : wrap64 (((64 * m : Nat) : Int) + 64) = ((64 * (m + 1) : Nat) : Int) := by unfold wrap64; omega
    by_cases hlt : i < b.length
    · refine Ev.step (fun k => ?_) (ih (i + 1) (by omega) (by omega) (by omega) (by omega) h)
      have h4 : i ≤ 140737488355328 := by omega
      have h5 : i < 64 * m + 64 := by omega
      have hm : i / 64 = m := div_in h1 h5
      have hs := wrap_off i m h1 h5 h4
      have hi : wrap64 ((i : Int) + 1) = ((i + 1 : Nat) : Int) := wrap_one i h4
      have c1 : (i : Int) < (b.length : Int) := Int.ofNat_lt.mpr hlt
      have c2 : (i : Int) < ((64 * (m + 1) : Nat) : Int) := Int.ofNat_lt.mpr (by rw [Nat.mul_succ]; exact h5)
      have c3 : (0 : Int) ≤ (i : Int) := Int.natCast_nonneg _
      have c4 : (0 : Int) ≤ ((i % 64 : Nat) : Int) := Int.natCast_nonneg _
      have c5 : ((i % 64 : Nat) : Int) < ((blk key ((c + (m : Int)) % 4294967296) nonce).length : Int) := by rw [blk_len]; exact mod_in i
      have c6 : (i : Int) < ((pt key c nonce b i).length : Int) := by rw [pt_len]; exact c1
      simp only [stream_Xor.l1]
      rw [hw, hs, hi]
      rw [if_pos c1, if_pos c2, if_pos c3, if_pos c4, if_pos c5, if_pos c6, Int.toNat_natCast]
      rw [← pt_set key c nonce b i hlt]
      unfold ks
      rw [hm]
    · have he : i = b.length := by omega
      refine Ev.step (fun k => ?_) h
      simp only [stream_Xor.l1]
      rw [if_neg (by omega), hw, pt_all key c nonce b i (by omega), pt_all key c nonce b (64 * (m + 1)) (by omega)]
omit hc in
theorem xor_l0 (d : Nat) : ∀ m : Nat, (b.length + 63) / 64 - m = d → Ev (fun k => stream_Xor.l0 k key ((c + (m : Int)) % 4294967296) nonce b (pt key c nonce b (64 * m)) ((64 * m : Nat) : Int)) (xr key c nonce b, 0) := by
  induction d with
  | zero =>
    intro m hd
    refine Ev.step (f := fun _ => some (xr key c nonce b, 0)) (fun k => ?_) (Ev.now _)
    simp only [stream_Xor.l0]
    rw [if_neg (by omega), pt_all key c nonce b (64 * m) (by omega)]
  | succ d ih =>
    intro m hd
    have e : ((c + (m : Int)) % 4294967296 + 1) % 4294967296 = (c + ((m + 1 : Nat) : Int)) % 4294967296 := by omega
    refine Ev.step (f := fun k => stream_Xor.l1 k key ((c + ((m + 1 : Nat) : Int)) % 4294967296) nonce b (pt key c nonce b (64 * m)) ((64 * m : Nat) : Int) (blk key ((c + (m : Int)) % 4294967296) nonce) ((64 * m : Nat) : Int)) (fun k => ?_) ?_
    · simp only [stream_Xor.l0]
      rw [if_pos (by omega), block_some _ _ hk hn, e]
      rfl
    · exact xor_l1 hb m _ _ 64 (64 * m) (by omega) (by omega) (by omega) (by omega) (ih (m + 1) (by omega))
/-- Bytes with the stream, by the program. -/
theorem xor_some : Ev (fun k => stream_Xor.f k key c nonce b) (xr key c nonce b, 0) := by
  refine Ev.congr (fun k => ?_) (xor_l0 hk hn hb ((b.length + 63) / 64) 0 (by omega))
  unfold stream_Xor.f
  rw [wrong_good hk hn]
  simp only [Option.bind_some]
  rw [if_neg (by simp), if_pos (by omega), Int.toNat_natCast, if_pos (by omega), pt_zero, show (c + ((0 : Nat) : Int)) % 4294967296 = c by omega]
  rfl
omit hc in
theorem refxor_l0 (bk : Bytes8 key) (bn : Bytes8 nonce) (d : Nat) : ∀ (i : Nat) (x10 : List Int), i + d = b.length → (i % 64 ≠ 0 → x10 = blk key ((c + ((i / 64 : Nat) : Int)) % 4294967296) nonce) →
    Ev (fun k => sacristyref05_Xor.l0 k key c nonce ((xr key c nonce b).take i) x10 b (b.length : Int) (i : Int)) (xr key c nonce b) := by
  induction d with
  | zero =>
    intro i x10 hi hx
    refine Ev.step (f := fun _ => some (xr key c nonce b)) (fun k => ?_) (Ev.now _)
    simp only [sacristyref05_Xor.l0]
    rw [if_neg (by omega), List.take_of_length_le (by rw [xr_len]; omega)]
  | succ d ih =>
    intro i x10 hi hx
    have h4 : i ≤ 140737488355328 := by omega
    have hlt : i < b.length := by omega
    have h6 : i < 140737488355328 := by omega
    have hn1 : i + 1 + d = b.length := by omega
    have hi1 : wrap64 ((i : Int) + 1) = ((i + 1 : Nat) : Int) := wrap_one i h4
    have hm := tmod64 i
    have hdv := tdiv64 i
    have hw : wrap64 ((i / 64 : Nat) : Int) = ((i / 64 : Nat) : Int) := wrap_small _ (div_small h4)
    have hcc : (c + ((i / 64 : Nat) : Int) % 4294967296) % 4294967296 = (c + ((i / 64 : Nat) : Int)) % 4294967296 := by rw [Int.add_emod_emod]
    have hsn : (xr key c nonce b).take i ++ [Go.bits .xor .u8 (rd b (i : Int)) (ks key c nonce i)] = (xr key c nonce b).take (i + 1) := by
      rw [List.take_succ_eq_append_getElem (by rw [xr_len]; exact hlt)]
      simp [xr]
    have hl : ((xr key c nonce b).take i).length < 140737488355328 := Nat.lt_of_le_of_lt (take_len _ i) h6
    have c1 : (i : Int) < (b.length : Int) := Int.ofNat_lt.mpr hlt
    have c3 : (0 : Int) ≤ (i : Int) := Int.natCast_nonneg _
    have c4 : (0 : Int) ≤ ((i % 64 : Nat) : Int) := Int.natCast_nonneg _
    have c5 : ((i % 64 : Nat) : Int) < ((blk key ((c + ((i / 64 : Nat) : Int)) % 4294967296) nonce).length : Int) := by rw [blk_len]; exact mod_in i
    by_cases h0 : i % 64 = 0
    · have hB := refblock key nonce ((c + ((i / 64 : Nat) : Int)) % 4294967296) hk hn bk bn
      have hI := ih (i + 1) (blk key ((c + ((i / 64 : Nat) : Int)) % 4294967296) nonce) hn1 (fun h => by rw [div_next h])
      refine Ev.step (f := fun k => (sacristyref05_Block.f k key ((c + ((i / 64 : Nat) : Int)) % 4294967296) nonce).bind fun t => if 0 ≤ ((i % 64 : Nat) : Int) then (if ((i % 64 : Nat) : Int) < (t.length : Int) then (if ((xr key c nonce b).take i).length < 140737488355328 then sacristyref05_Xor.l0 k key c nonce ((xr key c nonce b).take i ++ [Go.bits .xor .u8 (rd b (i : Int)) (rd t ((i % 64 : Nat) : Int))]) t b (b.length : Int) ((i + 1 : Nat) : Int) else none) else none) else none) (fun k => ?_) (Ev.bind hB (Ev.congr (fun k => ?_) hI))
      · simp only [sacristyref05_Xor.l0]
        rw [hm, hdv, hw, hcc, hi1, if_pos c1, if_pos c1, if_pos c3, if_pos (show ((i % 64 : Nat) : Int) = 0 by rw [h0]; rfl)]
      · show (if 0 ≤ ((i % 64 : Nat) : Int) then _ else _) = _
        rw [if_pos c4, if_pos c5, if_pos hl]
        show sacristyref05_Xor.l0 k key c nonce ((xr key c nonce b).take i ++ [Go.bits .xor .u8 (rd b (i : Int)) (ks key c nonce i)]) _ b _ _ = _
        rw [hsn]
    · refine Ev.step (fun k => ?_) (ih (i + 1) x10 hn1 (fun h1 => by rw [div_next h1]; exact hx h0))
      simp only [sacristyref05_Xor.l0]
      rw [hm, hi1, if_pos c1, if_pos c1, if_pos c3, if_neg (show ¬ ((i % 64 : Nat) : Int) = 0 from fun e => h0 (Int.ofNat.inj e)), if_pos c4]
      have hxe := hx h0
      rw [hxe, if_pos c5, if_pos hl]
      show sacristyref05_Xor.l0 k key c nonce ((xr key c nonce b).take i ++ [Go.bits .xor .u8 (rd b (i : Int)) (ks key c nonce i)]) _ b _ _ = _
      rw [hsn]
omit hc in
/-- Bytes with the stream, by the document. -/
theorem refxor_some (bk : Bytes8 key) (bn : Bytes8 nonce) : Ev (fun k => sacristyref05_Xor.f k key c nonce b) (xr key c nonce b) := by
  refine Ev.congr (fun k => ?_) (refxor_l0 hk hn hb bk bn b.length 0 [] (by omega) (fun h => absurd rfl h))
  unfold sacristyref05_Xor.f
  rfl
end
end Go.Proofs.Yteejcpbngnojkaa.P
