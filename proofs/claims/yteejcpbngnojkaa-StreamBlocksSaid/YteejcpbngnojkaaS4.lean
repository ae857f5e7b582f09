/- Small facts that the four laws of the stream share. -/
import Derived.Test.YteejcpbngnojkaaS3
import Derived.Laws.BitsAllLaws
namespace Go.Proofs.Yteejcpbngnojkaa.P
open Go.RowKit Go.Proofs.YteejcpbngnojkaaW.PrintWords Go.Proofs.YteejcpbngnojkaaW.PrintLast Go.Proofs.YteejcpbngnojkaaW.PrintMore
set_option linter.unusedVariables false
theorem u32_of_wf {a : Int} (h : (Lit.int .u32 a).wf = true) : 0 ≤ a ∧ a < 4294967296 := by
  simp [Lit.wf, IntKind.min, IntKind.max, IntKind.bits, IntKind.signed] at h
  omega
theorem u8_of_wf {a : Int} (h : (Lit.int .u8 a).wf = true) : 0 ≤ a ∧ a < 256 := by
  simp [Lit.wf, IntKind.min, IntKind.max, IntKind.bits, IntKind.signed] at h
  omega
theorem xor_no {key nonce : List Int} (c : Int) (b : List Int) (k : Nat) (h : ¬ (key.length = 32 ∧ nonce.length = 12)) : stream_Xor.f k key c nonce b = some ([], 1) := by
  unfold stream_Xor.f
  rw [wrong_bad h]
  rfl
theorem blk_byte (key nonce : List Int) (c : Int) : Bytes8 (blk key c nonce) := by
  unfold blk
  generalize rounds 10 (st0 key c nonce) = s
  generalize st0 key c nonce = t
  have : ∀ n, Bytes8 (outw s t n) := by
    intro n
    induction n with
    | zero => intro x hx; cases hx
    | succ n ih =>
      refine bytes8_append ih ?_
      intro x hx
      simp only [b4, List.mem_cons, List.not_mem_nil, or_false] at hx
      rcases hx with rfl | rfl | rfl | rfl <;> omega
  exact this 16
theorem ks_byte (key nonce : List Int) (c : Int) (i : Nat) : 0 ≤ ks key c nonce i ∧ ks key c nonce i < 256 := rd_byte (blk_byte key nonce _) _
theorem xb_byte (x y : Int) (hx : 0 ≤ x ∧ x < 256) (hy : 0 ≤ y ∧ y < 256) : 0 ≤ Go.bits .xor .u8 x y ∧ Go.bits .xor .u8 x y < 256 := by
  rw [Go.u8_xor x y hx.1 hx.2 hy.1 hy.2]
  have : x.toNat ^^^ y.toNat < 2 ^ 8 := Nat.xor_lt_two_pow (by omega) (by omega)
  omega
theorem xb_back (x y : Int) (hx : 0 ≤ x ∧ x < 256) (hy : 0 ≤ y ∧ y < 256) : Go.bits .xor .u8 (Go.bits .xor .u8 x y) y = x := by
  have hb := xb_byte x y hx hy
  rw [Go.u8_xor _ y hb.1 hb.2 hy.1 hy.2, Go.u8_xor x y hx.1 hx.2 hy.1 hy.2, Int.toNat_natCast, Nat.xor_assoc, Nat.xor_self, Nat.xor_zero]
  omega
theorem xb_swap (x d y : Int) (hx : 0 ≤ x ∧ x < 256) (hd : 0 ≤ d ∧ d < 256) (hy : 0 ≤ y ∧ y < 256) : Go.bits .xor .u8 (Go.bits .xor .u8 x d) y = Go.bits .xor .u8 (Go.bits .xor .u8 x y) d := by
  have h1 := xb_byte x d hx hd
  have h2 := xb_byte x y hx hy
  rw [Go.u8_xor _ y h1.1 h1.2 hy.1 hy.2, Go.u8_xor _ d h2.1 h2.2 hd.1 hd.2, Go.u8_xor x y hx.1 hx.2 hy.1 hy.2, Go.u8_xor x d hx.1 hx.2 hd.1 hd.2]
  simp only [Int.toNat_natCast]
  rw [Nat.xor_assoc, Nat.xor_comm d.toNat, ← Nat.xor_assoc]
theorem rd_get (b : List Int) (i : Nat) (h : i < b.length) : rd b (i : Int) = b[i] := by
  unfold rd
  rw [Int.toNat_natCast, List.getD_eq_getElem?_getD, List.getElem?_eq_getElem h]
  rfl
theorem rd_xr (key nonce b : List Int) (c : Int) (i : Nat) (h : i < b.length) : rd (xr key c nonce b) (i : Int) = Go.bits .xor .u8 (rd b (i : Int)) (ks key c nonce i) := by
  rw [rd_get _ i (by rw [xr_len]; exact h)]
  simp only [xr, List.getElem_map, List.getElem_range]
theorem xr_byte (key nonce b : List Int) (c : Int) (hb : Bytes8 b) : Bytes8 (xr key c nonce b) := by
  intro x hx
  simp only [xr, List.mem_map] at hx
  obtain ⟨i, _, rfl⟩ := hx
  exact xb_byte _ _ (rd_byte hb _) (ks_byte ..)
theorem xr_back (key nonce b : List Int) (c : Int) (hb : Bytes8 b) : xr key c nonce (xr key c nonce b) = b := by
  apply List.ext_getElem
  · rw [xr_len, xr_len]
  · intro i h1 h2
    rw [← rd_get _ i h1, rd_xr _ _ _ _ _ (by rw [xr_len]; exact h2), rd_xr _ _ _ _ _ h2, xb_back _ _ (rd_byte hb _) (ks_byte ..), rd_get _ _ h2]
theorem xr_set (key nonce b : List Int) (c : Int) (i : Nat) (d : Int) (hi : i < b.length) (hb : Bytes8 b) (hd : 0 ≤ d ∧ d < 256) : xr key c nonce (b.set i (Go.bits .xor .u8 (rd b (i : Int)) d)) = (xr key c nonce b).set i (Go.bits .xor .u8 (rd (xr key c nonce b) (i : Int)) d) := by
  apply List.ext_getElem
  · simp [xr_len]
  · intro j h1 h2
    have hj : j < b.length := by simpa [xr_len] using h1
    rw [← rd_get _ j h1, rd_xr _ _ _ _ _ (by simpa using hj), rd_get _ j (by simpa using hj), List.getElem_set, List.getElem_set]
    by_cases e : i = j
    · subst e
      rw [if_pos rfl, if_pos rfl, rd_xr _ _ _ _ _ hi, xb_swap _ _ _ (rd_byte hb _) hd (ks_byte ..)]
    · rw [if_neg e, if_neg e, ← rd_get _ j hj, ← rd_get _ j (by rw [xr_len]; exact hj), rd_xr _ _ _ _ _ hj]
theorem ks_next (key nonce : List Int) (c : Int) (i : Nat) : ks key c nonce (64 + i) = ks key ((c + 1) % 4294967296) nonce i := by
  unfold ks
  rw [show (64 + i) % 64 = i % 64 by omega, show (64 + i) / 64 = i / 64 + 1 by omega, show ((c + ((i / 64 + 1 : Nat) : Int)) % 4294967296) = (((c + 1) % 4294967296 + ((i / 64 : Nat) : Int)) % 4294967296) by omega]
theorem xr_parts (key nonce b : List Int) (c : Int) (hb : 64 ≤ b.length) : xr key c nonce b = xr key c nonce (b.take 64) ++ xr key ((c + 1) % 4294967296) nonce (b.drop 64) := by
  apply List.ext_getElem
  · simp [xr_len]; omega
  · intro i h1 h2
    have hi : i < b.length := by simpa [xr_len] using h1
    rw [← rd_get _ i h1, rd_xr _ _ _ _ _ hi]
    by_cases e : i < 64
    · have hl : i < (b.take 64).length := by rw [List.length_take]; omega
      rw [List.getElem_append_left (by rw [xr_len]; exact hl), ← rd_get _ i (by rw [xr_len]; exact hl), rd_xr _ _ _ _ _ hl, rd_get _ _ hl, rd_get _ _ hi, List.getElem_take]
    · obtain ⟨j, rfl⟩ : ∃ j, i = 64 + j := ⟨i - 64, by omega⟩
      have hl : j < (b.drop 64).length := by rw [List.length_drop]; omega
      have h64 : (xr key c nonce (b.take 64)).length = 64 := by rw [xr_len, List.length_take]; omega
      rw [List.getElem_append_right (by rw [h64]; omega)]
      simp only [h64, show 64 + j - 64 = j by omega]
      rw [← rd_get _ j (by rw [xr_len]; exact hl), rd_xr _ _ _ _ _ hl, rd_get _ _ hl, rd_get _ _ hi, List.getElem_drop, ks_next]
end Go.Proofs.Yteejcpbngnojkaa.P
