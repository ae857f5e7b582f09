/- The stream, in plain lists of numbers: the document's block is the program's; bytes with the stream. -/
import Derived.Test.YteejcpbngnojkaaF31
import Derived.Test.YteejcpbngnojkaaF33
import Derived.Test.YteejcpbngnojkaaF32
import Derived.Test.YteejcpbngnojkaaF28
import Derived.Test.YteejcpbngnojkaaF30
import Derived.Laws.BitsLemmas
import Derived.Laws.BitsAllLaws
namespace Go.Proofs.Yteejcpbngnojkaa.P
open Go.RowKit Go.Proofs.YteejcpbngnojkaaW.PrintWords Go.Proofs.YteejcpbngnojkaaW.PrintLast Go.Proofs.YteejcpbngnojkaaW.PrintMore
set_option linter.unusedVariables false

/-- Bytes. -/
def Bytes8 (l : List Int) : Prop := ∀ x ∈ l, 0 ≤ x ∧ x < 256
theorem bytes8_of_wf {l : List Int} (h : ∀ x ∈ l, (Lit.int .u8 x).wf = true) : Bytes8 l := by
  intro x hx
  have := h x hx
  simp [Lit.wf, IntKind.min, IntKind.max, IntKind.bits, IntKind.signed] at this
  omega
theorem rd_byte {l : List Int} (h : Bytes8 l) (i : Int) : 0 ≤ rd l i ∧ rd l i < 256 := by
  unfold rd
  rw [List.getD_eq_getElem?_getD]
  cases e : l[i.toNat]? with
  | none => simp
  | some x => exact h x (List.mem_of_getElem? e)
theorem bytes8_drop {l : List Int} (h : Bytes8 l) (n : Nat) : Bytes8 (l.drop n) := fun x hx => h x (List.mem_of_mem_drop hx)
theorem bytes8_take {l : List Int} (h : Bytes8 l) (n : Nat) : Bytes8 (l.take n) := fun x hx => h x (List.mem_of_mem_take hx)
theorem bytes8_append {a b : List Int} (ha : Bytes8 a) (hb : Bytes8 b) : Bytes8 (a ++ b) := fun x hx => (List.mem_append.1 hx).elim (ha x) (hb x)

theorem bits_or_comm (k : IntKind) (x y : Int) : Go.bits .or k x y = Go.bits .or k y x := by simp only [Go.bits, BitVec.or_comm]
theorem wraps_u32 (n : Int) (h₀ : 0 ≤ n) (h₁ : n < 2 ^ 32) : IntKind.u32.wrap n = n := by rw [IntKind.wrap_u32]; omega
/-- A small number or a multiple: their sum. -/
theorem or_low32 (i : Nat) (x y : Int) (hi : i ≤ 32) (hx₀ : 0 ≤ x) (hx : x < 2 ^ i) (hx1 : x < 2 ^ 32) (hy₀ : 0 ≤ y) (hy : y % 2 ^ i = 0) (hy₁ : y < 2 ^ 32) : Go.bits .or .u32 x y = x + y := by
  rw [bits_or_comm, bits_join .u32 32 (by decide) wraps_u32 i y x hy₀ hy hy₁ hx₀ hx hx1, Int.add_comm]
theorem wd_sum (l : List Int) (h : Bytes8 l) : wd l = rd l 0 + 256 * rd l 1 + 65536 * rd l 2 + 16777216 * rd l 3 := by
  have h0 := rd_byte h 0
  have h1 := rd_byte h 1
  have h2 := rd_byte h 2
  have h3 := rd_byte h 3
  unfold wd
  rw [or_low32 8 (rd l 0 % 4294967296) _ (by decide) (by omega) (by omega) (by omega) (by omega) (by omega) (by omega)]
  rw [or_low32 16 _ (rd l 2 % 4294967296 * 65536 % 4294967296) (by decide) (by omega) (by omega) (by omega) (by omega) (by omega) (by omega)]
  rw [or_low32 24 _ (rd l 3 % 4294967296 * 16777216 % 4294967296) (by decide) (by omega) (by omega) (by omega) (by omega) (by omega) (by omega)]
  omega
theorem refword_some (l : List Int) (h : Bytes8 l) (hl : 4 ≤ l.length) : sacristyref05_word.f l = some (wd l) := by
  have h0 := rd_byte h 0
  have h1 := rd_byte h 1
  have h2 := rd_byte h 2
  have h3 := rd_byte h 3
  unfold sacristyref05_word.f
  rw [if_pos (by omega), if_pos (by omega), if_pos (by omega), if_pos (by omega), wd_sum l h]
  congr 1
  omega
theorem refq_some (l : List Int) (hl : l.length = 16) (a b c d : Int) (ha : 0 ≤ a ∧ a < 16) (hb : 0 ≤ b ∧ b < 16) (hc : 0 ≤ c ∧ c < 16) (hd : 0 ≤ d ∧ d < 16) : sacristyref05_quarter.f l a b c d = some (qr l a b c d) := by
  unfold sacristyref05_quarter.f
  rw [if_pos ⟨hl, ha, hb, hc, hd⟩]

/-! ### the document's block -/
theorem st0_eq (key nonce : List Int) (c : Int) : st0 key c nonce = [1634760805, 857760878, 2036477234, 1797285236, wd (key.drop 0), wd (key.drop 4), wd (key.drop 8), wd (key.drop 12), wd (key.drop 16), wd (key.drop 20), wd (key.drop 24), wd (key.drop 28), c, wd (nonce.drop 0), wd (nonce.drop 4), wd (nonce.drop 8)] := by
  simp [st0, ldw, stIni]
theorem rblk_l4 (s was out : List Int) (x i : Int) (hx0 : 0 ≤ x) (hx : x < 4294967296) (hl : out.length + 4 < 140737488355328) (r : List Int) (n : Int) (h : Ev (fun k => sacristyref05_Block.l3 k s was (out ++ b4 x) n (wrap64 (i + 1))) r) :
    Ev (fun k => sacristyref05_Block.l4 k s was out x 0 n i) r := by
  have e0 : (if (0 : Int) < 4 then True else False) := by simp
  refine Ev.step (f := fun k => sacristyref05_Block.l4 k s was (out ++ [x % 256]) (x / 256) 1 n i) (fun k => ?_) ?_
  · simp only [sacristyref05_Block.l4]
    rw [if_pos (by decide), if_pos (by omega), Int.tmod_eq_emod_of_nonneg hx0, Int.tdiv_eq_ediv_of_nonneg hx0, show x % 256 % 256 = x % 256 by omega, show x / 256 % 4294967296 = x / 256 by omega]
    simp [wrap64]
  refine Ev.step (f := fun k => sacristyref05_Block.l4 k s was (out ++ [x % 256, x / 256 % 256]) (x / 65536) 2 n i) (fun k => ?_) ?_
  · simp only [sacristyref05_Block.l4]
    rw [if_pos (by decide), if_pos (by simp; omega), Int.tmod_eq_emod_of_nonneg (by omega), Int.tdiv_eq_ediv_of_nonneg (by omega), show x / 256 % 256 % 256 = x / 256 % 256 by omega, show x / 256 / 256 % 4294967296 = x / 65536 by omega]
    simp [wrap64]
  refine Ev.step (f := fun k => sacristyref05_Block.l4 k s was (out ++ [x % 256, x / 256 % 256, x / 65536 % 256]) (x / 16777216) 3 n i) (fun k => ?_) ?_
  · simp only [sacristyref05_Block.l4]
    rw [if_pos (by decide), if_pos (by simp; omega), Int.tmod_eq_emod_of_nonneg (by omega), Int.tdiv_eq_ediv_of_nonneg (by omega), show x / 65536 % 256 % 256 = x / 65536 % 256 by omega, show x / 65536 / 256 % 4294967296 = x / 16777216 by omega]
    simp [wrap64]
  refine Ev.step (f := fun k => sacristyref05_Block.l4 k s was (out ++ b4 x) 0 4 n i) (fun k => ?_) ?_
  · simp only [sacristyref05_Block.l4]
    rw [if_pos (by decide), if_pos (by simp; omega), Int.tmod_eq_emod_of_nonneg (by omega), Int.tdiv_eq_ediv_of_nonneg (by omega), show x / 16777216 % 256 % 256 = x / 16777216 % 256 by omega, show x / 16777216 / 256 % 4294967296 = 0 by omega]
    simp [wrap64, b4]
  refine Ev.step (fun k => ?_) h
  simp only [sacristyref05_Block.l4]
  rw [if_neg (by decide)]
theorem rblk_l3 (s was : List Int) (hs : s.length = 16) (hw : was.length = 16) (d : Nat) : ∀ i : Nat, i + d = 16 → Ev (fun k => sacristyref05_Block.l3 k s was (outw s was i) 16 i) (outw s was 16) := by
  induction d with
  | zero =>
    intro i hi
    obtain rfl : i = 16 := by omega
    refine Ev.step (f := fun _ => some (outw s was 16)) (fun k => ?_) (Ev.now _)
    simp only [sacristyref05_Block.l3]
    rw [if_neg (by decide)]
  | succ d ih =>
    intro i hi
    refine Ev.step (f := fun k => sacristyref05_Block.l4 k s was (outw s was i) ((rd s i + rd was i) % 4294967296) 0 16 i) (fun k => ?_) ?_
    · simp only [sacristyref05_Block.l3]
      rw [if_pos (by omega), if_pos (by omega), if_pos (by omega), if_pos (by omega)]
    · refine rblk_l4 s was _ _ _ (by omega) (by omega) (by rw [outw_len]; omega) _ _ ?_
      have e : wrap64 ((i : Int) + 1) = ((i + 1 : Nat) : Int) := by unfold wrap64; omega
      rw [e]
      exact ih (i + 1) (by omega)
theorem rounds_shift (n : Nat) (L : List Int) : rounds (n + 1) L = dr2 4 (dr1 4 (rounds n L)) := rfl
theorem rblk_l2 (was : List Int) (hw : was.length = 16) (L : List Int) (hL : L.length = 16) (d : Nat) : ∀ n : Nat, n + d = 10 → Ev (fun k => sacristyref05_Block.l2 k (rounds n L) was n) (outw (rounds 10 L) was 16) := by
  induction d with
  | zero =>
    intro n hn
    obtain rfl : n = 10 := by omega
    refine Ev.step (fun k => ?_) (rblk_l3 (rounds 10 L) was (by rw [rounds_len, hL]) hw 16 0 (by omega))
    simp only [sacristyref05_Block.l2]
    rw [if_neg (by decide), rounds_len, hL]
    rfl
  | succ d ih =>
    intro n hn
    refine Ev.step (fun k => ?_) (ih (n + 1) (by omega))
    have hl : (rounds n L).length = 16 := by rw [rounds_len, hL]
    simp only [sacristyref05_Block.l2]
    rw [if_pos (by omega)]
    rw [refq_some _ hl _ _ _ _ (by decide) (by decide) (by decide) (by decide)]; simp only [Option.bind_some]
    rw [refq_some _ (by simp only [qr_len, hl]) _ _ _ _ (by decide) (by decide) (by decide) (by decide)]; simp only [Option.bind_some]
    rw [refq_some _ (by simp only [qr_len, hl]) _ _ _ _ (by decide) (by decide) (by decide) (by decide)]; simp only [Option.bind_some]
    rw [refq_some _ (by simp only [qr_len, hl]) _ _ _ _ (by decide) (by decide) (by decide) (by decide)]; simp only [Option.bind_some]
    rw [refq_some _ (by simp only [qr_len, hl]) _ _ _ _ (by decide) (by decide) (by decide) (by decide)]; simp only [Option.bind_some]
    rw [refq_some _ (by simp only [qr_len, hl]) _ _ _ _ (by decide) (by decide) (by decide) (by decide)]; simp only [Option.bind_some]
    rw [refq_some _ (by simp only [qr_len, hl]) _ _ _ _ (by decide) (by decide) (by decide) (by decide)]; simp only [Option.bind_some]
    rw [refq_some _ (by simp only [qr_len, hl]) _ _ _ _ (by decide) (by decide) (by decide) (by decide)]; simp only [Option.bind_some]
    have e : wrap64 ((n : Int) + 1) = ((n + 1 : Nat) : Int) := by unfold wrap64; omega
    rw [e, rounds_shift]
    rfl
theorem rblk_l1 (nonce : List Int) (hn : nonce.length = 12) (hb : Bytes8 nonce) (x : List Int) (hx : x.length = 13) (r : List Int)
    (h : Ev (fun k => sacristyref05_Block.l2 k (x ++ [wd (nonce.drop 0), wd (nonce.drop 4), wd (nonce.drop 8)]) (x ++ [wd (nonce.drop 0), wd (nonce.drop 4), wd (nonce.drop 8)]) 0) r) : Ev (fun k => sacristyref05_Block.l1 k nonce x 0) r := by
  refine Ev.step (f := fun k => sacristyref05_Block.l1 k nonce (x ++ [wd (nonce.drop 0)]) 4) (fun k => ?_) ?_
  · simp only [sacristyref05_Block.l1]
    rw [if_pos (by decide), if_pos (by decide), if_pos (by omega), refword_some _ (bytes8_drop hb _) (by simp; omega)]
    simp only [Option.bind_some]
    rw [if_pos (by omega)]
    simp [wrap64]
  refine Ev.step (f := fun k => sacristyref05_Block.l1 k nonce (x ++ [wd (nonce.drop 0), wd (nonce.drop 4)]) 8) (fun k => ?_) ?_
  · simp only [sacristyref05_Block.l1]
    rw [if_pos (by decide), if_pos (by decide), if_pos (by omega), refword_some _ (bytes8_drop hb _) (by simp; omega)]
    simp only [Option.bind_some]
    rw [if_pos (by simp; omega)]
    simp [wrap64]
  refine Ev.step (f := fun k => sacristyref05_Block.l1 k nonce (x ++ [wd (nonce.drop 0), wd (nonce.drop 4), wd (nonce.drop 8)]) 12) (fun k => ?_) ?_
  · simp only [sacristyref05_Block.l1]
    rw [if_pos (by decide), if_pos (by decide), if_pos (by omega), refword_some _ (bytes8_drop hb _) (by simp; omega)]
    simp only [Option.bind_some]
    rw [if_pos (by simp; omega)]
    simp [wrap64]
  refine Ev.step (fun k => ?_) h
  simp only [sacristyref05_Block.l1]
  rw [if_neg (by decide)]
  simp only [Option.bind_some, List.nil_append]
  rw [if_pos (by simp; omega)]
theorem rblk_l0 (key nonce : List Int) (c : Int) (hk : key.length = 32) (hb : Bytes8 key) (r : List Int) (d : Nat) : ∀ i : Nat, i + d = 8 →
    Ev (fun k => sacristyref05_Block.l1 k nonce ([1634760805, 857760878, 2036477234, 1797285236] ++ (List.range 8).map (fun j => wd (key.drop (4 * j))) ++ [c]) 0) r →
    Ev (fun k => sacristyref05_Block.l0 k key c nonce ([1634760805, 857760878, 2036477234, 1797285236] ++ (List.range i).map (fun j => wd (key.drop (4 * j)))) ((4 * i : Nat) : Int)) r := by
  induction d with
  | zero =>
    intro i hi h
    obtain rfl : i = 8 := by omega
    refine Ev.step (fun k => ?_) h
    simp only [sacristyref05_Block.l0]
    rw [if_neg (by decide), if_pos (by simp)]
  | succ d ih =>
    intro i hi h
    refine Ev.step (fun k => ?_) (ih (i + 1) (by omega) h)
    simp only [sacristyref05_Block.l0]
    rw [if_pos (by omega), if_pos (by omega), if_pos (by omega)]
    rw [Int.toNat_natCast, refword_some _ (bytes8_drop hb _) (by simp; omega)]
    simp only [Option.bind_some]
    rw [if_pos (by simp; omega)]
    have e : wrap64 (((4 * i : Nat) : Int) + 4) = ((4 * (i + 1) : Nat) : Int) := by unfold wrap64; omega
    rw [e, List.range_succ, List.map_append, List.append_assoc]
    rfl
/-- The document's block is the program's. -/
theorem refblock (key nonce : List Int) (c : Int) (hk : key.length = 32) (hn : nonce.length = 12) (bk : Bytes8 key) (bn : Bytes8 nonce) : Ev (fun k => sacristyref05_Block.f k key c nonce) (blk key c nonce) := by
  have e := st0_eq key nonce c
  have h2 := rblk_l2 (st0 key c nonce) (st0_len _ _ _) (st0 key c nonce) (st0_len _ _ _) 10 0 (by omega)
  have h := rblk_l0 key nonce c hk bk (blk key c nonce) 8 0 (by omega) (rblk_l1 nonce hn bn _ (by simp) _ (by
    refine Ev.congr (fun k => ?_) h2
    have e2 : ([1634760805, 857760878, 2036477234, 1797285236] ++ (List.range 8).map (fun j => wd (key.drop (4 * j))) ++ [c] ++ [wd (nonce.drop 0), wd (nonce.drop 4), wd (nonce.drop 8)] : List Int) = st0 key c nonce := by rw [e]; rfl
    rw [e2]
    rfl))
  exact h
end Go.Proofs.Yteejcpbngnojkaa.P
