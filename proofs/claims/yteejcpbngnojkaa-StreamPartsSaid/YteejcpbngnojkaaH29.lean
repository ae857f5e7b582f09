/- The stream's block: its walk, and what it answers. -/
import Derived.Test.YteejcpbngnojkaaF95
import Derived.Test.YteejcpbngnojkaaF96
import Derived.Test.YteejcpbngnojkaaH97
namespace Go.Proofs.Yteejcpbngnojkaa.P
open Go.RowKit Go.Proofs.YteejcpbngnojkaaW.PrintWords Go.Proofs.YteejcpbngnojkaaW.PrintLast Go.Proofs.YteejcpbngnojkaaW.PrintMore
set_option linter.unusedVariables false
section
variable {P : Program} {ops : Array Oper} {rest : List Oper} {o : Oper} {a : Act} {Q : Exit → Act → World → Prop}
/-- A whole array is laid into a variable: the block holds just these cells then. -/
theorem arr_store {W : World} (hgd : o.guard = none) (ty : TypeId) (x y : Operand) (ho : o.op = .store ty x y) (hN : o.dst = none) (g : Nat) (cells : Array Value) (hx : a.eval x = .pointer (some ⟨g, 0, none⟩)) (hy : a.eval y = .agg cells)
    (t : TypeId) (old : Array Value) (hg : W.heap[g]? = some (.cells old t (0, 0))) (hi : (P.info? ty).map (·.size) = some cells.size) (hold : old.size = cells.size) (h1 : cells.all (·.oneCell') = true)
    (h : ∀ w1 : World, w1.heap[g]? = some (.cells cells t (0, 0)) → W.grownBy w1 (some g) → wpList P ops Q rest a w1) : wpList P ops Q (o :: rest) a W := by
  refine wpList_store_row hgd ty x y ho g cells hx hy t old hg hi hold h1 ?_
  have e : a.put o.dst undef = a := by rw [hN]; rfl
  rw [e]
  exact h _ (setRow_heap W g old cells t _ hg) ⟨rfl, rfl, rfl, by simp, fun k _ hk => setRow_other W g k _ (fun e => hk (by simp [e]))⟩
end
def stIni : List Int := [1634760805, 857760878, 2036477234, 1797285236, 0, 0, 0, 0, 0, 0, 0, 0, 0, 0, 0, 0]
def wd (l : List Int) : Int := Go.bits .or .u32 (Go.bits .or .u32 (Go.bits .or .u32 ((rd l 0) % 4294967296) ((((rd l 1) % 4294967296) * 256) % 4294967296)) ((((rd l 2) % 4294967296) * 65536) % 4294967296)) ((((rd l 3) % 4294967296) * 16777216) % 4294967296)
theorem word_some (l : List Int) (h : 4 ≤ l.length) : stream_word.f l = some (wd l) := by
  unfold stream_word.f wd
  rw [if_pos (by omega), if_pos (by omega), if_pos (by omega), if_pos (by omega)]
theorem nums_one (k : IntKind) (xs : List Int) : (nums k xs).toArray.all (·.oneCell') = true := by simp [nums, Value.oneCell']
theorem info119 : (Try.prog.info? 119).map (·.size) = some (nums .u32 stIni).toArray.size := by kernel_rfl
theorem wrong_no {a b : List Int} (h : stream_wrong.f a b = some false) : a.length = 32 ∧ b.length = 12 := by
  unfold stream_wrong.f at h
  split at h
  · have h' := Option.some.inj h
    simp at h'
    omega
  · cases h
theorem word_at (A : Option Addr) (c n : Nat) (l : List Int) (w : World) (hn : l.length = n) (hr : Kd.C (Kd.int .u8) w A l.length l) (hc : l.length ≤ c) (h4 : 4 ≤ l.length) :
    Calls Try.prog 96 #[.slice A n c] w fun e w' => e = .returned (.int .u32 (wd l)) ∧ Drawn0 w w' := by
  subst hn
  exact stream_word.calls A c l (wd l) w hr hc (word_some l h4)
def ldw (src : List Int) (off : Nat) : Nat → List Int → List Int
  | 0, L => L
  | k + 1, L => (ldw src off k L).set (off + k) (wd (src.drop (4 * k)))
theorem R_of_heap {w : World} {g base T : Nat} {ok : Nat → Prop} {L : List Int} (hl : L.length = 16) (hh : w.heap[g]? = some (.cells (nums .u32 L).toArray T (0, 0))) (hb : base ≤ g) (hok : ok g) : Kd.R (Kd.int .u32) T w base ok (.slice (some ⟨g, 0, none⟩) 16 16) L :=
  Kd.R_of_own ⟨by simp [encs], .inr ⟨g, 16, (nums .u32 L).toArray, by rw [hl], hb, hh, by omega, by simp [maxLen], by simp [nums, hl], by rw [List.take_of_length_le (by simp [nums, hl])]; rfl⟩⟩ (fun k hk => by cases hk; exact hok)
theorem ldw_len (src : List Int) (off k : Nat) (L : List Int) : (ldw src off k L).length = L.length := by
  induction k with
  | zero => rfl
  | succ k ih => simp [ldw, ih]
theorem qr_len (l : List Int) (a b c d : Int) : (qr l a b c d).length = l.length := by simp [qr, qa, qx]
def dr1 : Nat → List Int → List Int
  | 0, L => L
  | k + 1, L => qr (dr1 k L) k (4 + k) (8 + k) (12 + k)
def dr2 : Nat → List Int → List Int
  | 0, L => L
  | k + 1, L => qr (dr2 k L) k (4 + ((k : Int) + 1) % 4) (8 + ((k : Int) + 2) % 4) (12 + ((k : Int) + 3) % 4)
theorem dr1_len (k : Nat) (L : List Int) : (dr1 k L).length = L.length := by
  induction k with
  | zero => rfl
  | succ k ih => simp [dr1, qr_len, ih]
theorem dr2_len (k : Nat) (L : List Int) : (dr2 k L).length = L.length := by
  induction k with
  | zero => rfl
  | succ k ih => simp [dr2, qr_len, ih]
/-- n double rounds. -/
def rounds : Nat → List Int → List Int
  | 0, L => L
  | n + 1, L => dr2 4 (dr1 4 (rounds n L))
theorem rounds_len (n : Nat) (L : List Int) : (rounds n L).length = L.length := by
  induction n with
  | zero => rfl
  | succ n ih => simp [rounds, dr1_len, dr2_len, ih]
/-- The sixteen words at the beginning. -/
def st0 (key : List Int) (counter : Int) (nonce : List Int) : List Int := ldw nonce 13 3 ((ldw key 4 8 stIni).set 12 counter)
theorem st0_len (key : List Int) (c : Int) (nonce : List Int) : (st0 key c nonce).length = 16 := by simp [st0, ldw_len, stIni]
/-- Four bytes of a word. -/
def b4 (x : Int) : List Int := [x % 256, x / 256 % 256, x / 65536 % 256, x / 16777216 % 256]
def outw (s was : List Int) : Nat → List Int
  | 0 => []
  | k + 1 => outw s was k ++ b4 ((rd s k + rd was k) % 4294967296)
theorem outw_len (s was : List Int) (k : Nat) : (outw s was k).length = 4 * k := by
  induction k with
  | zero => rfl
  | succ k ih => simp [outw, ih, b4]; omega
/-- The block's bytes. -/
def blk (key : List Int) (counter : Int) (nonce : List Int) : List Int := outw (rounds 10 (st0 key counter nonce)) (st0 key counter nonce) 16
theorem R_heap16 {w : World} {g base T : Nat} {ok : Nat → Prop} {L : List Int} (h : Kd.R (Kd.int .u32) T w base ok (.slice (some ⟨g, 0, none⟩) 16 16) L) : L.length = 16 ∧ w.heap[g]? = some (.cells (nums .u32 L).toArray T (0, 0)) := by
  have ho := Kd.own_of_R h
  have hl : L.length = 16 := (Kd.R_reads' h).1.symm
  refine ⟨hl, ?_⟩
  rcases ho.2 with ⟨h1, _⟩ | ⟨g', cap, cur, he, _, hh, hn, hc, hs, ht⟩
  · cases h1
  · injection he with h1 h2 h3
    injection h1 with h1
    injection h1 with h1
    subst h1 h3
    rw [hh]
    have : cur.toList.length = 16 := by simpa using hs
    rw [List.take_of_length_le (by omega)] at ht
    have e : cur = (nums .u32 L).toArray := by
      apply Array.toList_inj.1
      rw [ht]
      rfl
    rw [e]
theorem info23s : (Try.prog.info? 23).map (·.size) = some 1 := by kernel_rfl
theorem info119s : (Try.prog.info? 119).map (·.size) = some 16 := by kernel_rfl
theorem info119L (L : List Int) (hl : L.length = 16) : (Try.prog.info? 119).map (·.size) = some (nums .u32 L).toArray.size := by rw [info119s]; simp [nums, hl]
theorem run_index119 (L : List Int) (hl : L.length = 16) (k : Nat) (hk : k < 16) (W : World) : (Instr.index 119 (.agg (nums .u32 L).toArray) (.int .i64 (k : Int))).run Try.prog W = .ok (.int .u32 (rd L (k : Int))) W := by
  obtain ⟨i0, hi, hs⟩ := Option.map_eq_some_iff.1 info23s
  have hc : (nums .u32 L)[k]? = some (.int .u32 (rd L (k : Int))) := by simp [nums, rd, List.getElem?_eq_getElem (show k < L.length by omega), List.getD_eq_getElem?_getD]
  simp only [Instr.index]
  simp [asIntOf, run_underlying Try.underlying119, part, sizeOf, typeInfo, hi, hs, hk, hc]
theorem reps4 (W : World) (base : Nat) (ok : Nat → Prop) (a b c d : Int) : Reps (Kd.M (Kd.int .u8) W base ok) 1 [a, b, c, d] [.int .u8 a, .int .u8 b, .int .u8 c, .int .u8 d] :=
  Reps.one (show Kd.M (Kd.int .u8) _ _ _ a [.int .u8 a] from rfl) (Reps.one (show Kd.M (Kd.int .u8) _ _ _ b [.int .u8 b] from rfl) (Reps.one (show Kd.M (Kd.int .u8) _ _ _ c [.int .u8 c] from rfl) (Reps.one (show Kd.M (Kd.int .u8) _ _ _ d [.int .u8 d] from rfl) (Reps.none _ _))))
theorem b4_spelt (a b : Int) : ([(a + b) % 256, (a + b) % 4294967296 / 256 % 256, (a + b) % 4294967296 / 65536 % 256, (a + b) % 4294967296 / 16777216] : List Int) = b4 ((a + b) % 4294967296) := by
  unfold b4
  congr 1
  · omega
  · congr 3
    omega
theorem blk_far {W w1 : World} {g : Nat} {row : Option Nat} {o : Obj} (hb : W.heap[g]? = some o) (hg : W.grownBy w1 row) (hne : row ≠ some g) : w1.heap[g]? = some o :=
  (hg.block g (blk_lt hb) (fun e => hne e.symm)).trans hb
set_option maxHeartbeats 4000000 in
set_option maxRecDepth 1000000 in
theorem block_bad (A0 : Option Addr) (c0 : Nat) (l0 : List Int) (a1 : Int) (A2 : Option Addr) (c2 : Nat) (l2 : List Int) (w : World) (hr0 : Kd.C (Kd.int .u8) w A0 l0.length l0) (hc0 : l0.length ≤ c0) (hr2 : Kd.C (Kd.int .u8) w A2 l2.length l2) (hc2 : l2.length ≤ c2) (h : stream_wrong.f l0 l2 = some true) :
    Calls Try.prog 29 #[.slice A0 l0.length c0, .int .u32 a1, .slice A2 l2.length c2] w fun e w' => e = .returned (.tuple #[.slice none 0 0, .int .i64 1]) ∧ Below w.heap.size w w' := by
  have HR0 := Aside0.mk hr0
  have HC0 := Aside0.mk hc0
  have HR2 := Aside0.mk hr2
  have HC2 := Aside0.mk hc2
  have HH := Aside0.mk h
  clear hr0 hc0 hr2 hc2 h
  go_enter Try.func29, Try.ntmps29
  go_wp2_with (go_at_call 95; refine (stream_wrong.calls _ _ _ _ _ _ _ _ HR0.out HC0.out HR2.out HC2.out HH.out).mono ?_; rintro e w' ⟨rfl, ⟨nd, rfl⟩⟩)
  go_ret2
  exact ⟨rfl, pw_below_drewN (Below.refl _ _) _⟩
set_option maxHeartbeats 8000000 in
set_option maxRecDepth 1000000 in
theorem block_good (A0 : Option Addr) (c0 : Nat) (l0 : List Int) (a1 : Int) (A2 : Option Addr) (c2 : Nat) (l2 : List Int) (w : World) (hr0 : Kd.C (Kd.int .u8) w A0 l0.length l0) (hc0 : l0.length ≤ c0) (hr2 : Kd.C (Kd.int .u8) w A2 l2.length l2) (hc2 : l2.length ≤ c2) (h : stream_wrong.f l0 l2 = some false) :
    Calls Try.prog 29 #[.slice A0 l0.length c0, .int .u32 a1, .slice A2 l2.length c2] w fun e w' => ∃ v0_ : Value, e = .returned (.tuple #[v0_, .int .i64 0]) ∧ Kd.R (Kd.int .u8) 5 w' w.heap.size (fun _ => True) v0_ (blk l0 a1 l2) ∧ Below w.heap.size w w' := by
  have HR0 := Aside0.mk hr0
  have HC0 := Aside0.mk hc0
  have HR2 := Aside0.mk hr2
  have HC2 := Aside0.mk hc2
  have HH := Aside0.mk h
  clear hr0 hc0 hr2 hc2 h
  have hB := Below.refl w.heap.size w
  have HB := Aside0.mk hB
  clear hB
  go_enter Try.func29, Try.ntmps29
  go_wp2_with (first | (go_at_call 95; refine (stream_wrong.calls _ _ _ _ _ _ _ _ HR0.out HC0.out HR2.out HC2.out HH.out).mono ?_; rintro e w' ⟨rfl, ⟨nd, rfl⟩⟩) | ((with_reducible refine gate_dst (N := 8) rfl ?_); refine box_event ?hg (N := 8) ?hd (cs := (nums .u32 (List.replicate 16 0)).toArray) (t := 119) ?hr ?_; (case hd => rfl); (case hg => rfl); (case hr => first | (go_simp; done) | (go_simp; rfl)); intro gs hgs w2 hbox hb2; have GS := Aside0.mk (show w.heap.size ≤ gs from Nat.le_of_eq hgs.symm); have HB2 := Aside0.mk (below_then (pw_below_drewN HB.out _) (Nat.le_refl _) hb2); clear hgs hb2 HB; have BX := Aside0.mk hbox; clear hbox) | ((with_reducible refine gate_store (t := 119) (p := 8) rfl ?_); refine arr_store rfl 119 _ _ rfl rfl gs (nums .u32 stIni).toArray rfl rfl 119 _ BX.out info119 rfl (nums_one _ _) ?_; intro w3 hh3 hg3; have HS := Aside0.mk (R_of_heap (base := w.heap.size) (ok := fun _ => True) (L := stIni) rfl hh3 GS.out trivial); have HB := Aside0.mk (HB2.out.grown hg3 HB2.out.size (fun k hk => by cases hk; exact GS.out)); clear hh3 hg3 BX HB2))
  obtain ⟨hl0, hl2⟩ := wrong_no HH.out
  have L0 := Aside0.mk hl0; have L2 := Aside0.mk hl2
  clear hl0 hl2
  go_loopw [21] (fun i wr => ∃ k : Nat, k ≤ 8 ∧ i = .int .i64 k ∧ Aside0 (Kd.R (Kd.int .u32) 119 wr w.heap.size (fun _ => True) (.slice (some ⟨gs, 0, none⟩) 16 16) (ldw l0 4 k stIni)) ∧ Aside0 (Below w.heap.size w wr)) (fun i _ => 8 - (intOf i).toNat)
  case atStart => exact ⟨0, by omega, rfl, HS, HB⟩
  case round =>
    clear HS HB
    obtain ⟨k, hk, rfl, HS, HB⟩ := hrel
    by_cases hlt : k < 8
    · obtain ⟨i011, hi011, _, hsz11, _⟩ := info_parts info5
      obtain ⟨A11, hcut11, hA11, hC11⟩ := print_drop_of (P := Try.prog) (Value.int .u8) 0 22 5 .i64 Try.underlying22 hi011 hsz11 A0 c0 l0 (4 * (k : Int)) (by omega) (by have := L0.out; omega) HC0.out
      have HR11 := Aside0.mk (Kd.C_below (Kd.C_of_reads (h1 := fun _ => rfl) (hA11 _ (Kd.reads_of_C HR0.out))) HB.out)
      have HC11 := Aside0.mk hC11
      have e4 : (4 * (k : Int)).toNat = 4 * k := by omega
      rw [e4] at HR11 HC11 hcut11
      replace HR11 : Aside0 (Kd.C (Kd.int .u8) wr A11 (l0.drop (4 * k)).length (l0.drop (4 * k))) := HR11
      have H4 := Aside0.mk (show 4 ≤ (l0.drop (4 * k)).length by have := L0.out; simp; omega)
      have HN := Aside0.mk (show (l0.drop (4 * k)).length = l0.length - 4 * k by simp)
      clear hA11 hC11 hi011 hsz11 e4
      obtain ⟨hx, hf⟩ := Kd.R_celln 0 HS.out (4 + (k : Int)) (by omega) (by omega)
      have hP := Aside0.mk (Kd.R_putg HS.out (4 + (k : Int)) (wd (l0.drop (4 * k))))
      have e5 : (4 + (k : Int)).toNat = 4 + k := by omega
      rw [e5] at hx hf hP
      clear e5
      go_wp2_with (first | (go_at_call 96; (with_reducible refine (word_at _ _ _ _ _ HN.out HR11.out HC11.out H4.out).mono ?_); rintro e w' ⟨rfl, ⟨nd2, rfl⟩⟩) | ((with_reducible refine gate_store (t := 23) (p := 31) rfl ?_); refine store_event (t := 23) (p := 31) (v := ?vo31) (w1 := ((wr.drewN nd2).setCell ⟨gs, 4 + k, none⟩ (.int .u32 (wd (l0.drop (4 * k)))))) ?hg ?ho ?hn ?hr ?_; (case ho => rfl); (case hg => rfl); (case hn => rfl); (case hr => first | (go_simp; done) | (go_simp; rfl)); intro w4 hw; have HS4 := Aside0.mk (show Kd.R (Kd.int .u32) 119 w4 w.heap.size (fun _ => True) (.slice (some ⟨gs, 0, none⟩) 16 16) (ldw l0 4 (k + 1) stIni) by rw [hw]; exact (Kd.R_drewN hP.out.1 nd2)); have HB4 := Aside0.mk (show Below w.heap.size w w4 by rw [hw]; exact pw_below_drewN (HB.out.grown hP.out.2 HB.out.size (fun k hk => by cases hk; exact GS.out)) nd2); clear hw))
      exact ⟨⟨k + 1, by omega, rfl, HS4, HB4⟩, by simp [intOf]; omega⟩
    · obtain rfl : k = 8 := by omega
      rw [show ((8 : Nat) : Int) = 8 from rfl]
      clear hk hlt
      obtain ⟨hx, hf⟩ := Kd.R_celln 0 HS.out 12 (by omega) (by omega)
      have hP := Aside0.mk (Kd.R_putg HS.out 12 a1)
      change wr.cell? ⟨gs, 12, none⟩ = _ at hx
      change wr.frozen? ⟨gs, 12, none⟩ = _ at hf
      go_wp2_with (first | ((with_reducible refine gate_store (t := 23) (p := 34) rfl ?_); refine store_event (t := 23) (p := 34) (v := ?vo34) (w1 := (wr.setCell ⟨gs, 12, none⟩ (.int .u32 a1))) ?hg ?ho ?hn ?hr ?_; (case ho => rfl); (case hg => rfl); (case hn => rfl); (case hr => first | (go_simp; done) | (go_simp; rfl)); intro w4 hw; have HS4 := Aside0.mk (show Kd.R (Kd.int .u32) 119 w4 w.heap.size (fun _ => True) (.slice (some ⟨gs, 0, none⟩) 16 16) ((ldw l0 4 8 stIni).set 12 a1) by rw [hw]; exact hP.out.1); have HB4 := Aside0.mk (show Below w.heap.size w w4 by rw [hw]; exact HB.out.grown hP.out.2 HB.out.size (fun k hk => by cases hk; exact GS.out)); clear hw))
      clear HS HB hx hf hP
      have HS := HS4
      have HB := HB4
      clear HS4 HB4
      go_loopw [35] (fun i wr => ∃ k : Nat, k ≤ 3 ∧ i = .int .i64 k ∧ Aside0 (Kd.R (Kd.int .u32) 119 wr w.heap.size (fun _ => True) (.slice (some ⟨gs, 0, none⟩) 16 16) (ldw l2 13 k ((ldw l0 4 8 stIni).set 12 a1))) ∧ Aside0 (Below w.heap.size w wr)) (fun i _ => 3 - (intOf i).toNat)
      case atStart => exact ⟨0, by omega, rfl, HS, HB⟩
      case round =>
        clear HS HB
        obtain ⟨k, hk, rfl, HS, HB⟩ := hrel
        by_cases hlt : k < 3
        · obtain ⟨i011, hi011, _, hsz11, _⟩ := info_parts info5
          obtain ⟨A11, hcut11, hA11, hC11⟩ := print_drop_of (P := Try.prog) (Value.int .u8) 0 22 5 .i64 Try.underlying22 hi011 hsz11 A2 c2 l2 (4 * (k : Int)) (by omega) (by have := L2.out; omega) HC2.out
          have HR11 := Aside0.mk (Kd.C_below (Kd.C_of_reads (h1 := fun _ => rfl) (hA11 _ (Kd.reads_of_C HR2.out))) HB.out)
          have HC11 := Aside0.mk hC11
          have e4 : (4 * (k : Int)).toNat = 4 * k := by omega
          rw [e4] at HR11 HC11 hcut11
          replace HR11 : Aside0 (Kd.C (Kd.int .u8) wr A11 (l2.drop (4 * k)).length (l2.drop (4 * k))) := HR11
          have H4 := Aside0.mk (show 4 ≤ (l2.drop (4 * k)).length by have := L2.out; simp; omega)
          have HN := Aside0.mk (show (l2.drop (4 * k)).length = l2.length - 4 * k by simp)
          clear hA11 hC11 hi011 hsz11 e4
          obtain ⟨hx, hf⟩ := Kd.R_celln 0 HS.out (13 + (k : Int)) (by omega) (by omega)
          have hP := Aside0.mk (Kd.R_putg HS.out (13 + (k : Int)) (wd (l2.drop (4 * k))))
          have e5 : (13 + (k : Int)).toNat = 13 + k := by omega
          rw [e5] at hx hf hP
          clear e5
          go_wp2_with (first | (go_at_call 96; (with_reducible refine (word_at _ _ _ _ _ HN.out HR11.out HC11.out H4.out).mono ?_); rintro e w' ⟨rfl, ⟨nd2, rfl⟩⟩) | ((with_reducible refine gate_store (t := 23) (p := 45) rfl ?_); refine store_event (t := 23) (p := 45) (v := ?vo45) (w1 := ((wr.drewN nd2).setCell ⟨gs, 13 + k, none⟩ (.int .u32 (wd (l2.drop (4 * k)))))) ?hg ?ho ?hn ?hr ?_; (case ho => rfl); (case hg => rfl); (case hn => rfl); (case hr => first | (go_simp; done) | (go_simp; rfl)); intro w4 hw; have HS4 := Aside0.mk (show Kd.R (Kd.int .u32) 119 w4 w.heap.size (fun _ => True) (.slice (some ⟨gs, 0, none⟩) 16 16) (ldw l2 13 (k + 1) ((ldw l0 4 8 stIni).set 12 a1)) by rw [hw]; exact (Kd.R_drewN hP.out.1 nd2)); have HB4 := Aside0.mk (show Below w.heap.size w w4 by rw [hw]; exact pw_below_drewN (HB.out.grown hP.out.2 HB.out.size (fun k hk => by cases hk; exact GS.out)) nd2); clear hw))
          exact ⟨⟨k + 1, by omega, rfl, HS4, HB4⟩, by simp [intOf]; omega⟩
        · obtain rfl : k = 3 := by omega
          rw [show ((3 : Nat) : Int) = 3 from rfl]
          clear hk hlt
          replace HS : Aside0 (Kd.R (Kd.int .u32) 119 wr w.heap.size (fun _ => True) (.slice (some ⟨gs, 0, none⟩) 16 16) (st0 l0 a1 l2)) := HS
          clear L0 L2 HR0 HC0 HR2 HC2 HH
          obtain ⟨hl16, hh16⟩ := R_heap16 HS.out
          have BX16 := Aside0.mk hh16
          have GL := Aside0.mk (blk_lt hh16)
          clear hl16 hh16
          go_wp2_with (first | ((with_reducible refine gate_dst (N := 47) rfl ?_); refine wpList_load_row rfl 119 _ rfl gs rfl 119 (nums .u32 (st0 l0 a1 l2)).toArray (0, 0) _ BX16.out Try.underlying119 rfl (info119L _ (st0_len _ _ _)) ?_) | ((with_reducible refine gate_dst (N := 11) rfl ?_); refine box_event ?hg (N := 11) ?hd (cs := (nums .u32 (List.replicate 16 0)).toArray) (t := 119) ?hr ?_; (case hd => rfl); (case hg => rfl); (case hr => first | (go_simp; done) | (go_simp; rfl)); intro gw hgw w5 hbox hb5; have GW := Aside0.mk (show w.heap.size ≤ gw from Nat.le_trans HB.out.size (Nat.le_of_eq hgw.symm)); have NE := Aside0.mk (show (some gw : Option Nat) ≠ some gs by have := GL.out; rw [hgw]; intro e; injection e with e; omega); have HB5 := Aside0.mk (below_then HB.out HB.out.size hb5); have HS5 := Aside0.mk (Kd.R_below HS.out hb5); clear hgw hb5; have BX := Aside0.mk hbox; clear hbox) | ((with_reducible refine gate_store (t := 119) (p := 11) rfl ?_); refine arr_store rfl 119 _ _ rfl rfl gw (nums .u32 (st0 l0 a1 l2)).toArray rfl rfl 119 _ BX.out (info119L _ (st0_len _ _ _)) (by simp [nums, st0_len]) (nums_one _ _) ?_; intro w6 hh6 hg6; have HW := Aside0.mk hh6; have HS6 := Aside0.mk (Kd.R_grown1 HS5.out rfl hg6 NE.out); have HB6 := Aside0.mk (HB5.out.grown hg6 HB5.out.size (fun k hk => by cases hk; exact GW.out)); clear hh6 hg6 BX))
          clear HS HB HS5 HB5 BX16 GL
          have HS := HS6
          have HB := HB6
          clear HS6 HB6
          replace HS : Aside0 (Kd.R (Kd.int .u32) 119 w6 w.heap.size (fun _ => True) (.slice (some ⟨gs, 0, none⟩) 16 16) (rounds 0 (st0 l0 a1 l2))) := HS
          go_loopw [48] (fun i wr => ∃ n : Nat, n ≤ 10 ∧ i = .int .i64 n ∧ Aside0 (Kd.R (Kd.int .u32) 119 wr w.heap.size (fun _ => True) (.slice (some ⟨gs, 0, none⟩) 16 16) (rounds n (st0 l0 a1 l2))) ∧ Aside0 (wr.heap[gw]? = some (.cells (nums .u32 (st0 l0 a1 l2)).toArray 119 (0, 0))) ∧ Aside0 (Below w.heap.size w wr)) (fun i _ => 10 - (intOf i).toNat)
          case atStart => exact ⟨0, by omega, rfl, HS, HW, HB⟩
          case round =>
            clear HS HW HB
            obtain ⟨n, hn, rfl, HS, HW, HB⟩ := hrel
            by_cases hlt : n < 10
            · have hd : decide ((n : Int) < 10) = true := decide_eq_true (by omega)
              go_wp2
              go_loopw [50] (fun i wr => ∃ k : Nat, k ≤ 4 ∧ i = .int .i64 k ∧ Aside0 (Kd.R (Kd.int .u32) 119 wr w.heap.size (fun _ => True) (.slice (some ⟨gs, 0, none⟩) 16 16) (dr1 k (rounds n (st0 l0 a1 l2)))) ∧ Aside0 (wr.heap[gw]? = some (.cells (nums .u32 (st0 l0 a1 l2)).toArray 119 (0, 0))) ∧ Aside0 (Below w.heap.size w wr)) (fun i _ => 4 - (intOf i).toNat)
              case atStart => exact ⟨0, by omega, rfl, HS, HW, HB⟩
              case round =>
                clear HS HW HB
                obtain ⟨k, hk, rfl, HS, HW, HB⟩ := hrel
                by_cases hlt4 : k < 4
                · have HL := Aside0.mk (Kd.R_reads' HS.out).1.symm
                  go_wp2_with (go_at_call 97; (with_reducible refine (quarter_walk gs 16 w.heap.size (fun _ => True) _ _ _ _ _ _ HL.out ?s1 ?s2 ?s3 ?s4 ?s5 ?s6 ?s7 ?s8 HS.out).mono ?_); (case s1 => omega); (case s2 => omega); (case s3 => omega); (case s4 => omega); (case s5 => omega); (case s6 => omega); (case s7 => omega); (case s8 => omega); rintro e w7 ⟨rfl, hr7, hg7⟩; have HS7 := Aside0.mk hr7; have HW7 := Aside0.mk (blk_far HW.out hg7 (fun e => NE.out e.symm)); have HB7 := Aside0.mk (HB.out.grown hg7 HB.out.size (fun k hk => by cases hk; exact GS.out)); clear hr7 hg7)
                  exact ⟨⟨k + 1, by omega, rfl, HS7, HW7, HB7⟩, by simp [intOf]; omega⟩
                · obtain rfl : k = 4 := by omega
                  rw [show ((4 : Nat) : Int) = 4 from rfl]
                  clear hk hlt4
                  go_wp2
                  go_loopw [62] (fun i wr => ∃ k : Nat, k ≤ 4 ∧ i = .int .i64 k ∧ Aside0 (Kd.R (Kd.int .u32) 119 wr w.heap.size (fun _ => True) (.slice (some ⟨gs, 0, none⟩) 16 16) (dr2 k (dr1 4 (rounds n (st0 l0 a1 l2))))) ∧ Aside0 (wr.heap[gw]? = some (.cells (nums .u32 (st0 l0 a1 l2)).toArray 119 (0, 0))) ∧ Aside0 (Below w.heap.size w wr)) (fun i _ => 4 - (intOf i).toNat)
                  case atStart => exact ⟨0, by omega, rfl, HS, HW, HB⟩
                  case round =>
                    clear HS HW HB
                    obtain ⟨k, hk, rfl, HS, HW, HB⟩ := hrel
                    by_cases hlt4 : k < 4
                    · have HL := Aside0.mk (Kd.R_reads' HS.out).1.symm
                      go_wp2_with (go_at_call 97; (with_reducible refine (quarter_walk gs 16 w.heap.size (fun _ => True) _ _ _ _ _ _ HL.out ?s1 ?s2 ?s3 ?s4 ?s5 ?s6 ?s7 ?s8 HS.out).mono ?_); (case s1 => omega); (case s2 => omega); (case s3 => omega); (case s4 => omega); (case s5 => omega); (case s6 => omega); (case s7 => omega); (case s8 => omega); rintro e w7 ⟨rfl, hr7, hg7⟩; have HS7 := Aside0.mk hr7; have HW7 := Aside0.mk (blk_far HW.out hg7 (fun e => NE.out e.symm)); have HB7 := Aside0.mk (HB.out.grown hg7 HB.out.size (fun k hk => by cases hk; exact GS.out)); clear hr7 hg7)
                      exact ⟨⟨k + 1, by omega, rfl, HS7, HW7, HB7⟩, by simp [intOf]; omega⟩
                    · obtain rfl : k = 4 := by omega
                      rw [show ((4 : Nat) : Int) = 4 from rfl]
                      clear hk hlt4
                      go_wp2
                      exact ⟨⟨n + 1, by omega, rfl, HS, HW, HB⟩, by simp [intOf]; omega⟩
            · obtain rfl : n = 10 := by omega
              rw [show ((10 : Nat) : Int) = 10 from rfl]
              clear hn hlt
              obtain ⟨hl16, hh16⟩ := R_heap16 HS.out
              have BX16 := Aside0.mk hh16
              clear hl16 hh16
              have HLF := Aside0.mk (show (rounds 10 (st0 l0 a1 l2)).length = 16 by rw [rounds_len, st0_len])
              go_wp2_with ((with_reducible refine gate_dst (N := 81) rfl ?_); refine wpList_load_row rfl 119 _ rfl gs rfl 119 (nums .u32 (rounds 10 (st0 l0 a1 l2))).toArray (0, 0) _ BX16.out Try.underlying119 rfl (info119L _ HLF.out) ?_)
              clear BX16 HS
              have HO := Aside0.mk (Kd.R_nil (Kd.int .u8) 5 wr w.heap.size (fun _ => True))
              go_loopw [14, 82] (fun v i wr => ∃ k : Nat, k ≤ 16 ∧ i = .int .i64 k ∧ Aside0 (Kd.R (Kd.int .u8) 5 wr w.heap.size (fun _ => True) v (outw (rounds 10 (st0 l0 a1 l2)) (st0 l0 a1 l2) k)) ∧ Aside0 (wr.heap[gw]? = some (.cells (nums .u32 (st0 l0 a1 l2)).toArray 119 (0, 0))) ∧ Aside0 (Below w.heap.size w wr)) (fun _ i _ => 16 - (intOf i).toNat)
              case atStart => exact ⟨0, by omega, rfl, HO, HW, HB⟩
              case round =>
                clear HO HW HB
                obtain ⟨k, hk, rfl, HO, HW, HB⟩ := hrel
                by_cases hlt : k < 16
                · have hidx := fun W => run_index119 (rounds 10 (st0 l0 a1 l2)) HLF.out k hlt W
                  have hx : wr.cell? ⟨gw, k, none⟩ = some (.int .u32 (rd (st0 l0 a1 l2) (k : Int))) := by rw [cell_of_row _ _ _ _ _ _ HW.out]; simp [nums, rd, List.getElem?_eq_getElem (show k < (st0 l0 a1 l2).length by rw [st0_len]; exact hlt), List.getD_eq_getElem?_getD]
                  have HX := Aside0.mk (b4_spelt (rd (rounds 10 (st0 l0 a1 l2)) k) (rd (st0 l0 a1 l2) k))
                  have HOL := Aside0.mk (outw_len (rounds 10 (st0 l0 a1 l2)) (st0 l0 a1 l2) k)
                  go_wp2_with (first | ((with_reducible refine gate_dst (N := 103) rfl ?_); refine Kd.R_lit (Kd.int .u8) w.heap.size 5 ?hg (N := 103) ?hd (xs := [(rd (rounds 10 (st0 l0 a1 l2)) k + rd (st0 l0 a1 l2) k) % 256, (rd (rounds 10 (st0 l0 a1 l2)) k + rd (st0 l0 a1 l2) k) % 4294967296 / 256 % 256, (rd (rounds 10 (st0 l0 a1 l2)) k + rd (st0 l0 a1 l2) k) % 4294967296 / 65536 % 256, (rd (rounds 10 (st0 l0 a1 l2)) k + rd (st0 l0 a1 l2) k) % 4294967296 / 16777216]) (inner := _) (ok := fun _ => True) (okp := fun _ => True) ?hr (reps4 _ _ _ _ _ _ _) (fun _ hk => hk) trivial HB.out HB.out.size (by simp) ?_; (case hd => rfl); (case hg => rfl); (case hr => first | (go_simp; done) | (go_simp; rfl)); intro v9 w9 ho9 hb9 hg9 hnew9; rw [HX.out] at ho9; have HO9 := Aside0.mk (Kd.R_grown2 HO.out rfl hg9 (fun _ e => by cases e)); have HW9 := Aside0.mk (blk_far HW.out hg9 (by simp)); have HB9 := Aside0.mk hb9; obtain ⟨A9, c9, e9, hc9, hr9⟩ := Kd.R_reads ho9; have HR9 := Aside0.mk hr9; clear ho9 hb9 hg9 hnew9 hc9 hr9; subst e9; clear hidx hx) | ((with_reducible refine gate_builtin (b := .append) (xs := #[.tmp 91, .tmp 103]) rfl ?_); at_builtin; refine Kd.R_append_rows (Kd.int .u8) (w0 := w) w.heap.size rfl (.tmp 91) (.tmp 103) 22 5 (.int .u8 0) 1 rfl Try.underlying22 info5 rfl (by decide) (by omega) _ (outw (rounds 10 (st0 l0 a1 l2)) (st0 l0 a1 l2) k) (b4 ((rd (rounds 10 (st0 l0 a1 l2)) k + rd (st0 l0 a1 l2) k) % 4294967296)) _ _ _ (fun _ => True) (fun _ => False) rfl rfl HO9.out HR9.out (fun _ _ h => h) (fun _ h => h.elim) (fun _ _ => trivial) HB9.out HB9.out.size ?aL ?_; (case aL => have := HOL.out; simp [b4]; omega); intro v11 w11 ho hb hg hat; have HO11 := Aside0.mk (show Kd.R (Kd.int .u8) 5 w11 w.heap.size (fun _ => True) v11 (outw (rounds 10 (st0 l0 a1 l2)) (st0 l0 a1 l2) (k + 1)) from ho); have HB11 := Aside0.mk hb; have HW11 := Aside0.mk (blk_far HW9.out hg (fun e => Kd.R_ne HO9.out HW9.out (by decide) e.symm)); clear ho hb hg hat))
                  exact ⟨⟨k + 1, by omega, rfl, HO11, HW11, HB11⟩, by simp [intOf]; omega⟩
                · obtain rfl : k = 16 := by omega
                  rw [show ((16 : Nat) : Int) = 16 from rfl]
                  clear hk hlt
                  go_wp2
                  go_ret2
                  exact ⟨_, rfl, HO.out, HB.out⟩
/-- What the call answers: the block, or the refusal. -/
def stream_Block.f (_k : Nat) (l0 : List Int) (a1 : Int) (l2 : List Int) : Option (List Int × Int) := (stream_wrong.f l0 l2).bind fun t => if t = true then some ([], 1) else some (blk l0 a1 l2, 0)
theorem stream_Block.mono : ∀ a0 a1 a2 k, LeO (stream_Block.f k a0 a1 a2) (stream_Block.f (k + 1) a0 a1 a2) := fun _ _ _ _ => LeO.refl _
theorem stream_Block.calls (k : Nat) (A0 : Option Addr) (c0 : Nat) (l0 : List Int) (a1 : Int) (A2 : Option Addr) (c2 : Nat) (l2 : List Int) (r1 : List Int) (r2 : Int) (w : World) (hr0 : Kd.C (Kd.int .u8) w A0 l0.length l0) (hc0 : l0.length ≤ c0) (hr2 : Kd.C (Kd.int .u8) w A2 l2.length l2) (hc2 : l2.length ≤ c2) (h : stream_Block.f k l0 a1 l2 = some (r1, r2)) :
    Calls Try.prog 29 #[.slice A0 l0.length c0, .int .u32 a1, .slice A2 l2.length c2] w fun e w' => ∃ v0_ : Value, e = .returned (.tuple #[v0_, .int .i64 r2]) ∧ Kd.R (Kd.int .u8) 5 w' w.heap.size (fun _ => True) v0_ r1 ∧ Below w.heap.size w w' := by
  unfold stream_Block.f at h
  obtain ⟨t, ht, h⟩ := Option.bind_eq_some_iff.mp h
  cases t with
  | true =>
    rw [if_pos rfl] at h
    simp only [Option.some.injEq, Prod.mk.injEq] at h
    obtain ⟨rfl, rfl⟩ := h
    exact (block_bad A0 c0 l0 a1 A2 c2 l2 w hr0 hc0 hr2 hc2 ht).mono fun e w' ⟨he, hb⟩ => ⟨_, he, Kd.R_nil _ _ _ _ _, hb⟩
  | false =>
    rw [if_neg (by simp)] at h
    simp only [Option.some.injEq, Prod.mk.injEq] at h
    obtain ⟨rfl, rfl⟩ := h
    exact block_good A0 c0 l0 a1 A2 c2 l2 w hr0 hc0 hr2 hc2 ht
end Go.Proofs.Yteejcpbngnojkaa.P
