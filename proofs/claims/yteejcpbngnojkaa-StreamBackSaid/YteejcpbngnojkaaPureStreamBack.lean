/- Twice with the stream gives the bytes back, and a changed byte changes one byte. -/
import Derived.Test.YteejcpbngnojkaaS4
import Derived.Test.YteejcpbngnojkaaF5
namespace Go.Proofs.Yteejcpbngnojkaa.Pure
open Go.RowKit Go.Proofs.Yteejcpbngnojkaa.P Go.Proofs.YteejcpbngnojkaaW.PrintWords Go.Proofs.YteejcpbngnojkaaW.PrintLast

theorem wrap64_of (x : Int) (h : 0 ≤ x ∧ x < 9223372036854775808) : wrap64 x = x := by unfold wrap64; omega
theorem u64_len (n : Nat) (h : n ≤ 140737488351232) : IntKind.u64.wrap (n : Int) = (n : Int) := by rw [IntKind.wrap_u64]; omega
theorem u64_any (x : Int) : ∃ n : Nat, IntKind.u64.wrap x = (n : Int) ∧ n < 18446744073709551616 := by
  rw [IntKind.wrap_u64]
  exact ⟨(x % 18446744073709551616).toNat, by omega, by omega⟩
theorem StreamBack : sacristylaw05_StreamBack.Pure := by
  intro l0 a1 l2 l3 a4 a5 _ _ b0 h1 _ _ b2 m3 n3 b3 _ h5
  have B3 := bytes8_of_wf b3
  have hb : l3.length ≤ 140737488351232 := by omega
  obtain ⟨K1, e1⟩ := lives05_ev
  dsimp only at e1
  by_cases hbig : (l3.length : Int) > 3000
  · refine ⟨K1 + 1, ?_⟩
    unfold sacristylaw05_StreamBack.f
    rw [e1 _ (by omega), decide_eq_true hbig]
    simp [sacristylaw05_StreamBack.j0, e1 K1 (Nat.le_refl _)]
  · by_cases hg : l0.length = 32 ∧ l2.length = 12
    · obtain ⟨n, hn, _⟩ := u64_any a4
      by_cases h0 : l3.length = 0
      · obtain ⟨K2, e2⟩ := xor_some (b := l3) hg.1 hg.2 hb (u32_of_wf h1)
        dsimp only at e2
        obtain ⟨K3, e3⟩ := xor_some (b := xr l0 a1 l2 l3) hg.1 hg.2 (by rw [xr_len]; exact hb) (u32_of_wf h1)
        dsimp only at e3
        refine ⟨max K1 (max K2 K3) + 2, ?_⟩
        unfold sacristylaw05_StreamBack.f
        rw [e1 _ (by omega), decide_eq_false hbig]
        simp only [Option.bind_some, sacristylaw05_StreamBack.j0]
        rw [if_pos trivial, if_neg (by simp), e2 _ (by omega)]
        simp only [Option.bind_some]
        rw [if_pos trivial, e3 _ (by omega)]
        simp only [Option.bind_some]
        rw [if_pos trivial, xr_back _ _ _ _ B3, if_pos rfl, xr_len]
        simp only [sacristylaw05_StreamBack.j1]
        rw [if_neg (by simp), if_pos (by omega)]
      · have hi : n % l3.length < l3.length := Nat.mod_lt _ (by omega)
        have hix : wrap64 (Int.tmod (IntKind.u64.wrap a4) (IntKind.u64.wrap (l3.length : Int))) = ((n % l3.length : Nat) : Int) := by
          rw [hn, u64_len _ hb, Int.tmod_eq_emod_of_nonneg (by omega), ← Int.natCast_emod, wrap64_of _ (by omega)]
        obtain ⟨K2, e2⟩ := xor_some (b := l3) hg.1 hg.2 hb (u32_of_wf h1)
        dsimp only at e2
        obtain ⟨K3, e3⟩ := xor_some (b := xr l0 a1 l2 l3) hg.1 hg.2 (by rw [xr_len]; exact hb) (u32_of_wf h1)
        dsimp only at e3
        obtain ⟨K4, e4⟩ := xor_some (b := l3.set (n % l3.length) (Go.bits .xor .u8 (rd l3 ((n % l3.length : Nat) : Int)) a5)) hg.1 hg.2 (by rw [List.length_set]; exact hb) (u32_of_wf h1)
        dsimp only at e4
        refine ⟨max (max K1 K4) (max K2 K3) + 2, ?_⟩
        unfold sacristylaw05_StreamBack.f
        rw [e1 _ (by omega), decide_eq_false hbig]
        simp only [Option.bind_some, sacristylaw05_StreamBack.j0]
        rw [if_pos trivial, if_neg (by simp), e2 _ (by omega)]
        simp only [Option.bind_some]
        rw [if_pos trivial, e3 _ (by omega)]
        simp only [Option.bind_some]
        rw [if_pos trivial, xr_back _ _ _ _ B3, if_pos rfl, xr_len]
        simp only [sacristylaw05_StreamBack.j1, hix, Int.toNat_natCast]
        have hlt : ((n % l3.length : Nat) : Int) < (l3.length : Int) := by omega
        have hnn : (0 : Int) ≤ ((n % l3.length : Nat) : Int) := by omega
        have hz : ¬ (l3.length : Int) = 0 := by omega
        have hlm : ([] : List Int).length + l3.length < 140737488355328 := by simp; omega
        rw [if_neg (by simp), if_neg hz, if_neg (by rw [u64_len _ hb]; exact hz)]
        simp only [Option.bind_some]
        rw [if_pos hlm]
        simp only [List.nil_append]
        rw [if_pos hnn, if_pos hlt, e4 _ (by omega)]
        simp only [Option.bind_some]
        rw [xr_len, if_pos hlt, if_pos trivial, xr_set _ _ _ _ _ _ hi B3 (u8_of_wf h5)]
        simp
    · refine ⟨K1 + 1, ?_⟩
      unfold sacristylaw05_StreamBack.f
      rw [e1 _ (by omega), decide_eq_false hbig]
      simp only [Option.bind_some, sacristylaw05_StreamBack.j0]
      rw [if_pos trivial, if_neg (by simp), xor_no _ _ _ hg]
      simp only [Option.bind_some]
      rw [if_neg (by decide)]
      by_cases hk : (l0.length : Int) = 32
      · rw [if_pos hk]
        have : l2.length ≠ 12 := fun e => hg ⟨by omega, e⟩
        have : ¬ (l2.length : Int) = 12 := by omega
        simp [this]
      · rw [if_neg hk]

end Go.Proofs.Yteejcpbngnojkaa.Pure
