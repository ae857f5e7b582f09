/- The bytes may be taken in two parts. -/
import Derived.Test.YteejcpbngnojkaaS4
import Derived.Test.YteejcpbngnojkaaF6
namespace Go.Proofs.Yteejcpbngnojkaa.Pure
open Go.RowKit Go.Proofs.Yteejcpbngnojkaa.P Go.Proofs.YteejcpbngnojkaaW.PrintWords Go.Proofs.YteejcpbngnojkaaW.PrintLast

theorem StreamParts : sacristylaw05_StreamParts.Pure := by
  intro l0 a1 l2 l3 _ _ b0 h1 _ _ b2 m3 n3 b3
  have hb : l3.length ≤ 140737488351232 := by omega
  obtain ⟨K1, e1⟩ := lives05_ev
  dsimp only at e1
  have skip : sacristylaw05_StreamParts.j0 (K1 + 1) l0 a1 l2 l3 true = some true := by
    simp [sacristylaw05_StreamParts.j0, e1 K1 (Nat.le_refl _)]
  by_cases hbig : (l3.length : Int) > 3000
  · refine ⟨K1 + 1, ?_⟩
    unfold sacristylaw05_StreamParts.f
    rw [e1 _ (by omega)]
    simp only [Option.bind_some]
    rw [if_pos trivial, if_pos hbig, skip]
  · by_cases hsm : (l3.length : Int) < 64
    · refine ⟨K1 + 1, ?_⟩
      unfold sacristylaw05_StreamParts.f
      rw [e1 _ (by omega)]
      simp only [Option.bind_some]
      rw [if_pos trivial, if_neg hbig, if_pos hsm, skip]
    · by_cases hk : (l0.length : Int) = 32
      · by_cases hn : l2.length = 12
        · have hk' : l0.length = 32 := by omega
          have h64 : 64 ≤ l3.length := by omega
          obtain ⟨K2, e2⟩ := xor_some (b := l3) hk' hn hb (u32_of_wf h1)
          dsimp only at e2
          obtain ⟨K3, e3⟩ := xor_some (b := l3.take 64) hk' hn (by rw [List.length_take]; omega) (u32_of_wf h1)
          dsimp only at e3
          obtain ⟨K4, e4⟩ := xor_some (b := l3.drop 64) (c := (a1 + 1) % 4294967296) hk' hn (by rw [List.length_drop]; omega) (by omega)
          dsimp only at e4
          refine ⟨max (max K1 K2) (max K3 K4) + 1, ?_⟩
          unfold sacristylaw05_StreamParts.f
          rw [e1 _ (by omega)]
          simp only [Option.bind_some]
          rw [if_pos trivial, if_neg hbig, if_neg hsm, if_pos hk]
          simp only [sacristylaw05_StreamParts.j0]
          rw [if_neg (by rw [hn]; decide), e2 _ (by omega)]
          simp only [Option.bind_some]
          rw [if_pos (by omega), e3 _ (by omega)]
          simp only [Option.bind_some]
          rw [e4 _ (by omega)]
          simp only [Option.bind_some]
          rw [if_pos trivial, if_pos trivial, if_pos trivial, if_pos (by rw [xr_len, xr_len, List.length_take, List.length_drop]; omega), ← xr_parts _ _ _ _ h64]
          simp
        · refine ⟨K1 + 1, ?_⟩
          unfold sacristylaw05_StreamParts.f
          rw [e1 _ (by omega)]
          simp only [Option.bind_some]
          have : ¬ (l2.length : Int) = 12 := by omega
          rw [if_pos trivial, if_neg hbig, if_neg hsm, if_pos hk, show ((l2.length : Int) != 12) = true by simp [this], skip]
      · refine ⟨K1 + 1, ?_⟩
        unfold sacristylaw05_StreamParts.f
        rw [e1 _ (by omega)]
        simp only [Option.bind_some]
        rw [if_pos trivial, if_neg hbig, if_neg hsm, if_neg hk, skip]

end Go.Proofs.Yteejcpbngnojkaa.Pure
