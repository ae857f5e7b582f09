/- Bytes with the stream: the program's and the document's agree. -/
import Derived.Test.YteejcpbngnojkaaS4
import Derived.Test.YteejcpbngnojkaaF4
namespace Go.Proofs.Yteejcpbngnojkaa.Pure
open Go.RowKit Go.Proofs.Yteejcpbngnojkaa.P Go.Proofs.YteejcpbngnojkaaW.PrintWords Go.Proofs.YteejcpbngnojkaaW.PrintLast

theorem StreamXors : sacristylaw05_StreamXors.Pure := by
  intro l0 a1 l2 l3 _ _ b0 h1 _ _ b2 m3 n3 b3
  have B0 := bytes8_of_wf b0
  have B2 := bytes8_of_wf b2
  have hb : l3.length ≤ 140737488351232 := by omega
  obtain ⟨K1, e1⟩ := lives05_ev
  dsimp only at e1
  by_cases hbig : (l3.length : Int) > 1000
  · refine ⟨K1 + 1, ?_⟩
    unfold sacristylaw05_StreamXors.f
    rw [e1 _ (by omega), decide_eq_true hbig]
    simp [sacristylaw05_StreamXors.j0, e1 K1 (Nat.le_refl _)]
  · by_cases hg : l0.length = 32 ∧ l2.length = 12
    · obtain ⟨K2, e2⟩ := xor_some hg.1 hg.2 hb (u32_of_wf h1)
      dsimp only at e2
      obtain ⟨K3, e3⟩ := refxor_some (c := a1) hg.1 hg.2 hb B0 B2
      dsimp only at e3
      refine ⟨max K1 (max K2 K3) + 1, ?_⟩
      unfold sacristylaw05_StreamXors.f
      rw [e1 _ (by omega), decide_eq_false hbig]
      simp only [Option.bind_some, sacristylaw05_StreamXors.j0]
      rw [if_pos trivial, if_neg (by simp), if_pos (by simp; omega)]
      simp only [List.nil_append]
      rw [e2 _ (by omega), e3 _ (by omega), right_good hg.1 hg.2]
      simp
    · refine ⟨K1 + 1, ?_⟩
      unfold sacristylaw05_StreamXors.f
      rw [e1 _ (by omega), decide_eq_false hbig]
      simp only [Option.bind_some, sacristylaw05_StreamXors.j0]
      rw [if_pos trivial, if_neg (by simp), if_pos (by simp; omega)]
      simp only [List.nil_append]
      rw [xor_no _ _ _ hg, right_bad hg]
      simp

end Go.Proofs.Yteejcpbngnojkaa.Pure
