/- One block: the program's and the document's agree. -/
import Derived.Test.YteejcpbngnojkaaS4
import Derived.Test.YteejcpbngnojkaaF3
namespace Go.Proofs.Yteejcpbngnojkaa.Pure
open Go.RowKit Go.Proofs.Yteejcpbngnojkaa.P Go.Proofs.YteejcpbngnojkaaW.PrintWords Go.Proofs.YteejcpbngnojkaaW.PrintLast

theorem StreamBlocks : sacristylaw05_StreamBlocks.Pure := by
  intro l0 a1 l2 _ _ b0 _ _ _ b2
  have B0 := bytes8_of_wf b0
  have B2 := bytes8_of_wf b2
  obtain ⟨K1, e1⟩ := lives05_ev
  dsimp only at e1
  by_cases hg : l0.length = 32 ∧ l2.length = 12
  · obtain ⟨K2, e2⟩ := refblock l0 l2 a1 hg.1 hg.2 B0 B2
    dsimp only at e2
    refine ⟨max K1 K2, ?_⟩
    unfold sacristylaw05_StreamBlocks.f
    rw [e1 _ (Nat.le_max_left ..), e2 _ (Nat.le_max_right ..), block_some _ _ hg.1 hg.2, right_good hg.1 hg.2]
    simp
  · refine ⟨K1, ?_⟩
    unfold sacristylaw05_StreamBlocks.f
    rw [e1 _ (Nat.le_refl _), block_no _ _ hg, right_bad hg]
    simp

end Go.Proofs.Yteejcpbngnojkaa.Pure
