-- WRITTEN BY A PROGRAM OF THIS PROJECT'S OWN (wip/tools/mk.py) over the kit's print; not trusted: Lean checks it.
import Derived.Test.YteejcpbngnojkaaF0
namespace Go.Proofs.Yteejcpbngnojkaa.P
open Go.RowKit Go.Proofs.YteejcpbngnojkaaW.PrintWords Go.Proofs.YteejcpbngnojkaaW.PrintLast Go.Proofs.YteejcpbngnojkaaW.PrintMore
attribute [local go_sem] max2_int min2_int max_two min_two max_three min_three max_four min_four   -- for this text's walks alone
set_option linter.unusedVariables false
set_option linter.unusedSimpArgs false

/-! ### sacristyref05_word: function 98 -/
def sacristyref05_word.f (l0 : List Int) : Option (Int) := if 0 < (l0.length : Int) then (if 1 < (l0.length : Int) then (if 2 < (l0.length : Int) then (if 3 < (l0.length : Int) then (some ((((rd l0 0) % 4294967296) + ((256 * ((((rd l0 1) % 4294967296) + ((256 * ((((rd l0 2) % 4294967296) + ((256 * ((rd l0 3) % 4294967296)) % 4294967296)) % 4294967296)) % 4294967296)) % 4294967296)) % 4294967296)) % 4294967296)) else (none)) else (none)) else (none)) else (none)
set_option maxHeartbeats 8000000 in
set_option maxRecDepth 100000 in
theorem sacristyref05_word.calls (A0 : Option Addr) (c0 : Nat) (l0 : List Int) (r : Int) (w : World) (hr0 : Kd.C (Kd.int .u8) w A0 l0.length l0) (hc0 : l0.length ≤ c0) (h : sacristyref05_word.f l0 = some r) :
    Calls Try.prog 98 #[.slice A0 l0.length c0] w fun e w' => e = .returned (.int .u32 r) ∧ Drawn0 w w' := by
  have HR0 := Aside0.mk hr0
  have HC0 := Aside0.mk hc0
  clear hr0 hc0
  have H : (if 0 < (l0.length : Int) then (if 1 < (l0.length : Int) then (if 2 < (l0.length : Int) then (if 3 < (l0.length : Int) then (some ((((rd l0 0) % 4294967296) + ((256 * ((((rd l0 1) % 4294967296) + ((256 * ((((rd l0 2) % 4294967296) + ((256 * ((rd l0 3) % 4294967296)) % 4294967296)) % 4294967296)) % 4294967296)) % 4294967296)) % 4294967296)) % 4294967296)) else (none)) else (none)) else (none)) else (none)) = some r := h
  clear h
  by_cases c2 : 0 < (l0.length : Int)
  · rw [if_pos c2] at H
    have c2b0 : decide (0 < (l0.length : Int)) = true := decide_eq_true c2
    have c2b1 : decide (0 < l0.length) = true := decide_eq_true (by omega)
    clear c2
    by_cases c3 : 1 < (l0.length : Int)
    · rw [if_pos c3] at H
      have c3b0 : decide (1 < (l0.length : Int)) = true := decide_eq_true c3
      have c3b1 : decide (1 < l0.length) = true := decide_eq_true (by omega)
      clear c3
      by_cases c4 : 2 < (l0.length : Int)
      · rw [if_pos c4] at H
        have c4b0 : decide (2 < (l0.length : Int)) = true := decide_eq_true c4
        have c4b1 : decide (2 < l0.length) = true := decide_eq_true (by omega)
        clear c4
        by_cases c5 : 3 < (l0.length : Int)
        · rw [if_pos c5] at H
          have c5b0 : decide (3 < (l0.length : Int)) = true := decide_eq_true c5
          have c5b1 : decide (3 < l0.length) = true := decide_eq_true (by omega)
          clear c5
          obtain rfl := Option.some.inj H
          have p123 : 0 ≤ (0 : Int) := (by omega)
          have q123 : 0 < (l0.length : Int) := of_decide_eq_true (by first | (with_reducible assumption) | assumption)
          obtain ⟨ad123, e123, hx123_0⟩ := Kd.at_int HR0.out 0 p123 q123
          cases e123
          have qi123 : (0 < l0.length) = True := eq_true (by omega)
          (try rw [show ((0 : Int)).toNat = 0 from rfl] at hx123_0)
          (try rw [Addr.add_zero'] at hx123_0)
          replace p123 := eq_true p123
          replace q123 := eq_true q123
          have p124 : 0 ≤ (1 : Int) := (by omega)
          have q124 : 1 < (l0.length : Int) := of_decide_eq_true (by first | (with_reducible assumption) | assumption)
          obtain ⟨ad124, e124, hx124_0⟩ := Kd.at_int HR0.out 1 p124 q124
          obtain rfl : ad123 = ad124 := (by injection e124)
          (try simp only [show (1 : Int).toNat = 1 from rfl, Nat.reduceMul, Nat.reduceEqDiff, Go.Addr.add, ↓reduceIte] at hx124_0)
          have qi124 : (1 < l0.length) = True := eq_true (by omega)
          (try rw [show ((1 : Int)).toNat = 1 from rfl] at hx124_0)
          replace p124 := eq_true p124
          replace q124 := eq_true q124
          have p125 : 0 ≤ (2 : Int) := (by omega)
          have q125 : 2 < (l0.length : Int) := of_decide_eq_true (by first | (with_reducible assumption) | assumption)
          obtain ⟨ad125, e125, hx125_0⟩ := Kd.at_int HR0.out 2 p125 q125
          obtain rfl : ad123 = ad125 := (by injection e125)
          (try simp only [show (2 : Int).toNat = 2 from rfl, Nat.reduceMul, Nat.reduceEqDiff, Go.Addr.add, ↓reduceIte] at hx125_0)
          have qi125 : (2 < l0.length) = True := eq_true (by omega)
          (try rw [show ((2 : Int)).toNat = 2 from rfl] at hx125_0)
          replace p125 := eq_true p125
          replace q125 := eq_true q125
          have p126 : 0 ≤ (3 : Int) := (by omega)
          have q126 : 3 < (l0.length : Int) := of_decide_eq_true (by first | (with_reducible assumption) | assumption)
          obtain ⟨ad126, e126, hx126_0⟩ := Kd.at_int HR0.out 3 p126 q126
          obtain rfl : ad123 = ad126 := (by injection e126)
          (try simp only [show (3 : Int).toNat = 3 from rfl, Nat.reduceMul, Nat.reduceEqDiff, Go.Addr.add, ↓reduceIte] at hx126_0)
          have qi126 : (3 < l0.length) = True := eq_true (by omega)
          (try rw [show ((3 : Int)).toNat = 3 from rfl] at hx126_0)
          replace p126 := eq_true p126
          replace q126 := eq_true q126
          go_enter Try.func98, Try.ntmps98
          go_wp2
          repeat (go_quiet (fail); try go_wp2)
          go_ret
          exact ⟨by first | rfl | (simp; done) | (simp [*]; done), by repeat (first | exact Drawn0.refl _ | apply Drawn0.step)⟩
        · rw [if_neg c5] at H
          exact absurd H (by simp)
      · rw [if_neg c4] at H
        exact absurd H (by simp)
    · rw [if_neg c3] at H
      exact absurd H (by simp)
  · rw [if_neg c2] at H
    exact absurd H (by simp)

end Go.Proofs.Yteejcpbngnojkaa.P
