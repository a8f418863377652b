/- What slotmeshlaw17_few (function 31) computes, as a Lean function, and that its call comes to just that; made by a program of this session in the manner of the print. -/
import Derived.Test.YtcgbfkplhlngjaaT0
namespace Go.Proofs.Ytcgbfkplhlngjaa.PA
open Go.RowKit Go.Proofs.YtcgbfkplhlngjaaW.PrintWords Go.Proofs.YtcgbfkplhlngjaaW.PrintLast Go.Proofs.YtcgbfkplhlngjaaW.PrintMore
attribute [local go_sem] max2_int min2_int max_two min_two max_three min_three max_four min_four   -- for this text's walks alone
set_option linter.unusedVariables false
set_option linter.unusedSimpArgs false

/-! ### slotmeshlaw17_few: function 31 -/
def slotmeshlaw17_few.f (l0 : List (S50)) (l1 : List (S25)) (l2 : List (S42)) : Option (Bool) := if (l0.length : Int) ≤ 210 then (if (l1.length : Int) ≤ 210 then (some (decide ((l2.length : Int) ≤ 40))) else (some false)) else (some false)
set_option maxHeartbeats 8000000 in
set_option maxRecDepth 100000 in
theorem slotmeshlaw17_few.calls (A0 : Option Addr) (c0 : Nat) (l0 : List (S50)) (A1 : Option Addr) (c1 : Nat) (l1 : List (S25)) (A2 : Option Addr) (c2 : Nat) (l2 : List (S42)) (r : Bool) (w : World) (hr0 : Kd.C k50 w A0 l0.length l0) (hc0 : l0.length ≤ c0) (hr1 : Kd.C k25 w A1 l1.length l1) (hc1 : l1.length ≤ c1) (hr2 : Kd.C k42 w A2 l2.length l2) (hc2 : l2.length ≤ c2) (h : slotmeshlaw17_few.f l0 l1 l2 = some r) :
    Calls Try.prog 31 #[.slice A0 l0.length c0, .slice A1 l1.length c1, .slice A2 l2.length c2] w fun e w' => e = .returned (.bool r) ∧ Drawn0 w w' := by
  have HR0 := Aside0.mk hr0
  have HC0 := Aside0.mk hc0
  clear hr0 hc0
  have HR1 := Aside0.mk hr1
  have HC1 := Aside0.mk hc1
  clear hr1 hc1
  have HR2 := Aside0.mk hr2
  have HC2 := Aside0.mk hc2
  clear hr2 hc2
  have H : (if (l0.length : Int) ≤ 210 then (if (l1.length : Int) ≤ 210 then (some (decide ((l2.length : Int) ≤ 40))) else (some false)) else (some false)) = some r := h
  clear h
  by_cases c4 : (l0.length : Int) ≤ 210
  · rw [if_pos c4] at H
    have c4b0 : decide ((l0.length : Int) ≤ 210) = true := decide_eq_true c4
    have c4b1 : decide (l0.length ≤ 210) = true := decide_eq_true (by omega)
    clear c4
    by_cases c5 : (l1.length : Int) ≤ 210
    · rw [if_pos c5] at H
      have c5b0 : decide ((l1.length : Int) ≤ 210) = true := decide_eq_true c5
      have c5b1 : decide (l1.length ≤ 210) = true := decide_eq_true (by omega)
      clear c5
      obtain rfl := Option.some.inj H
      go_enter Try.func31, Try.ntmps31
      go_wp2
      go_ret
      exact ⟨by first | rfl | (simp; done) | (simp [*]; done), by repeat (first | exact Drawn0.refl _ | apply Drawn0.step)⟩
    · rw [if_neg c5] at H
      have c5b0 : decide ((l1.length : Int) ≤ 210) = false := decide_eq_false c5
      have c5b1 : decide (l1.length ≤ 210) = false := decide_eq_false (by omega)
      clear c5
      obtain rfl := Option.some.inj H
      go_enter Try.func31, Try.ntmps31
      go_wp2
      go_ret
      exact ⟨by first | rfl | (simp; done) | (simp [*]; done), by repeat (first | exact Drawn0.refl _ | apply Drawn0.step)⟩
  · rw [if_neg c4] at H
    have c4b0 : decide ((l0.length : Int) ≤ 210) = false := decide_eq_false c4
    have c4b1 : decide (l0.length ≤ 210) = false := decide_eq_false (by omega)
    clear c4
    obtain rfl := Option.some.inj H
    go_enter Try.func31, Try.ntmps31
    go_wp2
    go_ret
    exact ⟨by first | rfl | (simp; done) | (simp [*]; done), by repeat (first | exact Drawn0.refl _ | apply Drawn0.step)⟩
end Go.Proofs.Ytcgbfkplhlngjaa.PA
