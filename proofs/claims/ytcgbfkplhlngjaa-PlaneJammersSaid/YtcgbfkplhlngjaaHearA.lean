/- plane.Hears at places or a radius that are not valid: nil and ErrArg. -/
import Derived.Test.YtcgbfkplhlngjaaPairs
import Derived.Test.YtcgbfkplhlngjaaHeld
import Derived.Laws.MakeOwn
namespace Go.Proofs.Ytcgbfkplhlngjaa.PA
open Go.RowKit Go.Shelf Go.Proofs.YtcgbfkplhlngjaaW.PrintWords Go.Proofs.YtcgbfkplhlngjaaW.PrintLast Go.Proofs.YtcgbfkplhlngjaaW.PrintMore
set_option linter.unusedVariables false
set_option linter.unusedSimpArgs false

theorem in_any (n : Int) (w : World) : Calls Try.prog 35 #[.int .i64 n, .int .i64 20000] w fun e w' => e = .returned (.bool (radB n)) ∧ Drawn0 w w' := plane_in.calls _ _ _ w (in_f n 20000)
theorem bad_all {l : List S25} : (l.any badB) = !l.all vldB := by
  induction l with
  | nil => rfl
  | cons x l ih => simp [List.any_cons, List.all_cons, ih, badB]

set_option maxHeartbeats 2000000 in
theorem hears_long (A0 : Option Addr) (c0 : Nat) (l0 : List S25) (a1 : Int) (w : World) (hr0 : Kd.C k25 w A0 l0.length l0) (hlong : 60 < l0.length) :
    Calls Try.prog 18 #[.slice A0 l0.length c0, .int .i64 a1] w fun e w' => e = .returned (.tuple #[.slice none 0 0, .int .i64 1]) ∧ Below w.heap.size w w' := by
  have hz : (60 : Int) < (l0.length : Int) := by omega
  go_enter Try.func18, Try.ntmps18
  go_wp2
  go_ret2
  exact ⟨rfl, below_alloc (below_alloc (Below.refl _ _) _) _⟩

set_option maxHeartbeats 2000000 in
theorem hears_rad (A0 : Option Addr) (c0 : Nat) (l0 : List S25) (a1 : Int) (w : World) (hr0 : Kd.C k25 w A0 l0.length l0) (hlong : ¬ 60 < l0.length) (hr : radB a1 = false) :
    Calls Try.prog 18 #[.slice A0 l0.length c0, .int .i64 a1] w fun e w' => e = .returned (.tuple #[.slice none 0 0, .int .i64 1]) ∧ Below w.heap.size w w' := by
  have hz : ¬ (60 : Int) < (l0.length : Int) := by omega
  have H := fun w => in_any a1 w
  rw [hr] at H
  clear hr
  go_enter Try.func18, Try.ntmps18
  go_wp2_with (first | (go_at_call 35; refine (H _).mono ?_; rintro e w' ⟨rfl, hb⟩))
  go_ret2
  exact ⟨rfl, below_step (below_alloc (below_alloc (Below.refl _ _) _) _) hb.below⟩

set_option maxHeartbeats 2000000 in
theorem hears_bad (A0 : Option Addr) (c0 : Nat) (l0 : List S25) (a1 : Int) (w : World) (hr0 : Kd.C k25 w A0 l0.length l0) (hc0 : l0.length ≤ c0) (hlong : ¬ 60 < l0.length) (hr : radB a1 = true) (hv : l0.any badB = true) :
    Calls Try.prog 18 #[.slice A0 l0.length c0, .int .i64 a1] w fun e w' => e = .returned (.tuple #[.slice none 0 0, .int .i64 1]) ∧ Below w.heap.size w w' := by
  have hz : ¬ (60 : Int) < (l0.length : Int) := by omega
  have H := fun w => in_any a1 w
  rw [hr] at H
  have H2 := fun w (h : Kd.C k25 w A0 l0.length l0) => containsP_any A0 c0 l0 w h hc0
  rw [hv] at H2
  have HR := Aside0.mk hr0
  clear hr hv hr0
  go_enter Try.func18, Try.ntmps18
  go_wp2_with (first | (go_at_call 35; refine (H _).mono ?_; rintro e w' ⟨rfl, hb⟩; obtain ⟨nq, rfl⟩ := hb.out; clear hb) | (go_at_call 36; refine (H2 _ (Kd.C_below HR.out ((below_alloc (below_alloc (Below.refl _ _) _) _).trans (pw_below_drewN (Below.refl _ _) _)))).mono ?_; rintro e w' ⟨rfl, hb2⟩))
  go_ret2
  exact ⟨rfl, below_step (pw_below_drewN (below_alloc (below_alloc (Below.refl _ _) _) _) _) hb2⟩
end Go.Proofs.Ytcgbfkplhlngjaa.PA
