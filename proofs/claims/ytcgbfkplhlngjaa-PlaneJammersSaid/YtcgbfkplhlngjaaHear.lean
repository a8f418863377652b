/- What plane.Hears computes, and that its call comes to just that: at every list of places and every radius. -/
import Derived.Test.YtcgbfkplhlngjaaHearC
namespace Go.Proofs.Ytcgbfkplhlngjaa.PA
open Go.RowKit Go.Shelf Go.Proofs.YtcgbfkplhlngjaaW.PrintWords Go.Proofs.YtcgbfkplhlngjaaW.PrintLast Go.Proofs.YtcgbfkplhlngjaaW.PrintMore
set_option linter.unusedVariables false
set_option linter.unusedSimpArgs false

def plane_Hears.f (k : Nat) (l0 : List (S25)) (a1 : Int) : Option ((List (List Bool)) × Int) := if placesB l0 a1 = true then some (hearsT l0 a1, 0) else some ([], 1)
theorem plane_Hears.mono : ∀ a0 a1 k, LeO (plane_Hears.f k a0 a1) (plane_Hears.f (k + 1) a0 a1) := fun _ _ _ => LeO.refl _
theorem nil_res {P : Ending → World → Prop} {w : World} {f : Nat} {args : Array Value} (h : Calls Try.prog f args w fun e w' => e = .returned (.tuple #[.slice none 0 0, .int .i64 1]) ∧ Below w.heap.size w w') :
    Calls Try.prog f args w fun e w' => ∃ v0_ : Value, e = .returned (.tuple #[v0_, .int .i64 1]) ∧ Kd.S (Kd.slice 4 Kd.bool) 36 w' w.heap.size (fun _ => True) v0_ [] ∧ Below w.heap.size w w' :=
  h.mono fun e w' ⟨he, hb⟩ => ⟨_, he, Kd.S_nil _ _ _ _ _, hb⟩
theorem plane_Hears.calls (k : Nat) (A0 : Option Addr) (c0 : Nat) (l0 : List (S25)) (a1 : Int) (r1 : List (List Bool)) (r2 : Int) (w : World) (hr0 : Kd.C k25 w A0 l0.length l0) (hc0 : l0.length ≤ c0) (h : plane_Hears.f k l0 a1 = some (r1, r2)) :
    Calls Try.prog 18 #[.slice A0 l0.length c0, .int .i64 a1] w fun e w' => ∃ v0_ : Value, e = .returned (.tuple #[v0_, .int .i64 r2]) ∧ Kd.S (Kd.slice 4 Kd.bool) 36 w' w.heap.size (fun _ => True) v0_ r1 ∧ Below w.heap.size w w' := by
  unfold plane_Hears.f at h
  by_cases hp : placesB l0 a1 = true
  · rw [if_pos hp] at h
    obtain ⟨rfl, rfl⟩ := Prod.mk.inj (Option.some.inj h)
    simp only [placesB, Bool.and_eq_true, decide_eq_true_eq] at hp
    refine (hears_yes A0 c0 l0 a1 w hr0 hc0 (by omega) hp.1.2 (by rw [bad_all, hp.2]; rfl)).mono ?_
    rintro e w' ⟨⟨v, he, hS⟩, hb⟩
    exact ⟨v, he, hS, hb⟩
  · rw [if_neg hp] at h
    obtain ⟨rfl, rfl⟩ := Prod.mk.inj (Option.some.inj h)
    apply nil_res (P := fun _ _ => True)
    by_cases h1 : 60 < l0.length
    · exact hears_long A0 c0 l0 a1 w hr0 h1
    · cases h2 : radB a1
      · exact hears_rad A0 c0 l0 a1 w hr0 h1 h2
      · cases h3 : l0.all vldB
        · exact hears_bad A0 c0 l0 a1 w hr0 hc0 h1 h2 (by rw [bad_all, h3]; rfl)
        · refine absurd ?_ hp
          simp only [placesB, Bool.and_eq_true, decide_eq_true_eq]
          exact ⟨⟨by omega, h2⟩, h3⟩
end Go.Proofs.Ytcgbfkplhlngjaa.PA
