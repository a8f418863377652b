/- What medium.Catch computes, and that its call comes to just that: at every list of actions, places and jammers. -/
import Derived.Test.YtcgbfkplhlngjaaCatC
namespace Go.Proofs.Ytcgbfkplhlngjaa.PA
open Go.RowKit Go.Shelf Go.Proofs.YtcgbfkplhlngjaaW.PrintWords Go.Proofs.YtcgbfkplhlngjaaW.PrintLast Go.Proofs.YtcgbfkplhlngjaaW.PrintMore
set_option linter.unusedVariables false
set_option linter.unusedSimpArgs false

def medium_Catch.f (k : Nat) (l0 : List (S50)) (l1 : List (S25)) (a2 : Int) (l3 : List (S42)) (a4 : Int) : Option (List Int × Int) := if radiosB l0 l1 a2 a4 = true then some (catchL l0 l1 a2 l3 a4, 0) else some ([], 1)
theorem medium_Catch.mono : ∀ a0 a1 a2 a3 a4 k, LeO (medium_Catch.f k a0 a1 a2 a3 a4) (medium_Catch.f (k + 1) a0 a1 a2 a3 a4) := fun _ _ _ _ _ _ => LeO.refl _
theorem cat_nil {w : World} {f : Nat} {args : Array Value} (h : Calls Try.prog f args w (catErr w)) :
    Calls Try.prog f args w fun e w' => ∃ v0_ : Value, e = .returned (.tuple #[v0_, .int .i64 1]) ∧ Kd.R (Kd.int .i64) 3 w' w.heap.size (fun _ => True) v0_ [] ∧ Below w.heap.size w w' :=
  h.mono fun e w' ⟨he, hb⟩ => ⟨_, he, Kd.R_nil _ _ _ _ _, hb⟩
theorem medium_Catch.calls (k : Nat) (A0 : Option Addr) (c0 : Nat) (l0 : List (S50)) (A1 : Option Addr) (c1 : Nat) (l1 : List (S25)) (a2 : Int) (A3 : Option Addr) (c3 : Nat) (l3 : List (S42)) (a4 : Int) (r1 : List Int) (r2 : Int) (w : World) (hr0 : Kd.C k50 w A0 l0.length l0) (hc0 : l0.length ≤ c0) (hr1 : Kd.C k25 w A1 l1.length l1) (hc1 : l1.length ≤ c1) (hr3 : Kd.C k42 w A3 l3.length l3) (hc3 : l3.length ≤ c3) (h : medium_Catch.f k l0 l1 a2 l3 a4 = some (r1, r2)) :
    Calls Try.prog 29 #[.slice A0 l0.length c0, .slice A1 l1.length c1, .int .i64 a2, .slice A3 l3.length c3, .int .i64 a4] w fun e w' => ∃ v0_ : Value, e = .returned (.tuple #[v0_, .int .i64 r2]) ∧ Kd.R (Kd.int .i64) 3 w' w.heap.size (fun _ => True) v0_ r1 ∧ Below w.heap.size w w' := by
  unfold medium_Catch.f at h
  rcases Decidable.em (¬ l0.length = l1.length) with h1 | h1
  · rw [if_neg (by simp [radiosB, h1])] at h
    obtain ⟨rfl, rfl⟩ := Prod.mk.inj (Option.some.inj h)
    exact cat_nil (cat_len A0 _ c0 A1 _ c1 a2 A3 _ c3 a4 w h1)
  replace h1 := Decidable.not_not.1 h1
  by_cases h2 : 200 < l0.length
  · rw [if_neg (by simp [radiosB]; intros; omega)] at h
    obtain ⟨rfl, rfl⟩ := Prod.mk.inj (Option.some.inj h)
    exact cat_nil (cat_long A0 _ c0 A1 _ c1 a2 A3 _ c3 a4 w h1 h2)
  by_cases h3 : a2 < 0
  · rw [if_neg (by simp [radiosB, radB]; intros; omega)] at h
    obtain ⟨rfl, rfl⟩ := Prod.mk.inj (Option.some.inj h)
    exact cat_nil (cat_r1 A0 _ c0 A1 _ c1 a2 A3 _ c3 a4 w h1 h2 h3)
  by_cases h4 : a2 > 20000
  · rw [if_neg (by simp [radiosB, radB]; intros; omega)] at h
    obtain ⟨rfl, rfl⟩ := Prod.mk.inj (Option.some.inj h)
    exact cat_nil (cat_r2 A0 _ c0 A1 _ c1 a2 A3 _ c3 a4 w h1 h2 h3 h4)
  by_cases h5 : a4 < 0
  · rw [if_neg (by simp [radiosB, asnB]; intros; omega)] at h
    obtain ⟨rfl, rfl⟩ := Prod.mk.inj (Option.some.inj h)
    exact cat_nil (cat_s1 A0 _ c0 A1 _ c1 a2 A3 _ c3 a4 w h1 h2 h3 h4 h5)
  by_cases h6 : a4 > 1000000000
  · rw [if_neg (by simp [radiosB, asnB]; intros; omega)] at h
    obtain ⟨rfl, rfl⟩ := Prod.mk.inj (Option.some.inj h)
    exact cat_nil (cat_s2 A0 _ c0 A1 _ c1 a2 A3 _ c3 a4 w h1 h2 h3 h4 h5 h6)
  cases hall : ((List.range l0.length).all fun i => radioB (l0.getD i z50) (l1.getD i z25))
  · rw [if_neg (by simp only [radiosB, hall, Bool.and_false]; simp)] at h
    obtain ⟨rfl, rfl⟩ := Prod.mk.inj (Option.some.inj h)
    exact cat_nil (cat_bad A0 c0 l0 A1 c1 l1 a2 A3 _ c3 a4 w hr0 hr1 h1 h2 h3 h4 h5 h6 hall)
  · have hy : radiosB l0 l1 a2 a4 = true := by
      simp only [radiosB, hall, radB, asnB, Bool.and_eq_true, decide_eq_true_eq, and_true]
      omega
    rw [if_pos hy] at h
    obtain ⟨rfl, rfl⟩ := Prod.mk.inj (Option.some.inj h)
    refine (cat_yes A0 c0 l0 A1 c1 l1 a2 A3 c3 l3 a4 w hr0 hr1 hr3 hc3 h1 h2 h3 h4 h5 h6 hall).mono ?_
    rintro e w' ⟨⟨v, he, hR⟩, hb⟩
    exact ⟨v, he, hR, hb⟩
end Go.Proofs.Ytcgbfkplhlngjaa.PA
