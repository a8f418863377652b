/- What PlaneSymmetry computes, as Lean functions (made in the manner of the print); and once false, always false. -/
import Derived.Test.YtcgbfkplhlngjaaT0
import Derived.Test.YtcgbfkplhlngjaaF21
import Derived.Test.YtcgbfkplhlngjaaF25
import Derived.Test.YtcgbfkplhlngjaaHd16
import Derived.Test.YtcgbfkplhlngjaaHear
namespace Go.Proofs.Ytcgbfkplhlngjaa.PA
open Go.RowKit Go.Proofs.YtcgbfkplhlngjaaW.PrintWords Go.Proofs.YtcgbfkplhlngjaaW.PrintLast Go.Proofs.YtcgbfkplhlngjaaW.PrintMore
attribute [local go_sem] max2_int min2_int max_two min_two max_three min_three max_four min_four   -- for this text's walks alone
set_option linter.unusedVariables false
set_option linter.unusedSimpArgs false

/-! ### slotmeshlaw16_PlaneSymmetry: function 4 -/
mutual
def slotmeshlaw16_PlaneSymmetry.l0 : Nat → List (S25) → Int → Bool → List (List Bool) → Int → Option (Bool)
  | 0, _, _, _, _, _ => none
  | k + 1, x0, x1, x5, x6, x9 => if x9 < (x0.length : Int) then (if x5 = true then (if 0 ≤ x9 then (if x9 < (x6.length : Int) then (if x9 < ((rd_L3 x6 x9).length : Int) then (if (rdOf false (rd_L3 x6 x9) x9 = true) then (slotmeshlaw16_PlaneSymmetry.j1 k x0 x1 false x6 x9) else ((plane_Near.f ((rd_T25 x0 x9).f0) ((rd_T25 x0 x9).f1) ((rd_T25 x0 x9).f0) ((rd_T25 x0 x9).f1) x1).bind fun t184 => (slotmeshlaw16_PlaneSymmetry.j1 k x0 x1 t184 x6 x9))) else (none)) else (none)) else (none)) else (slotmeshlaw16_PlaneSymmetry.j1 k x0 x1 false x6 x9)) else (some x5)
def slotmeshlaw16_PlaneSymmetry.j1 : Nat → List (S25) → Int → Bool → List (List Bool) → Int → Option (Bool)
  | 0, _, _, _, _, _ => none
  | k + 1, x0, x1, x5, x6, x9 => slotmeshlaw16_PlaneSymmetry.l1 k x0 x1 x5 x6 x9 0
def slotmeshlaw16_PlaneSymmetry.l1 : Nat → List (S25) → Int → Bool → List (List Bool) → Int → Int → Option (Bool)
  | 0, _, _, _, _, _, _ => none
  | k + 1, x0, x1, x5, x6, x9, x10 => if x10 < (x0.length : Int) then (if x5 = true then (if 0 ≤ x9 then (if x9 < (x6.length : Int) then (if 0 ≤ x10 then (if x10 < ((rd_L3 x6 x9).length : Int) then (if x10 < (x6.length : Int) then (if x9 < ((rd_L3 x6 x10).length : Int) then (if ((rdOf false (rd_L3 x6 x9) x10) == (rdOf false (rd_L3 x6 x10) x9)) = true then (if x9 < (x0.length : Int) then ((plane_Near.f ((rd_T25 x0 x9).f0) ((rd_T25 x0 x9).f1) ((rd_T25 x0 x10).f0) ((rd_T25 x0 x10).f1) x1).bind fun t191 => ((plane_Near.f ((rd_T25 x0 x10).f0) ((rd_T25 x0 x10).f1) ((rd_T25 x0 x9).f0) ((rd_T25 x0 x9).f1) x1).bind fun t194 => (if (t191 == t194) = true then (if x9 = x10 then (slotmeshlaw16_PlaneSymmetry.l1 k x0 x1 true x6 x9 (wrap64 (x10 + 1))) else ((plane_Near.f ((rd_T25 x0 x9).f0) ((rd_T25 x0 x9).f1) ((rd_T25 x0 x10).f0) ((rd_T25 x0 x10).f1) x1).bind fun t199 => (slotmeshlaw16_PlaneSymmetry.l1 k x0 x1 ((rdOf false (rd_L3 x6 x9) x10) == t199) x6 x9 (wrap64 (x10 + 1))))) else (slotmeshlaw16_PlaneSymmetry.l1 k x0 x1 false x6 x9 (wrap64 (x10 + 1)))))) else (none)) else (slotmeshlaw16_PlaneSymmetry.l1 k x0 x1 false x6 x9 (wrap64 (x10 + 1)))) else (none)) else (none)) else (none)) else (none)) else (none)) else (none)) else (slotmeshlaw16_PlaneSymmetry.l1 k x0 x1 false x6 x9 (wrap64 (x10 + 1)))) else (slotmeshlaw16_PlaneSymmetry.l0 k x0 x1 x5 x6 (wrap64 (x9 + 1)))
end
def slotmeshlaw16_PlaneSymmetry.f (k : Nat) (l0 : List (S25)) (a1 : Int) : Option (Bool) := (slotmeshlaw16_head.f).bind fun t174 => (if (l0.length : Int) > 100 then (some t174) else ((plane_Hears.f k l0 a1).bind fun bt175 => (if bt175.2 = 0 then ((slotmeshlaw16_square.f k bt175.1 (l0.length : Int)).bind fun t179 => (if t179 = true then (slotmeshlaw16_PlaneSymmetry.l0 k l0 a1 t174 bt175.1 0) else (some false))) else (if t174 = true then (some ((bt175.1.length : Int) == 0)) else (some false)))))
theorem sym_dead : ∀ k, (∀ l r t i b, slotmeshlaw16_PlaneSymmetry.l0 k l r false t i = some b → b = false) ∧ (∀ l r t i b, slotmeshlaw16_PlaneSymmetry.j1 k l r false t i = some b → b = false) ∧ (∀ l r t i j b, slotmeshlaw16_PlaneSymmetry.l1 k l r false t i j = some b → b = false)
  | 0 => ⟨fun _ _ _ _ _ h => by simp [slotmeshlaw16_PlaneSymmetry.l0] at h, fun _ _ _ _ _ h => by simp [slotmeshlaw16_PlaneSymmetry.j1] at h, fun _ _ _ _ _ _ h => by simp [slotmeshlaw16_PlaneSymmetry.l1] at h⟩
  | k + 1 => by
    obtain ⟨i0, i1, i2⟩ := sym_dead k
    refine ⟨fun l r t i b h => ?_, fun l r t i b h => ?_, fun l r t i j b h => ?_⟩
    · simp only [slotmeshlaw16_PlaneSymmetry.l0, Bool.false_eq_true, if_false] at h
      split at h
      · exact i1 _ _ _ _ _ h
      · exact (Option.some.inj h).symm
    · simp only [slotmeshlaw16_PlaneSymmetry.j1] at h
      exact i2 _ _ _ _ _ _ h
    · simp only [slotmeshlaw16_PlaneSymmetry.l1, Bool.false_eq_true, if_false] at h
      split at h
      · exact i2 _ _ _ _ _ _ h
      · exact i0 _ _ _ _ _ h
theorem sym_dead_j {G : Prop} {k : Nat} {l : List S25} {r : Int} {t : List (List Bool)} {i : Int} {b : Bool} (h : slotmeshlaw16_PlaneSymmetry.j1 k l r false t i = some b) (hr : Aside0 (b = true)) : G := by
  have := (sym_dead k).2.1 _ _ _ _ _ h
  rw [hr.out] at this
  cases this
theorem sym_dead_l {G : Prop} {k : Nat} {l : List S25} {r : Int} {t : List (List Bool)} {i j : Int} {b : Bool} (h : slotmeshlaw16_PlaneSymmetry.l1 k l r false t i j = some b) (hr : Aside0 (b = true)) : G := by
  have := (sym_dead k).2.2 _ _ _ _ _ _ h
  rw [hr.out] at this
  cases this
end Go.Proofs.Ytcgbfkplhlngjaa.PA
