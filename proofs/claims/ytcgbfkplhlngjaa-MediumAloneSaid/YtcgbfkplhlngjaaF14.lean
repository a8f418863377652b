/- What slotmeshlaw17_MediumAlone (function 14) computes, as a Lean function, and that its call comes to just that; made by a program of this session in the manner of the print. -/
import Derived.Test.YtcgbfkplhlngjaaT0
import Derived.Test.YtcgbfkplhlngjaaCat
import Derived.Test.YtcgbfkplhlngjaaF21
import Derived.Test.YtcgbfkplhlngjaaF28
import Derived.Test.YtcgbfkplhlngjaaHd17
namespace Go.Proofs.Ytcgbfkplhlngjaa.PA
open Go.RowKit Go.Proofs.YtcgbfkplhlngjaaW.PrintWords Go.Proofs.YtcgbfkplhlngjaaW.PrintLast Go.Proofs.YtcgbfkplhlngjaaW.PrintMore
attribute [local go_sem] max2_int min2_int max_two min_two max_three min_three max_four min_four   -- for this text's walks alone
set_option linter.unusedVariables false
set_option linter.unusedSimpArgs false

/-! ### slotmeshlaw17_MediumAlone: function 14 -/
mutual
def slotmeshlaw17_MediumAlone.j0 : Nat → List (S50) → List (S25) → Int → Int → Int → Bool → Bool → Option (Bool)
 | 0, _, _, _, _, _, _, _ => none
 | k + 1, x0, x1, x2, x3, x4, x11, x32 => if x32 = true then (some x11) else (if (x0.length : Int) = 0 then (none) else ((some (([] : List (S50)) : List (S50))).bind fun y180 => (if y180.length + x0.length < 3518437208883 then ((some (y180 ++ x0 : List (S50))).bind fun y183 => (slotmeshlaw17_MediumAlone.l0 k x1 x2 x3 x11 (Int.tmod (wrap64 (x4)) (x0.length : Int)) y183 (y183.length : Int) 0)) else (none))))
def slotmeshlaw17_MediumAlone.l0 : Nat → List (S25) → Int → Int → Bool → Int → List (S50) → Int → Int → Option (Bool)
 | 0, _, _, _, _, _, _, _, _ => none
 | k + 1, x1, x2, x3, x11, x12, x13, x43, x44 => if x44 < x43 then (if 0 ≤ x44 then (if x44 < (x13.length : Int) then (if ((rd_T50 x13 x44).f0) = 2 then (if x44 = x12 then (slotmeshlaw17_MediumAlone.l0 k x1 x2 x3 x11 x12 x13 x43 (wrap64 (x44 + 1))) else (slotmeshlaw17_MediumAlone.l0 k x1 x2 x3 x11 x12 (x13.set (x44 : Int).toNat (⟨1, (rd_T50 x13 x44).f1, (rd_T50 x13 x44).f2, (⟨(rd_T50 x13 x44).f3.f0, (rd_T50 x13 x44).f3.f1⟩ : S48)⟩ : S50)) x43 (wrap64 (x44 + 1)))) else (slotmeshlaw17_MediumAlone.l0 k x1 x2 x3 x11 x12 x13 x43 (wrap64 (x44 + 1)))) else (none)) else (none)) else ((medium_Catch.f k x13 x1 x2 ([] : List (S42)) x3).bind fun bt188 => (if bt188.2 = 0 then (slotmeshlaw17_MediumAlone.j2 k x1 x2 x11 x12 x13 bt188.1 ((bt188.1.length : Int) != (x13.length : Int))) else (slotmeshlaw17_MediumAlone.j2 k x1 x2 x11 x12 x13 bt188.1 true)))
def slotmeshlaw17_MediumAlone.j2 : Nat → List (S25) → Int → Bool → Int → List (S50) → List Int → Bool → Option (Bool)
 | 0, _, _, _, _, _, _, _ => none
 | k + 1, x1, x2, x11, x12, x13, x15, x79 => if x79 = true then (some false) else (if 0 ≤ x12 then (if x12 < (x13.length : Int) then (slotmeshlaw17_MediumAlone.l1 k x1 x2 x11 x12 x15 x13 (x13.length : Int) 0 ((rd_T50 x13 x12).f0) ((rd_T50 x13 x12).f1) ((rd_T50 x13 x12).f2) ((rd_T50 x13 x12).f3.f0) ((rd_T50 x13 x12).f3.f1)) else (none)) else (none))
def slotmeshlaw17_MediumAlone.l1 : Nat → List (S25) → Int → Bool → Int → List Int → List (S50) → Int → Int → Int → Int → Int → Int → Int → Option (Bool)
 | 0, _, _, _, _, _, _, _, _, _, _, _, _, _ => none
 | k + 1, x1, x2, x11, x12, x15, x84, x85, x86, x194000, x194001, x194002, x194003, x194004 => if x86 < x85 then (if 0 ≤ x86 then (if x86 < (x84.length : Int) then (if x194000 = 2 then (if ((rd_T50 x84 x86).f0) = 1 then (if ((rd_T50 x84 x86).f1) = x194001 then (if x86 < (x1.length : Int) then (if 0 ≤ x12 then (if x12 < (x1.length : Int) then ((plane_Near.f ((rd_T25 x1 x86).f0) ((rd_T25 x1 x86).f1) ((rd_T25 x1 x12).f0) ((rd_T25 x1 x12).f1) x2).bind fun t198 => (if t198 = true then (if x194002 ≥ ((rd_T50 x84 x86).f3.f0) then (if x194002 ≤ ((rd_T50 x84 x86).f3.f1) then (if x86 < (x15.length : Int) then (if (rd x15 x86) = x12 then (if (x194002 ≤ ((rd_T50 x84 x86).f3.f1)) then (slotmeshlaw17_MediumAlone.l1 k x1 x2 x11 x12 x15 x84 x85 (wrap64 (x86 + 1)) x194000 x194001 x194002 x194003 x194004) else (if (rd x15 x86) = (-1) then (slotmeshlaw17_MediumAlone.l1 k x1 x2 x11 x12 x15 x84 x85 (wrap64 (x86 + 1)) x194000 x194001 x194002 x194003 x194004) else (some false))) else (some false)) else (none)) else (if (x194002 ≤ ((rd_T50 x84 x86).f3.f1)) then (slotmeshlaw17_MediumAlone.l1 k x1 x2 x11 x12 x15 x84 x85 (wrap64 (x86 + 1)) x194000 x194001 x194002 x194003 x194004) else (if x86 < (x15.length : Int) then (if (rd x15 x86) = (-1) then (slotmeshlaw17_MediumAlone.l1 k x1 x2 x11 x12 x15 x84 x85 (wrap64 (x86 + 1)) x194000 x194001 x194002 x194003 x194004) else (some false)) else (none)))) else (if x86 < (x15.length : Int) then (if (rd x15 x86) = (-1) then (slotmeshlaw17_MediumAlone.l1 k x1 x2 x11 x12 x15 x84 x85 (wrap64 (x86 + 1)) x194000 x194001 x194002 x194003 x194004) else (some false)) else (none))) else (if x86 < (x15.length : Int) then (if (rd x15 x86) = (-1) then (slotmeshlaw17_MediumAlone.l1 k x1 x2 x11 x12 x15 x84 x85 (wrap64 (x86 + 1)) x194000 x194001 x194002 x194003 x194004) else (some false)) else (none)))) else (none)) else (none)) else (none)) else (if x86 < (x15.length : Int) then (if (rd x15 x86) = (-1) then (slotmeshlaw17_MediumAlone.l1 k x1 x2 x11 x12 x15 x84 x85 (wrap64 (x86 + 1)) x194000 x194001 x194002 x194003 x194004) else (some false)) else (none))) else (if x86 < (x15.length : Int) then (if (rd x15 x86) = (-1) then (slotmeshlaw17_MediumAlone.l1 k x1 x2 x11 x12 x15 x84 x85 (wrap64 (x86 + 1)) x194000 x194001 x194002 x194003 x194004) else (some false)) else (none))) else (if x86 < (x15.length : Int) then (if (rd x15 x86) = (-1) then (slotmeshlaw17_MediumAlone.l1 k x1 x2 x11 x12 x15 x84 x85 (wrap64 (x86 + 1)) x194000 x194001 x194002 x194003 x194004) else (some false)) else (none))) else (none)) else (none)) else (some x11)
end
def slotmeshlaw17_MediumAlone.f (k : Nat) (l0 : List (S50)) (l1 : List (S25)) (a2 : Int) (a3 : Int) (a4 : Int) : Option (Bool) := (slotmeshlaw17_head.f).bind fun t178 => ((slotmeshlaw17_valid.f k l0 l1 a2 ([] : List (S42)) a3).bind fun t179 => (if t179 = true then (slotmeshlaw17_MediumAlone.j0 k l0 l1 a2 a3 a4 t178 ((l0.length : Int) == 0)) else (slotmeshlaw17_MediumAlone.j0 k l0 l1 a2 a3 a4 t178 true)))
theorem slotmeshlaw17_MediumAlone.mono_l : ∀ k, (∀ y0 y1 y2 y3 y4 y5 y6, LeO (slotmeshlaw17_MediumAlone.j0 k y0 y1 y2 y3 y4 y5 y6) (slotmeshlaw17_MediumAlone.j0 (k + 1) y0 y1 y2 y3 y4 y5 y6)) ∧ (∀ y0 y1 y2 y3 y4 y5 y6 y7, LeO (slotmeshlaw17_MediumAlone.l0 k y0 y1 y2 y3 y4 y5 y6 y7) (slotmeshlaw17_MediumAlone.l0 (k + 1) y0 y1 y2 y3 y4 y5 y6 y7)) ∧ (∀ y0 y1 y2 y3 y4 y5 y6, LeO (slotmeshlaw17_MediumAlone.j2 k y0 y1 y2 y3 y4 y5 y6) (slotmeshlaw17_MediumAlone.j2 (k + 1) y0 y1 y2 y3 y4 y5 y6)) ∧ (∀ y0 y1 y2 y3 y4 y5 y6 y7 y8 y9 y10 y11 y12, LeO (slotmeshlaw17_MediumAlone.l1 k y0 y1 y2 y3 y4 y5 y6 y7 y8 y9 y10 y11 y12) (slotmeshlaw17_MediumAlone.l1 (k + 1) y0 y1 y2 y3 y4 y5 y6 y7 y8 y9 y10 y11 y12))
 | 0 => ⟨fun _ _ _ _ _ _ _ r h => by simp [slotmeshlaw17_MediumAlone.j0] at h, fun _ _ _ _ _ _ _ _ r h => by simp [slotmeshlaw17_MediumAlone.l0] at h, fun _ _ _ _ _ _ _ r h => by simp [slotmeshlaw17_MediumAlone.j2] at h, fun _ _ _ _ _ _ _ _ _ _ _ _ _ r h => by simp [slotmeshlaw17_MediumAlone.l1] at h⟩
 | k + 1 => by
  obtain ⟨ih0, ih1, ih2, ih3⟩ := slotmeshlaw17_MediumAlone.mono_l k
  refine ⟨?_, ?_, ?_, ?_⟩
  ·
   intro y0 y1 y2 y3 y4 y5 y6
   unfold slotmeshlaw17_MediumAlone.j0
   repeat' first
   | (with_reducible exact ih0 _ _ _ _ _ _ _)
   | (with_reducible exact ih1 _ _ _ _ _ _ _ _)
   | (with_reducible exact ih2 _ _ _ _ _ _ _)
   | (with_reducible exact ih3 _ _ _ _ _ _ _ _ _ _ _ _ _)
   | (with_reducible exact medium_Catch.mono _ _ _ _ _ _)
   | (with_reducible exact slotmeshlaw17_valid.mono _ _ _ _ _ _)
   | (with_reducible exact LeO.refl _)
   | (with_reducible exact LeO.none _)
   | (with_reducible refine LeO.ite ?_ ?_)
   | (with_reducible refine LeO.bind ?_ (fun _ => ?_))
   | exact ih0 _ _ _ _ _ _ _
   | exact ih1 _ _ _ _ _ _ _ _
   | exact ih2 _ _ _ _ _ _ _
   | exact ih3 _ _ _ _ _ _ _ _ _ _ _ _ _
   | exact medium_Catch.mono _ _ _ _ _ _
   | exact slotmeshlaw17_valid.mono _ _ _ _ _ _
   | exact LeO.none _
   | refine LeO.ite ?_ ?_
   | refine LeO.bind ?_ (fun _ => ?_)
  ·
   intro y0 y1 y2 y3 y4 y5 y6 y7
   unfold slotmeshlaw17_MediumAlone.l0
   repeat' first
   | (with_reducible exact ih0 _ _ _ _ _ _ _)
   | (with_reducible exact ih1 _ _ _ _ _ _ _ _)
   | (with_reducible exact ih2 _ _ _ _ _ _ _)
   | (with_reducible exact ih3 _ _ _ _ _ _ _ _ _ _ _ _ _)
   | (with_reducible exact medium_Catch.mono _ _ _ _ _ _)
   | (with_reducible exact slotmeshlaw17_valid.mono _ _ _ _ _ _)
   | (with_reducible exact LeO.refl _)
   | (with_reducible exact LeO.none _)
   | (with_reducible refine LeO.ite ?_ ?_)
   | (with_reducible refine LeO.bind ?_ (fun _ => ?_))
   | exact ih0 _ _ _ _ _ _ _
   | exact ih1 _ _ _ _ _ _ _ _
   | exact ih2 _ _ _ _ _ _ _
   | exact ih3 _ _ _ _ _ _ _ _ _ _ _ _ _
   | exact medium_Catch.mono _ _ _ _ _ _
   | exact slotmeshlaw17_valid.mono _ _ _ _ _ _
   | exact LeO.none _
   | refine LeO.ite ?_ ?_
   | refine LeO.bind ?_ (fun _ => ?_)
  ·
   intro y0 y1 y2 y3 y4 y5 y6
   unfold slotmeshlaw17_MediumAlone.j2
   repeat' first
   | (with_reducible exact ih0 _ _ _ _ _ _ _)
   | (with_reducible exact ih1 _ _ _ _ _ _ _ _)
   | (with_reducible exact ih2 _ _ _ _ _ _ _)
   | (with_reducible exact ih3 _ _ _ _ _ _ _ _ _ _ _ _ _)
   | (with_reducible exact medium_Catch.mono _ _ _ _ _ _)
   | (with_reducible exact slotmeshlaw17_valid.mono _ _ _ _ _ _)
   | (with_reducible exact LeO.refl _)
   | (with_reducible exact LeO.none _)
   | (with_reducible refine LeO.ite ?_ ?_)
   | (with_reducible refine LeO.bind ?_ (fun _ => ?_))
   | exact ih0 _ _ _ _ _ _ _
   | exact ih1 _ _ _ _ _ _ _ _
   | exact ih2 _ _ _ _ _ _ _
   | exact ih3 _ _ _ _ _ _ _ _ _ _ _ _ _
   | exact medium_Catch.mono _ _ _ _ _ _
   | exact slotmeshlaw17_valid.mono _ _ _ _ _ _
   | exact LeO.none _
   | refine LeO.ite ?_ ?_
   | refine LeO.bind ?_ (fun _ => ?_)
  ·
   intro y0 y1 y2 y3 y4 y5 y6 y7 y8 y9 y10 y11 y12
   unfold slotmeshlaw17_MediumAlone.l1
   repeat' first
   | (with_reducible exact ih0 _ _ _ _ _ _ _)
   | (with_reducible exact ih1 _ _ _ _ _ _ _ _)
   | (with_reducible exact ih2 _ _ _ _ _ _ _)
   | (with_reducible exact ih3 _ _ _ _ _ _ _ _ _ _ _ _ _)
   | (with_reducible exact medium_Catch.mono _ _ _ _ _ _)
   | (with_reducible exact slotmeshlaw17_valid.mono _ _ _ _ _ _)
   | (with_reducible exact LeO.refl _)
   | (with_reducible exact LeO.none _)
   | (with_reducible refine LeO.ite ?_ ?_)
   | (with_reducible refine LeO.bind ?_ (fun _ => ?_))
   | exact ih0 _ _ _ _ _ _ _
   | exact ih1 _ _ _ _ _ _ _ _
   | exact ih2 _ _ _ _ _ _ _
   | exact ih3 _ _ _ _ _ _ _ _ _ _ _ _ _
   | exact medium_Catch.mono _ _ _ _ _ _
   | exact slotmeshlaw17_valid.mono _ _ _ _ _ _
   | exact LeO.none _
   | refine LeO.ite ?_ ?_
   | refine LeO.bind ?_ (fun _ => ?_)
theorem slotmeshlaw17_MediumAlone.mono : ∀ a0 a1 a2 a3 a4 k, LeO (slotmeshlaw17_MediumAlone.f k a0 a1 a2 a3 a4) (slotmeshlaw17_MediumAlone.f (k + 1) a0 a1 a2 a3 a4) := by
 intro a0 a1 a2 a3 a4 k
 obtain ⟨ih0, ih1, ih2, ih3⟩ := slotmeshlaw17_MediumAlone.mono_l k
 unfold slotmeshlaw17_MediumAlone.f
 repeat' first
   | (with_reducible exact ih0 _ _ _ _ _ _ _)
   | (with_reducible exact ih1 _ _ _ _ _ _ _ _)
   | (with_reducible exact ih2 _ _ _ _ _ _ _)
   | (with_reducible exact ih3 _ _ _ _ _ _ _ _ _ _ _ _ _)
   | (with_reducible exact medium_Catch.mono _ _ _ _ _ _)
   | (with_reducible exact slotmeshlaw17_valid.mono _ _ _ _ _ _)
   | (with_reducible exact LeO.refl _)
   | (with_reducible exact LeO.none _)
   | (with_reducible refine LeO.ite ?_ ?_)
   | (with_reducible refine LeO.bind ?_ (fun _ => ?_))
   | exact ih0 _ _ _ _ _ _ _
   | exact ih1 _ _ _ _ _ _ _ _
   | exact ih2 _ _ _ _ _ _ _
   | exact ih3 _ _ _ _ _ _ _ _ _ _ _ _ _
   | exact medium_Catch.mono _ _ _ _ _ _
   | exact slotmeshlaw17_valid.mono _ _ _ _ _ _
   | exact LeO.none _
   | refine LeO.ite ?_ ?_
   | refine LeO.bind ?_ (fun _ => ?_)
theorem tail14 {c d : Prop} [Decidable c] [Decidable d] {X : Option Bool} (H : (if c then (if d then X else some false) else none) = some true) : c ∧ d ∧ X = some true := by
  by_cases hc : c
  · rw [if_pos hc] at H
    by_cases hd : d
    · rw [if_pos hd] at H; exact ⟨hc, hd, H⟩
    · rw [if_neg hd] at H; cases H
  · rw [if_neg hc] at H; cases H
theorem is14 {a b : Int} (h : a = b) : (a == b) = true ∧ (a != b) = false := ⟨beq_iff_eq.mpr h, bne_eq_false_iff_eq.mpr h⟩
theorem not14 {a b : Int} (h : ¬ a = b) : (a == b) = false ∧ (a != b) = true := ⟨beq_eq_false_iff_ne.mpr h, bne_iff_ne.mpr h⟩
/-- The ways through a round of the second loop on which the law's answer is true. -/
theorem alone_ways {k : Nat} {x1 : List S25} {x2 : Int} {x11 : Bool} {x12 : Int} {x15 : List Int} {x84 : List S50} {x85 x86 s0 s1 s2 s3 s4 : Int} (H : slotmeshlaw17_MediumAlone.l1 (k + 1) x1 x2 x11 x12 x15 x84 x85 x86 s0 s1 s2 s3 s4 = some true) (hx : x86 < x85) :
    decide (0 ≤ x86) = true ∧ decide (x86 < (x84.length : Int)) = true ∧ decide (x86 < (x15.length : Int)) = true ∧ slotmeshlaw17_MediumAlone.l1 k x1 x2 x11 x12 x15 x84 x85 (wrap64 (x86 + 1)) s0 s1 s2 s3 s4 = some true ∧
    ((((s0 == 2) = false ∧ (s0 != 2) = true ∧ (rd x15 x86 == -1) = true ∧ (rd x15 x86 != -1) = false) ∨ ((s0 == 2) = true ∧ (s0 != 2) = false ∧ ((rd_T50 x84 x86).f0 == 1) = false ∧ ((rd_T50 x84 x86).f0 != 1) = true ∧ (rd x15 x86 == -1) = true ∧ (rd x15 x86 != -1) = false) ∨
      ((s0 == 2) = true ∧ (s0 != 2) = false ∧ ((rd_T50 x84 x86).f0 == 1) = true ∧ ((rd_T50 x84 x86).f0 != 1) = false ∧ ((rd_T50 x84 x86).f1 == s1) = false ∧ ((rd_T50 x84 x86).f1 != s1) = true ∧ (rd x15 x86 == -1) = true ∧ (rd x15 x86 != -1) = false)) ∨
     ((s0 == 2) = true ∧ (s0 != 2) = false ∧ ((rd_T50 x84 x86).f0 == 1) = true ∧ ((rd_T50 x84 x86).f0 != 1) = false ∧ ((rd_T50 x84 x86).f1 == s1) = true ∧ ((rd_T50 x84 x86).f1 != s1) = false ∧ decide (x86 < (x1.length : Int)) = true ∧ decide (0 ≤ x12) = true ∧ decide (x12 < (x1.length : Int)) = true ∧
      ((plane_Near.f ((rd_T25 x1 x86).f0) ((rd_T25 x1 x86).f1) ((rd_T25 x1 x12).f0) ((rd_T25 x1 x12).f1) x2 = some false ∧ (rd x15 x86 == -1) = true ∧ (rd x15 x86 != -1) = false) ∨
       (plane_Near.f ((rd_T25 x1 x86).f0) ((rd_T25 x1 x86).f1) ((rd_T25 x1 x12).f0) ((rd_T25 x1 x12).f1) x2 = some true ∧ decide ((rd_T50 x84 x86).f3.f0 ≤ s2) = false ∧ (rd x15 x86 == -1) = true ∧ (rd x15 x86 != -1) = false) ∨
       (plane_Near.f ((rd_T25 x1 x86).f0) ((rd_T25 x1 x86).f1) ((rd_T25 x1 x12).f0) ((rd_T25 x1 x12).f1) x2 = some true ∧ decide ((rd_T50 x84 x86).f3.f0 ≤ s2) = true ∧ decide (s2 ≤ (rd_T50 x84 x86).f3.f1) = false ∧ (rd x15 x86 == -1) = true ∧ (rd x15 x86 != -1) = false) ∨
       (plane_Near.f ((rd_T25 x1 x86).f0) ((rd_T25 x1 x86).f1) ((rd_T25 x1 x12).f0) ((rd_T25 x1 x12).f1) x2 = some true ∧ decide ((rd_T50 x84 x86).f3.f0 ≤ s2) = true ∧ decide (s2 ≤ (rd_T50 x84 x86).f3.f1) = true ∧ (rd x15 x86 == x12) = true ∧ (rd x15 x86 != x12) = false)))) := by
  simp only [slotmeshlaw17_MediumAlone.l1] at H
  rw [if_pos hx] at H
  by_cases h0 : 0 ≤ x86
  case neg => rw [if_neg h0] at H; cases H
  rw [if_pos h0] at H
  by_cases h1 : x86 < (x84.length : Int)
  case neg => rw [if_neg h1] at H; cases H
  rw [if_pos h1] at H
  refine ⟨decide_eq_true h0, decide_eq_true h1, ?_⟩
  by_cases h2 : s0 = 2
  case neg =>
    rw [if_neg h2] at H
    obtain ⟨a, b, c⟩ := tail14 H
    exact ⟨decide_eq_true a, c, .inl (.inl ⟨(not14 h2).1, (not14 h2).2, (is14 b).1, (is14 b).2⟩)⟩
  rw [if_pos h2] at H
  by_cases h3 : (rd_T50 x84 x86).f0 = 1
  case neg =>
    rw [if_neg h3] at H
    obtain ⟨a, b, c⟩ := tail14 H
    exact ⟨decide_eq_true a, c, .inl (.inr (.inl ⟨(is14 h2).1, (is14 h2).2, (not14 h3).1, (not14 h3).2, (is14 b).1, (is14 b).2⟩))⟩
  rw [if_pos h3] at H
  by_cases h4 : (rd_T50 x84 x86).f1 = s1
  case neg =>
    rw [if_neg h4] at H
    obtain ⟨a, b, c⟩ := tail14 H
    exact ⟨decide_eq_true a, c, .inl (.inr (.inr ⟨(is14 h2).1, (is14 h2).2, (is14 h3).1, (is14 h3).2, (not14 h4).1, (not14 h4).2, (is14 b).1, (is14 b).2⟩))⟩
  rw [if_pos h4] at H
  by_cases h5 : x86 < (x1.length : Int)
  case neg => rw [if_neg h5] at H; cases H
  rw [if_pos h5] at H
  by_cases h6 : 0 ≤ x12
  case neg => rw [if_neg h6] at H; cases H
  rw [if_pos h6] at H
  by_cases h7 : x12 < (x1.length : Int)
  case neg => rw [if_neg h7] at H; cases H
  rw [if_pos h7] at H
  obtain ⟨t, e, H⟩ := Option.bind_eq_some_iff.mp H
  suffices hs : decide (x86 < (x15.length : Int)) = true ∧ slotmeshlaw17_MediumAlone.l1 k x1 x2 x11 x12 x15 x84 x85 (wrap64 (x86 + 1)) s0 s1 s2 s3 s4 = some true ∧ _ from ⟨hs.1, hs.2.1, .inr ⟨(is14 h2).1, (is14 h2).2, (is14 h3).1, (is14 h3).2, (is14 h4).1, (is14 h4).2, decide_eq_true h5, decide_eq_true h6, decide_eq_true h7, hs.2.2⟩⟩
  cases t
  · rw [if_neg (by decide)] at H
    obtain ⟨a, b, c⟩ := tail14 H
    exact ⟨decide_eq_true a, c, .inl ⟨e, (is14 b).1, (is14 b).2⟩⟩
  rw [if_pos rfl] at H
  by_cases h8 : s2 ≥ (rd_T50 x84 x86).f3.f0
  case neg =>
    rw [if_neg h8] at H
    obtain ⟨a, b, c⟩ := tail14 H
    exact ⟨decide_eq_true a, c, .inr (.inl ⟨e, decide_eq_false h8, (is14 b).1, (is14 b).2⟩)⟩
  rw [if_pos h8] at H
  by_cases h9 : s2 ≤ (rd_T50 x84 x86).f3.f1
  case neg =>
    simp only [if_neg h9] at H
    obtain ⟨a, b, c⟩ := tail14 H
    exact ⟨decide_eq_true a, c, .inr (.inr (.inl ⟨e, decide_eq_true h8, decide_eq_false h9, (is14 b).1, (is14 b).2⟩))⟩
  simp only [if_pos h9] at H
  obtain ⟨a, b, c⟩ := tail14 H
  exact ⟨decide_eq_true a, c, .inr (.inr (.inr ⟨e, decide_eq_true h8, decide_eq_true h9, (is14 b).1, (is14 b).2⟩))⟩
def slotmeshlaw17_MediumAlone.T19 : Bool × List (List Nat × List Nat) := (true, [([], []), ([0], [0]), ([1], [1]), ([2], [2]), ([3], [3]), ([4, 3], [3, 4]), ([5, 3], [3, 5]), ([3, 6], [3, 6]), ([7, 3], [7]), ([8], [8]), ([9, 8], [8, 9]), ([8], [8]), ([11, 8], [8, 11]), ([10, 12, 8], [8, 10, 12]), ([8, 13], [8, 13]), ([14, 8], [14]), ([15], [15]), ([15], [15]), ([16, 17, 15], [15, 16, 17]), ([18, 15], [15, 18]), ([15], [15]), ([15], [15]), ([20, 21, 15], [15, 20, 21]), ([22, 15], [15, 22]), ([15], [15]), ([19, 23, 24, 15, 15], [15, 19, 23, 24]), ([15, 25], [15, 25]), ([26, 25], [26]), ([27], [27]), ([28, 27], [27, 28]), ([27], [27]), ([30, 27], [27, 30]), ([31, 27], [27, 31]), ([29, 32, 27], [27, 29, 32]), ([27, 33], [27, 33]), ([34, 27], [34]), ([35], [35]), ([36, 35], [35, 36]), ([35], [35]), ([38, 35], [35, 38]), ([39, 35], [35, 39]), ([37, 40, 35], [35, 37, 40]), ([35, 41], [35, 41]), ([42, 35, 0, 1, 2, 3, 4, 5, 6, 7, 8, 9, 10, 11, 12, 13, 14, 15, 16, 17, 18, 19, 20, 21, 22, 23, 24, 25, 26, 27, 28, 29, 30, 31, 32, 33, 34, 35, 36, 37, 38, 39, 40, 41, 42], [42])])
def slotmeshlaw17_MediumAlone.B19 : List Nat := [0, 1, 3, 7, 15, 31, 63, 127, 255, 511, 1023, 511, 2559, 8191, 16383, 32767, 65535, 65535, 262143, 524287, 65535, 65535, 3211263, 7405567, 65535, 33554431, 67108863, 134217727, 268435455, 536870911, 268435455, 1342177279, 3489660927, 8589934591, 17179869183, 34359738367, 68719476735, 137438953471, 68719476735, 343597383679, 893353197567, 2199023255551, 4398046511103, 8796093022207]
theorem slotmeshlaw17_MediumAlone.tab19 : rtab .any (opsOf Try.f14 19) = slotmeshlaw17_MediumAlone.T19 := by kernel_rfl
theorem slotmeshlaw17_MediumAlone.bits19 : waitsOk slotmeshlaw17_MediumAlone.T19.2 slotmeshlaw17_MediumAlone.B19 = true := by kernel_rfl
set_option maxHeartbeats 8000000 in
set_option maxRecDepth 100000 in
theorem slotmeshlaw17_MediumAlone.calls (k : Nat) (A0 : Option Addr) (c0 : Nat) (l0 : List (S50)) (A1 : Option Addr) (c1 : Nat) (l1 : List (S25)) (a2 : Int) (a3 : Int) (a4 : Int) (r : Bool) (w : World) (hr0 : Kd.C k50 w A0 l0.length l0) (hc0 : l0.length ≤ c0) (hr1 : Kd.C k25 w A1 l1.length l1) (hc1 : l1.length ≤ c1) (h : slotmeshlaw17_MediumAlone.f k l0 l1 a2 a3 a4 = some r) (HRT0 : r = true) :
  Calls Try.prog 14 #[.slice A0 l0.length c0, .slice A1 l1.length c1, .int .i64 a2, .int .i64 a3, .int .u8 a4] w fun e w' => e = .returned (.bool r) ∧ Below w.heap.size w w' := by
 have HRT := Aside0.mk HRT0
 clear HRT0
 have hu50 := Try.underlying50
 have hu25 := Try.underlying25
 have HR0 := Aside0.mk hr0
 have HC0 := Aside0.mk hc0
 clear hr0 hc0
 have HR1 := Aside0.mk hr1
 have HC1 := Aside0.mk hc1
 clear hr1 hc1
 have HB := Aside0.mk (Below.refl w.heap.size w)
 have H : ((slotmeshlaw17_head.f).bind fun t178 => ((slotmeshlaw17_valid.f k l0 l1 a2 ([] : List (S42)) a3).bind fun t179 => (if t179 = true then (slotmeshlaw17_MediumAlone.j0 k l0 l1 a2 a3 a4 t178 ((l0.length : Int) == 0)) else (slotmeshlaw17_MediumAlone.j0 k l0 l1 a2 a3 a4 t178 true)))) = some r := h
 clear h
 replace H := Option.bind_eq_some_iff.mp H
 obtain ⟨t178, A60, H⟩ := H
 replace H : ((slotmeshlaw17_valid.f k l0 l1 a2 ([] : List (S42)) a3).bind fun t179 => (if t179 = true then (slotmeshlaw17_MediumAlone.j0 k l0 l1 a2 a3 a4 t178 ((l0.length : Int) == 0)) else (slotmeshlaw17_MediumAlone.j0 k l0 l1 a2 a3 a4 t178 true))) = some r := H
 have A6 := Aside0.mk A60
 clear A60
 have HC7 := Aside0.mk H
 clear H
 go_enter Try.func14, Try.ntmps14
 go_upto_region 2 with (first | ((with_reducible refine gate_callee (f := 27) rfl ?_); refine goesL_ (some 21) rfl rfl Try.func27 (by kernel_rfl) rfl #[] rfl (by (try simp only [List.map_toArray, List.map_cons, List.map_nil]); first | done | rfl | (simp only [List.length_drop, List.length_take]; rfl)) ?_; (with_reducible refine (slotmeshlaw17_head.calls  t178 _ A6.out).mono ?_); rintro e w8 ⟨rfl, hb⟩; refine ⟨_, rfl, ?_⟩; have n0_ := Aside0.mk (below_step (by repeat (first | (with_reducible first | exact HB.out | apply below_alloc | apply pw_below_drewN | apply below_drew1) | exact HB.out)) hb); clear HB; have HB := n0_; clear n0_; (try clear hb); (try clear hb2); (try clear hk); (try clear hi)))
 (try simp only [Act.put, List.setIfInBounds_toArray, List.set_cons_zero, List.set_cons_succ])
 go_cut [32] (fun v32 wc => ∃ (kq : Nat) (x32_6 : Bool), v32 = .bool x32_6 ∧ Aside0 (slotmeshlaw17_MediumAlone.j0 kq l0 l1 a2 a3 a4 t178 x32_6 = some r) ∧ Aside0 (kq ≤ k) ∧ Aside0 (Below w.heap.size w wc))
 case first =>
  have H := HC7.out
  clear HC7
  replace H := Option.bind_eq_some_iff.mp H
  obtain ⟨t179, A90, H⟩ := H
  replace H : (if t179 = true then (slotmeshlaw17_MediumAlone.j0 k l0 l1 a2 a3 a4 t178 ((l0.length : Int) == 0)) else (slotmeshlaw17_MediumAlone.j0 k l0 l1 a2 a3 a4 t178 true)) = some r := H
  have A9 := Aside0.mk A90
  clear A90
  by_cases c10 : t179 = true
  ·
   subst c10
   have H1 : (slotmeshlaw17_MediumAlone.j0 k l0 l1 a2 a3 a4 t178 ((l0.length : Int) == 0)) = some r := by rw [if_pos rfl] at H; exact H
   clear H
   have H := H1
   clear H1
   have H' := Aside0.mk H
   clear H
   go_wp2_with (first | ((with_reducible refine gate_callee (f := 28) rfl ?_); refine goesL_ (some 26) rfl rfl Try.func28 (by kernel_rfl) rfl #[.slice A0 l0.length c0, .slice A1 l1.length c1, .int .i64 a2, .slice none 0 0, .int .i64 a3] rfl (by (try simp only [List.map_toArray, List.map_cons, List.map_nil]); first | done | rfl | (simp only [List.length_drop, List.length_take]; rfl)) ?_; (refine (slotmeshlaw17_valid.calls k _ _ l0 _ _ l1 a2 _ _ ([] : List (S42)) a3 true _ ?side1 ?side2 ?side3 ?side4 ?side5 ?side6 A9.out).mono ?_); (case side1 => repeat (first | exact (Kd.C_below HR0.out HB.out) | (with_reducible refine Kd.C_alloc ?_ _) | (with_reducible refine Kd.C_drewN ?_ _) | (with_reducible refine Kd.C_drew ?_))); (case side2 => exact HC0.out); (case side3 => repeat (first | exact (Kd.C_below HR1.out HB.out) | (with_reducible refine Kd.C_alloc ?_ _) | (with_reducible refine Kd.C_drewN ?_ _) | (with_reducible refine Kd.C_drew ?_))); (case side4 => exact HC1.out); (case side5 => exact Kd.C_nil _ _); (case side6 => exact Nat.le_refl _); rintro e w11 ⟨rfl, hb⟩; refine ⟨_, rfl, ?_⟩; have n0_ := Aside0.mk (below_step (by repeat (first | (with_reducible first | exact HB.out | apply below_alloc | apply pw_below_drewN | apply below_drew1) | exact HB.out)) hb); clear HB; have HB := n0_; clear n0_; (try clear hb); (try clear hb2); (try clear hk); (try clear hi)))
   go_meet
   case rel => exact ⟨_, (((l0.length : Int) == 0)), (by first | rfl | (simp; done) | (simp [*]; done)), H', ⟨by first | omega | exact Nat.le_refl _⟩, ⟨by repeat (first | (with_reducible first | exact HB.out | apply below_alloc | apply pw_below_drewN | apply below_drew1) | exact HB.out)⟩⟩
  ·
   replace c10 := Bool.eq_false_iff.mpr c10
   subst c10
   have H1 : (slotmeshlaw17_MediumAlone.j0 k l0 l1 a2 a3 a4 t178 true) = some r := by rw [if_neg (show ¬ (false = true) by decide)] at H; exact H
   clear H
   have H := H1
   clear H1
   have H' := Aside0.mk H
   clear H
   go_wp2_with (first | ((with_reducible refine gate_callee (f := 28) rfl ?_); refine goesL_ (some 26) rfl rfl Try.func28 (by kernel_rfl) rfl #[.slice A0 l0.length c0, .slice A1 l1.length c1, .int .i64 a2, .slice none 0 0, .int .i64 a3] rfl (by (try simp only [List.map_toArray, List.map_cons, List.map_nil]); first | done | rfl | (simp only [List.length_drop, List.length_take]; rfl)) ?_; (refine (slotmeshlaw17_valid.calls k _ _ l0 _ _ l1 a2 _ _ ([] : List (S42)) a3 false _ ?side1 ?side2 ?side3 ?side4 ?side5 ?side6 A9.out).mono ?_); (case side1 => repeat (first | exact (Kd.C_below HR0.out HB.out) | (with_reducible refine Kd.C_alloc ?_ _) | (with_reducible refine Kd.C_drewN ?_ _) | (with_reducible refine Kd.C_drew ?_))); (case side2 => exact HC0.out); (case side3 => repeat (first | exact (Kd.C_below HR1.out HB.out) | (with_reducible refine Kd.C_alloc ?_ _) | (with_reducible refine Kd.C_drewN ?_ _) | (with_reducible refine Kd.C_drew ?_))); (case side4 => exact HC1.out); (case side5 => exact Kd.C_nil _ _); (case side6 => exact Nat.le_refl _); rintro e w12 ⟨rfl, hb⟩; refine ⟨_, rfl, ?_⟩; have n0_ := Aside0.mk (below_step (by repeat (first | (with_reducible first | exact HB.out | apply below_alloc | apply pw_below_drewN | apply below_drew1) | exact HB.out)) hb); clear HB; have HB := n0_; clear n0_; (try clear hb); (try clear hb2); (try clear hk); (try clear hi)))
   go_meet
   case rel => exact ⟨_, (true), (by first | rfl | (simp; done) | (simp [*]; done)), H', ⟨by first | omega | exact Nat.le_refl _⟩, ⟨by repeat (first | (with_reducible first | exact HB.out | apply below_alloc | apply pw_below_drewN | apply below_drew1) | exact HB.out)⟩⟩
 case rest =>
  clear HC7
  try clear c1
  try clear c2
  try clear p2
  try clear c10
  obtain ⟨kq, x32_6, rfl, HA, HJ6, HB⟩ := hcut
  cases kq with
  | zero => exact absurd HA.out (by simp [slotmeshlaw17_MediumAlone.j0])
  | succ kj6 =>
   have H := HA.out
   clear HA
   simp only [slotmeshlaw17_MediumAlone.j0] at H
   by_cases c13 : x32_6 = true
   ·
    subst c13
    have H1 : (some t178) = some r := by rw [if_pos rfl] at H; exact H
    clear H
    have H := H1
    clear H1
    obtain rfl := Option.some.inj H
    go_wp2
    go_ret
    exact ⟨by first | rfl | (simp [errW_none, errW_some] <;> rfl) | (simp [*, errW_none, errW_some] <;> rfl), by repeat (first | (with_reducible first | exact HB.out | apply below_alloc | apply pw_below_drewN | apply below_drew1) | exact HB.out)⟩
   ·
    replace c13 := Bool.eq_false_iff.mpr c13
    subst c13
    have H1 : (if (l0.length : Int) = 0 then (none) else ((some (([] : List (S50)) : List (S50))).bind fun y180 => (if y180.length + l0.length < 3518437208883 then ((some (y180 ++ l0 : List (S50))).bind fun y183 => (slotmeshlaw17_MediumAlone.l0 kj6 l1 a2 a3 t178 (Int.tmod (wrap64 (a4)) (l0.length : Int)) y183 (y183.length : Int) 0)) else (none)))) = some r := by rw [if_neg (show ¬ (false = true) by decide)] at H; exact H
    clear H
    have H := H1
    clear H1
    by_cases c14 : (l0.length : Int) = 0
    ·
     rw [if_pos c14] at H
     exact absurd H (by simp)
    ·
     rw [if_neg c14] at H
     have c14b0 : ((l0.length : Int) == 0) = false := beq_eq_false_iff_ne.mpr c14
     have c14b1 : ((l0.length : Int) != 0) = true := bne_iff_ne.mpr c14
     have c14b2 : ¬ (l0 = []) := fun h_ => c14 (by rw [h_]; rfl)
     obtain ⟨y180, hy180⟩ : ∃ y_ : List (S50), y_ = (([] : List (S50))) := ⟨_, rfl⟩
     replace H : (if y180.length + l0.length < 3518437208883 then ((some (y180 ++ l0 : List (S50))).bind fun y183 => (slotmeshlaw17_MediumAlone.l0 kj6 l1 a2 a3 t178 (Int.tmod (wrap64 (a4)) (l0.length : Int)) y183 (y183.length : Int) 0)) else (none)) = some r := by first | (rw [hy180]; with_reducible exact H) | (have H2_ := (Option.bind_some _ _).symm.trans H; rw [hy180]; with_reducible exact H2_) | (have H2_ := (Option.bind_some _ _).symm.trans H; with_reducible exact H2_) | with_reducible exact H | (rw [hy180]; exact H) | exact H
     have Ny180 := Aside0.mk hy180
     clear hy180
     by_cases c15 : y180.length + l0.length < 3518437208883
     ·
      rw [if_pos c15] at H
      have LMc15 := Aside0.mk c15
      clear c15
      obtain ⟨y183, hy183⟩ : ∃ y_ : List (S50), y_ = (y180 ++ l0) := ⟨_, rfl⟩
      replace H : (slotmeshlaw17_MediumAlone.l0 kj6 l1 a2 a3 t178 (Int.tmod (wrap64 (a4)) (l0.length : Int)) y183 (y183.length : Int) 0) = some r := by first | (rw [hy183]; with_reducible exact H) | (have H2_ := (Option.bind_some _ _).symm.trans H; rw [hy183]; with_reducible exact H2_) | (have H2_ := (Option.bind_some _ _).symm.trans H; with_reducible exact H2_) | with_reducible exact H | (rw [hy183]; exact H) | exact H
      have Ny183 := Aside0.mk hy183
      clear hy183
      have H' := Aside0.mk H
      clear H
      go_wp2_with (first | ((with_reducible refine gate_dst (N := 39) rfl ?_); (try (refine gate_guard (by rfl) ?_; dsimp only)); refine Kd.R_lit k50 _ 50 ?hg (N := 39) ?hd (xs := ([] : List (S50))) (inner := []) (ok := fun _ => True) (okp := fun _ => True) ?hr ?hp (fun _ hk => hk) trivial (Below.refl _ _) (Nat.le_refl _) (by simp) ?_; (case hd => rfl); (case hg => rfl); (case hr => first | (go_simp; done) | (go_simp; rfl)); (case hp => exact (Reps.none _ _)); intro v181 w16 ho17 hb hg_ hnew_; clear hg_ hnew_; (first | rw [← Ny180.out] at ho17 | (simp only [Int.reduceToNat] at ho17; rw [← Ny180.out] at ho17)); have n0_ := Aside0.mk (Kd.R_lower ho17 (below_size (by repeat (first | (with_reducible first | exact HB.out | apply below_alloc | apply pw_below_drewN | apply below_drew1) | exact HB.out)))); have n1_ := Aside0.mk (below_step (by repeat (first | (with_reducible first | exact HB.out | apply below_alloc | apply pw_below_drewN | apply below_drew1) | exact HB.out)) hb); clear HB; have HO182 := n0_; have HB := n1_; clear n0_ n1_; clear hb ho17) | ((with_reducible refine gate_builtin (b := .append) (xs := #[.tmp 39, .tmp 40]) rfl ?_); (try (refine gate_guard (by rfl) ?_; dsimp only)); at_builtin; refine Kd.R_append_rows k50 (w0 := w) w.heap.size rfl (.tmp 39) (.tmp 40) 40 50 (.agg #[(.int .i64 0), (.int .i64 0), (.int .i64 0), (.int .i64 0), (.int .i64 0)]) 40 rfl Try.underlying40 info50 rfl (by decide) (by omega) v181 y180 l0 _ _ _ (fun _ => True) (fun _ => False) rfl rfl ?aO ?aR (fun _ _ h => h) (fun _ h => h.elim) ?aF ?aB ?aS ?aL ?_; (case aR => repeat (first | exact (Kd.C_below HR0.out HB.out) | (with_reducible refine Kd.C_alloc ?_ _) | (with_reducible refine Kd.C_drewN ?_ _) | (with_reducible refine Kd.C_drew ?_))); (case aB => exact (by repeat (first | (with_reducible first | exact HB.out | apply below_alloc | apply pw_below_drewN | apply below_drew1) | exact HB.out))); (case aF => exact (fun _ _ => trivial)); (case aO => exact (by (with_reducible repeat (first | apply Kd.R_alloc | apply Kd.R_drewN | apply Kd.R_drew)); exact HO182.out)); (case aS => exact (below_size (by repeat (first | (with_reducible first | exact HB.out | apply below_alloc | apply pw_below_drewN | apply below_drew1) | exact HB.out)))); (case aL => have := LMc15.out; omega); intro v184 w18 ho hb hg hat; rw [← Ny183.out] at ho; have n0_ := Aside0.mk (hb); have n1_ := Aside0.mk (ho); clear HB; clear HO182; have HB := n0_; have HO185 := n1_; clear n0_ n1_; clear ho hb hg hat; obtain ⟨Ao19, co19, eo19⟩ := Kd.R_slice HO185.out; subst eo19))
      go_loopg [44] kj6 (fun kq v44 w' => ∃ (x13_2 : List (S50)) (x44_2 : Int), v44 = .int .i64 x44_2 ∧ Aside0 (slotmeshlaw17_MediumAlone.l0 kq l1 a2 a3 t178 (Int.tmod (wrap64 (a4)) (l0.length : Int)) x13_2 (y183.length : Int) x44_2 = some r) ∧ Aside0 (kq ≤ kj6) ∧ Aside0 (Kd.R k50 50 w' w.heap.size (fun _ => True) (.slice Ao19 y183.length co19) x13_2) ∧ Aside0 (Below w.heap.size w w'))
      case atStart => exact ⟨(y183), (0), (by first | rfl | (simp; done) | (simp [*]; done)), H', ⟨Nat.le_refl _⟩, ⟨by (with_reducible repeat (first | apply Kd.R_alloc | apply Kd.R_drewN | apply Kd.R_drew)); exact HO185.out⟩, ⟨by repeat (first | (with_reducible first | exact HB.out | apply below_alloc | apply pw_below_drewN | apply below_drew1) | exact HB.out)⟩⟩
      case round =>
       clear H'
       try clear c1
       try clear c2
       try clear p2
       try clear p6
       try clear c10
       try clear c13
       try clear c14
       try clear c14b0
       try clear c14b1
       try clear c14b2
       try clear c15
       try clear p2
       obtain ⟨x13_2, x44_2, rfl, HA, HK2, HO_13, HB⟩ := hrel
       have hl13_2 := (Kd.R_reads' HO_13.out).1
       rw [hl13_2] at HO_13
       (try simp only [hl13_2])
       cases gk with
       | zero => exact absurd HA.out (by simp [slotmeshlaw17_MediumAlone.l0])
       | succ k2 =>
        have H := HA.out
        clear HA
        simp only [slotmeshlaw17_MediumAlone.l0] at H
        by_cases c20 : x44_2 < (y183.length : Int)
        ·
         rw [if_pos c20] at H
         have c20b0 : decide (x44_2 < (y183.length : Int)) = true := decide_eq_true c20
         have c20c0 : decide (x44_2 < (x13_2.length : Int)) = true := by have hc_ := c20b0; rw [hl13_2] at hc_; exact hc_
         clear c20
         by_cases c21 : 0 ≤ x44_2
         ·
          rw [if_pos c21] at H
          have c21b0 : decide (0 ≤ x44_2) = true := decide_eq_true c21
          clear c21
          by_cases c22 : x44_2 < (x13_2.length : Int)
          ·
           rw [if_pos c22] at H
           have c22b0 : decide (x44_2 < (x13_2.length : Int)) = true := decide_eq_true c22
           clear c22
           by_cases c23 : ((rd_T50 x13_2 x44_2).f0) = 2
           ·
            rw [if_pos c23] at H
            have c23b0 : (((rd_T50 x13_2 x44_2).f0) == 2) = true := beq_iff_eq.mpr c23
            have c23b1 : (((rd_T50 x13_2 x44_2).f0) != 2) = false := bne_eq_false_iff_eq.mpr c23
            clear c23
            by_cases c24 : x44_2 = (Int.tmod (wrap64 (a4)) (l0.length : Int))
            ·
             rw [if_pos c24] at H
             have c24b0 : (x44_2 == (Int.tmod (wrap64 (a4)) (l0.length : Int))) = true := beq_iff_eq.mpr c24
             have c24b1 : (x44_2 != (Int.tmod (wrap64 (a4)) (l0.length : Int))) = false := bne_eq_false_iff_eq.mpr c24
             clear c24
             have H' := Aside0.mk H
             clear H
             have p186 : 0 ≤ (x44_2 : Int) := of_decide_eq_true (by first | (with_reducible assumption) | assumption)
             have q186 : x44_2 < (x13_2.length : Int) := of_decide_eq_true (by first | (with_reducible assumption) | assumption)
             obtain ⟨ad186, e186, hx186_0, hx186_1, hx186_2, hx186_3, hx186_4⟩ := at_T50 (Kd.R_reads' HO_13.out).2.2 x44_2 p186 q186
             cases e186
             replace p186 := eq_true p186
             replace q186 := eq_true q186
             go_wp2
             (try simp only [← hl13_2])
             go_roundg k2
             case measure => have := HJ6.out; have := HK2.out; omega
             case rel => exact ⟨(x13_2), (wrap64 (x44_2 + 1)), (by first | rfl | (simp; done) | (simp [*]; done)), H', ⟨by have := HJ6.out; have := HK2.out; omega⟩, ⟨by (try simp only [hl13_2]); (with_reducible repeat (first | apply Kd.R_alloc | apply Kd.R_drewN | apply Kd.R_drew)); exact HO_13.out⟩, ⟨by repeat (first | (with_reducible first | exact HB.out | apply below_alloc | apply pw_below_drewN | apply below_drew1) | exact HB.out)⟩⟩
            ·
             rw [if_neg c24] at H
             have c24b0 : (x44_2 == (Int.tmod (wrap64 (a4)) (l0.length : Int))) = false := beq_eq_false_iff_ne.mpr c24
             have c24b1 : (x44_2 != (Int.tmod (wrap64 (a4)) (l0.length : Int))) = true := bne_iff_ne.mpr c24
             obtain ⟨y187, hy187⟩ : ∃ y_ : List (S50), y_ = (x13_2.set (x44_2 : Int).toNat (⟨1, (rd_T50 x13_2 x44_2).f1, (rd_T50 x13_2 x44_2).f2, (⟨(rd_T50 x13_2 x44_2).f3.f0, (rd_T50 x13_2 x44_2).f3.f1⟩ : S48)⟩ : S50)) := ⟨_, rfl⟩
             replace H : (slotmeshlaw17_MediumAlone.l0 k2 l1 a2 a3 t178 (Int.tmod (wrap64 (a4)) (l0.length : Int)) y187 (y183.length : Int) (wrap64 (x44_2 + 1))) = some r := by first | (rw [hy187]; with_reducible exact H) | (have H2_ := (Option.bind_some _ _).symm.trans H; rw [hy187]; with_reducible exact H2_) | (have H2_ := (Option.bind_some _ _).symm.trans H; with_reducible exact H2_) | with_reducible exact H | (rw [hy187]; exact H) | exact H
             have Ny187 := Aside0.mk hy187
             clear hy187
             have H' := Aside0.mk H
             clear H
             have p186 : 0 ≤ (x44_2 : Int) := of_decide_eq_true (by first | (with_reducible assumption) | assumption)
             have q186 : x44_2 < (x13_2.length : Int) := of_decide_eq_true (by first | (with_reducible assumption) | assumption)
             obtain ⟨ad186, e186, hx186_0, hx186_1, hx186_2, hx186_3, hx186_4⟩ := at_T50 (Kd.R_reads' HO_13.out).2.2 x44_2 p186 q186
             cases e186
             replace p186 := eq_true p186
             replace q186 := eq_true q186
             have p25 : 0 ≤ (x44_2 : Int) := of_decide_eq_true (by first | (with_reducible assumption) | assumption)
             have q25 : (x44_2 : Int) < ((x13_2.length : Int) : Int) := of_decide_eq_true (by first | (with_reducible assumption) | assumption)
             obtain ⟨go25, co25, eo25, gb25, gl25, cl25, HG25⟩ := Kd.R_form HO_13.out (by omega)
             (first | cases eo25 | (injection eo25 with ea_ en_ ec_; (first | subst ea_ | (injection ea_ with ea_; subst ea_)); subst ec_; clear en_))
             have GB25 := Aside0.mk gb25
             have GG25 := Aside0.mk HG25
             clear gb25 gl25 HG25
             (first | simp only [add_plain] at hx186_0 | skip)
             (first | simp only [add_plain] at hx186_1 | skip)
             (first | simp only [add_plain] at hx186_2 | skip)
             (first | simp only [add_plain] at hx186_3 | skip)
             (first | simp only [add_plain] at hx186_4 | skip)
             obtain ⟨ce25, hcl25, hM25, hcc25, hfr25⟩ := Kd.R_elem HO_13.out z50 (x44_2 : Int) p25 q25
             obtain rfl := k50_openM hM25
             have hx25_0 : wr.cell? ⟨go25, (x44_2 : Int).toNat * 5, none⟩ = some (.int .i64 ((rd_T50 x13_2 x44_2).f0)) := hcc25 0 _ rfl
             have hx25_1 : wr.cell? ⟨go25, (x44_2 : Int).toNat * 5 + 1, none⟩ = some (.int .i64 ((rd_T50 x13_2 x44_2).f1)) := hcc25 1 _ rfl
             have hx25_2 : wr.cell? ⟨go25, (x44_2 : Int).toNat * 5 + 2, none⟩ = some (.int .i64 ((rd_T50 x13_2 x44_2).f2)) := hcc25 2 _ rfl
             have hx25_3 : wr.cell? ⟨go25, (x44_2 : Int).toNat * 5 + 3, none⟩ = some (.int .i64 ((rd_T50 x13_2 x44_2).f3.f0)) := hcc25 3 _ rfl
             have hx25_4 : wr.cell? ⟨go25, (x44_2 : Int).toNat * 5 + 4, none⟩ = some (.int .i64 ((rd_T50 x13_2 x44_2).f3.f1)) := hcc25 4 _ rfl
             have hf25_0 : wr.frozen? ⟨go25, (x44_2 : Int).toNat * 5, none⟩ = false := hfr25 0
             have hf25_1 : wr.frozen? ⟨go25, (x44_2 : Int).toNat * 5 + 1, none⟩ = false := hfr25 1
             have hf25_2 : wr.frozen? ⟨go25, (x44_2 : Int).toNat * 5 + 2, none⟩ = false := hfr25 2
             have hf25_3 : wr.frozen? ⟨go25, (x44_2 : Int).toNat * 5 + 3, none⟩ = false := hfr25 3
             have hf25_4 : wr.frozen? ⟨go25, (x44_2 : Int).toNat * 5 + 4, none⟩ = false := hfr25 4
             clear hcl25 hcc25 hfr25 hM25
             replace p25 := eq_true p25
             replace q25 := eq_true q25
             have HX26 := Aside0.mk (show Kd.R k50 50 wr w.heap.size (fun _ => True) (.slice (some ⟨go25, 0, none⟩) x13_2.length co19) x13_2 from (by (with_reducible repeat (first | apply Kd.R_alloc | apply Kd.R_drewN | apply Kd.R_drew)); exact HO_13.out))
             obtain ⟨ce26, hcl26, hM26, hcc26, hfr26⟩ := Kd.R_elem HX26.out z50 (x44_2 : Int) (of_decide_eq_true (by first | (with_reducible assumption) | assumption)) (by have h_ : (x44_2 : Int) < ((x13_2.length : Int) : Int) := of_decide_eq_true (by first | (with_reducible assumption) | assumption); first | exact h_ | (have e_ := (Kd.R_reads' HO_13.out).1; omega) | simpa using h_)
             obtain rfl := k50_openM hM26
             have HP26 := Kd.R_seg HX26.out (x44_2 : Int) (of_decide_eq_true (by first | (with_reducible assumption) | assumption)) (by have h_ : (x44_2 : Int) < ((x13_2.length : Int) : Int) := of_decide_eq_true (by first | (with_reducible assumption) | assumption); first | exact h_ | (have e_ := (Kd.R_reads' HO_13.out).1; omega) | simpa using h_) (seg := [.int .i64 1]) (j := 0) hcl26 hcc26 (show 1 ≤ 5 from by decide) (x' := (⟨1, (rd_T50 x13_2 x44_2).f1, (rd_T50 x13_2 x44_2).f2, (⟨(rd_T50 x13_2 x44_2).f3.f0, (rd_T50 x13_2 x44_2).f3.f1⟩ : S48)⟩ : S50)) (k50_mkM _ _ _ (⟨1, (rd_T50 x13_2 x44_2).f1, (rd_T50 x13_2 x44_2).f2, (⟨(rd_T50 x13_2 x44_2).f3.f0, (rd_T50 x13_2 x44_2).f3.f1⟩ : S48)⟩ : S50) ) (fun _ hk => hk)
             have hx26_0 := hcc26 0 _ rfl
             (try simp only [show (k50).sz = 5 from rfl, Nat.mul_one, Nat.add_zero] at hx26_0)
             have hf26_0 := hfr26 0
             (try simp only [show (k50).sz = 5 from rfl, Nat.mul_one, Nat.add_zero] at hf26_0)
             clear hcl26 hcc26 hfr26 hM26
             go_wp2_with (first | ((with_reducible refine gate_store (t := 3) (p := 61) rfl ?_); refine store_event (t := 3) (p := 61) (v := ?vo_w27) (w1 := (wr.setCell ⟨go25, (x44_2 : Int).toNat * 5, none⟩ (.int .i64 1))) ?hg ?ho ?hn ?hr ?_; (case ho => rfl); (case hg => rfl); (case hn => rfl); (case hr => first | (go_simp; done) | (go_simp; rfl)); intro w27 hw; have hg : wr.grownBy w27 (some go25) := (by rw [hw]; exact HP26.2); have hp_ : Kd.R k50 50 w27 w.heap.size (fun _ => True) (.slice (some ⟨go25, 0, none⟩) x13_2.length co19) y187 := (by rw [hw, Ny187.out]; exact HP26.1); clear HP26; have n0_ := Aside0.mk (hp_); have n1_ := Aside0.mk ((by rw [hw]; exact below_set (HB.out) GB25.out : Below w.heap.size w w27)); clear HO_13; clear HB; have HO_13 := n0_; have HB := n1_; clear n0_ n1_; clear hg hw hp_))
             (try simp only [← hl13_2])
             go_roundg k2
             case measure => have := HJ6.out; have := HK2.out; omega
             case rel => exact ⟨(y187), (wrap64 (x44_2 + 1)), (by first | rfl | (simp; done) | (simp [*]; done)), H', ⟨by have := HJ6.out; have := HK2.out; omega⟩, ⟨by (try simp only [hl13_2]); (with_reducible repeat (first | apply Kd.R_alloc | apply Kd.R_drewN | apply Kd.R_drew)); exact HO_13.out⟩, ⟨by repeat (first | (with_reducible first | exact HB.out | apply below_alloc | apply pw_below_drewN | apply below_drew1) | exact HB.out)⟩⟩
           ·
            rw [if_neg c23] at H
            have c23b0 : (((rd_T50 x13_2 x44_2).f0) == 2) = false := beq_eq_false_iff_ne.mpr c23
            have c23b1 : (((rd_T50 x13_2 x44_2).f0) != 2) = true := bne_iff_ne.mpr c23
            have H' := Aside0.mk H
            clear H
            have p186 : 0 ≤ (x44_2 : Int) := of_decide_eq_true (by first | (with_reducible assumption) | assumption)
            have q186 : x44_2 < (x13_2.length : Int) := of_decide_eq_true (by first | (with_reducible assumption) | assumption)
            obtain ⟨ad186, e186, hx186_0, hx186_1, hx186_2, hx186_3, hx186_4⟩ := at_T50 (Kd.R_reads' HO_13.out).2.2 x44_2 p186 q186
            cases e186
            replace p186 := eq_true p186
            replace q186 := eq_true q186
            go_wp2
            (try simp only [← hl13_2])
            go_roundg k2
            case measure => have := HJ6.out; have := HK2.out; omega
            case rel => exact ⟨(x13_2), (wrap64 (x44_2 + 1)), (by first | rfl | (simp; done) | (simp [*]; done)), H', ⟨by have := HJ6.out; have := HK2.out; omega⟩, ⟨by (try simp only [hl13_2]); (with_reducible repeat (first | apply Kd.R_alloc | apply Kd.R_drewN | apply Kd.R_drew)); exact HO_13.out⟩, ⟨by repeat (first | (with_reducible first | exact HB.out | apply below_alloc | apply pw_below_drewN | apply below_drew1) | exact HB.out)⟩⟩
          ·
           rw [if_neg c22] at H
           exact absurd H (by simp)
         ·
          rw [if_neg c21] at H
          exact absurd H (by simp)
        ·
         rw [if_neg c20] at H
         have c20b0 : decide (x44_2 < (y183.length : Int)) = false := decide_eq_false c20
         have c20c0 : decide (x44_2 < (x13_2.length : Int)) = false := by have hc_ := c20b0; rw [hl13_2] at hc_; exact hc_
         clear c20
         replace H := Option.bind_eq_some_iff.mp H
         obtain ⟨⟨t188, t189⟩, A280, H⟩ := H
         replace H : (if t189 = 0 then (slotmeshlaw17_MediumAlone.j2 k2 l1 a2 t178 (Int.tmod (wrap64 (a4)) (l0.length : Int)) x13_2 t188 ((t188.length : Int) != (x13_2.length : Int))) else (slotmeshlaw17_MediumAlone.j2 k2 l1 a2 t178 (Int.tmod (wrap64 (a4)) (l0.length : Int)) x13_2 t188 true)) = some r := H
         have A28 := Aside0.mk A280
         clear A280
         have HC29 := Aside0.mk H
         clear H
         go_upto_region 13 with (first | ((with_reducible refine gate_callee (f := 29) rfl ?_); refine goesL_ (some 68) rfl rfl Try.func29 (by kernel_rfl) rfl #[.slice Ao19 x13_2.length co19, .slice A1 l1.length c1, .int .i64 a2, .slice none 0 0, .int .i64 a3] rfl (by (try simp only [List.map_toArray, List.map_cons, List.map_nil]); first | done | rfl | (simp only [List.length_drop, List.length_take]; rfl)) ?_; (refine (medium_Catch.calls k2 _ _ x13_2 _ _ l1 a2 _ _ ([] : List (S42)) a3 t188 t189 _ ?side1 ?side2 ?side3 ?side4 ?side5 ?side6 A28.out).mono ?_); (case side1 => repeat (first | exact (Kd.R_reads' HO_13.out).2.2 | (with_reducible refine Kd.C_alloc ?_ _) | (with_reducible refine Kd.C_drewN ?_ _) | (with_reducible refine Kd.C_drew ?_))); (case side2 => exact (Kd.R_reads' HO_13.out).2.1); (case side3 => repeat (first | exact (Kd.C_below HR1.out HB.out) | (with_reducible refine Kd.C_alloc ?_ _) | (with_reducible refine Kd.C_drewN ?_ _) | (with_reducible refine Kd.C_drew ?_))); (case side4 => exact HC1.out); (case side5 => exact Kd.C_nil _ _); (case side6 => exact Nat.le_refl _); rintro e w30 ⟨v190, rfl, ho0, hb⟩; refine ⟨_, rfl, ?_⟩; have n0_ := Aside0.mk (Kd.R_below (by (with_reducible repeat (first | apply Kd.R_alloc | apply Kd.R_drewN | apply Kd.R_drew)); exact HO_13.out) hb); have n1_ := Aside0.mk (Kd.R_lower ho0 (below_size (by repeat (first | (with_reducible first | exact HB.out | apply below_alloc | apply pw_below_drewN | apply below_drew1) | exact HB.out)))); have n2_ := Aside0.mk (below_step (by repeat (first | (with_reducible first | exact HB.out | apply below_alloc | apply pw_below_drewN | apply below_drew1) | exact HB.out)) hb); clear HO_13; clear HB; have HO_13 := n0_; have HO191 := n1_; have HB := n2_; clear n0_ n1_ n2_; (try clear hb); (try clear hb2); (try clear hk); (try clear hi); (try clear ho0)))
         (try simp only [Act.put, List.setIfInBounds_toArray, List.set_cons_zero, List.set_cons_succ])
         go_cut [79] (fun v79 wc => ∃ (kq : Nat) (x79_28 : Bool), v79 = .bool x79_28 ∧ Aside0 (slotmeshlaw17_MediumAlone.j2 kq l1 a2 t178 (Int.tmod (wrap64 (a4)) (l0.length : Int)) x13_2 t188 x79_28 = some r) ∧ Aside0 (kq ≤ k2) ∧ Aside0 (Kd.R k50 50 wc w.heap.size (fun _ => True) (.slice Ao19 x13_2.length co19) x13_2) ∧ Aside0 (Kd.R (Kd.int .i64) 3 wc w.heap.size (fun _ => True) v190 t188) ∧ Aside0 (Below w.heap.size w wc))
         case first =>
          have H := HC29.out
          clear HC29
          by_cases c31 : t189 = 0
          ·
           rw [if_pos c31] at H
           have c31b0 : (t189 == 0) = true := beq_iff_eq.mpr c31
           have c31b1 : (t189 != 0) = false := bne_eq_false_iff_eq.mpr c31
           clear c31
           (first | rw [c31b0] | (simp only [i64_w, i32_w]; rw [c31b0]) | skip)
           have H' := Aside0.mk H
           clear H
           obtain ⟨Ao32, co32, eo32⟩ := Kd.R_slice HO191.out
           subst eo32
           go_wp2
           go_meet
           case rel => exact ⟨_, (((t188.length : Int) != (x13_2.length : Int))), (by first | rfl | (simp; done) | (simp [*]; done)), H', ⟨by have := HJ6.out; have := HK2.out; first | omega | exact Nat.le_refl _⟩, ⟨by (try simp only [hl13_2]); (with_reducible repeat (first | apply Kd.R_alloc | apply Kd.R_drewN | apply Kd.R_drew)); exact HO_13.out⟩, ⟨by (try simp only [hl13_2]); (with_reducible repeat (first | apply Kd.R_alloc | apply Kd.R_drewN | apply Kd.R_drew)); exact HO191.out⟩, ⟨by repeat (first | (with_reducible first | exact HB.out | apply below_alloc | apply pw_below_drewN | apply below_drew1) | exact HB.out)⟩⟩
          ·
           rw [if_neg c31] at H
           have c31b0 : (t189 == 0) = false := beq_eq_false_iff_ne.mpr c31
           have c31b1 : (t189 != 0) = true := bne_iff_ne.mpr c31
           (first | rw [c31b0] | (simp only [i64_w, i32_w]; rw [c31b0]) | skip)
           have H' := Aside0.mk H
           clear H
           go_wp2
           go_meet
           case rel => exact ⟨_, (true), (by first | rfl | (simp; done) | (simp [*]; done)), H', ⟨by have := HJ6.out; have := HK2.out; first | omega | exact Nat.le_refl _⟩, ⟨by (try simp only [hl13_2]); (with_reducible repeat (first | apply Kd.R_alloc | apply Kd.R_drewN | apply Kd.R_drew)); exact HO_13.out⟩, ⟨by (try simp only [hl13_2]); (with_reducible repeat (first | apply Kd.R_alloc | apply Kd.R_drewN | apply Kd.R_drew)); exact HO191.out⟩, ⟨by repeat (first | (with_reducible first | exact HB.out | apply below_alloc | apply pw_below_drewN | apply below_drew1) | exact HB.out)⟩⟩
         case rest =>
          clear HC29
          try clear c1
          try clear p1
          try clear q1
          try clear hx1
          try clear c2
          try clear p2
          try clear q2
          try clear hx2
          try clear c3
          try clear p6
          try clear c10
          try clear c13
          try clear c14
          try clear c14b0
          try clear c14b1
          try clear c14b2
          try clear c15
          try clear p18
          try clear q18
          try clear hx18
          try clear c20
          try clear c20b0
          try clear c21
          try clear c21b0
          try clear c22
          try clear c22b0
          try clear c23
          try clear c23b0
          try clear c23b1
          try clear c24
          try clear c24b0
          try clear c24b1
          try clear c25
          try clear p25
          try clear q25
          try clear hx25
          try clear hf25
          try clear c26
          try clear hx26
          try clear hf26
          try clear c27
          try clear c28
          try clear c29
          try clear c31
          try clear c31b0
          try clear c31b1
          try clear hx186_0
          try clear hx186_1
          try clear hx186_2
          try clear hx186_3
          try clear hx186_4
          try clear hx25_0
          try clear hx25_1
          try clear hx25_2
          try clear hx25_3
          try clear hx25_4
          try clear hx26_0
          try clear p186
          try clear p2
          try clear p25
          try clear p6
          try clear q186
          try clear q25
          obtain ⟨kq, x79_28, rfl, HA, HJ28, HO_13, HO_15, HB⟩ := hcut
          cases kq with
          | zero => exact absurd HA.out (by simp [slotmeshlaw17_MediumAlone.j2])
          | succ kj28 =>
           have H := HA.out
           clear HA
           simp only [slotmeshlaw17_MediumAlone.j2] at H
           by_cases c33 : x79_28 = true
           ·
            subst c33
            have H1 : (some false) = some r := by rw [if_pos rfl] at H; exact H
            clear H
            have H := H1
            clear H1
            exact absurd (Option.some.inj H) (by rw [HRT.out]; decide)
           ·
            replace c33 := Bool.eq_false_iff.mpr c33
            subst c33
            have H1 : (if 0 ≤ (Int.tmod (wrap64 (a4)) (l0.length : Int)) then (if (Int.tmod (wrap64 (a4)) (l0.length : Int)) < (x13_2.length : Int) then (slotmeshlaw17_MediumAlone.l1 kj28 l1 a2 t178 (Int.tmod (wrap64 (a4)) (l0.length : Int)) t188 x13_2 (x13_2.length : Int) 0 ((rd_T50 x13_2 (Int.tmod (wrap64 (a4)) (l0.length : Int))).f0) ((rd_T50 x13_2 (Int.tmod (wrap64 (a4)) (l0.length : Int))).f1) ((rd_T50 x13_2 (Int.tmod (wrap64 (a4)) (l0.length : Int))).f2) ((rd_T50 x13_2 (Int.tmod (wrap64 (a4)) (l0.length : Int))).f3.f0) ((rd_T50 x13_2 (Int.tmod (wrap64 (a4)) (l0.length : Int))).f3.f1)) else (none)) else (none)) = some r := by rw [if_neg (show ¬ (false = true) by decide)] at H; exact H
            clear H
            have H := H1
            clear H1
            obtain ⟨ji34, hji34⟩ : ∃ j_ : Int, (Int.tmod (wrap64 (a4)) (l0.length : Int)) = j_ := ⟨_, rfl⟩
            replace H : (if 0 ≤ (ji34) then (if (ji34) < (x13_2.length : Int) then (slotmeshlaw17_MediumAlone.l1 kj28 l1 a2 t178 (ji34) t188 x13_2 (x13_2.length : Int) 0 ((rd_T50 x13_2 (ji34)).f0) ((rd_T50 x13_2 (ji34)).f1) ((rd_T50 x13_2 (ji34)).f2) ((rd_T50 x13_2 (ji34)).f3.f0) ((rd_T50 x13_2 (ji34)).f3.f1)) else (none)) else (none)) = some r := by first | (rw [hji34] at H; exact H) | (simp only [hji34] at H ⊢; exact H)
            by_cases c35 : 0 ≤ (ji34)
            ·
             rw [if_pos c35] at H
             have c35b0 : decide (0 ≤ (ji34)) = true := decide_eq_true c35
             clear c35
             by_cases c36 : (ji34) < (x13_2.length : Int)
             ·
              rw [if_pos c36] at H
              have c36b0 : decide ((ji34) < (x13_2.length : Int)) = true := decide_eq_true c36
              clear c36
              have H' := Aside0.mk H
              clear H
              have p192 : 0 ≤ ((ji34) : Int) := of_decide_eq_true (by first | (with_reducible assumption) | assumption)
              have q192 : (ji34) < (x13_2.length : Int) := of_decide_eq_true (by first | (with_reducible assumption) | assumption)
              obtain ⟨ad192, e192, hx192_0, hx192_1, hx192_2, hx192_3, hx192_4⟩ := at_T50 (Kd.R_reads' HO_13.out).2.2 (ji34) p192 q192
              cases e192
              replace p192 := eq_true p192
              replace q192 := eq_true q192
              go_wp2_with (first | ((with_reducible refine gate_dst (N := 17) rfl ?_); (try (refine gate_guard (by rfl) ?_; dsimp only)); refine box_event ?hg (N := 17) ?hd (cs := #[.int .i64 0, .int .i64 0, .int .i64 0, .int .i64 0, .int .i64 0]) (t := 50) ?hr ?_; (case hd => rfl); (case hg => rfl); (case hr => first | (go_simp; done) | (go_simp; rfl)); intro gb193 hg w37 hbox hb; have n0_ := Aside0.mk (Kd.R_below (Kd.R_elderB (by (with_reducible repeat (first | apply Kd.R_alloc | apply Kd.R_drewN | apply Kd.R_drew)); exact HO_13.out) gb193 (Nat.le_of_eq hg.symm)) hb); have n1_ := Aside0.mk (Kd.R_below (by (with_reducible repeat (first | apply Kd.R_alloc | apply Kd.R_drewN | apply Kd.R_drew)); exact HO_15.out) hb); have n2_ := Aside0.mk (below_step (by repeat (first | (with_reducible first | exact HB.out | apply below_alloc | apply pw_below_drewN | apply below_drew1) | exact HB.out)) hb); have n3_ := Aside0.mk (hbox); have n4_ := Aside0.mk ((by rw [hg]; exact (below_size (by repeat (first | (with_reducible first | exact HB.out | apply below_alloc | apply pw_below_drewN | apply below_drew1) | exact HB.out))) : w.heap.size ≤ gb193)); have n5_ := Aside0.mk ((by rw [hg]; exact (below_size (by repeat (first | (with_reducible first | exact HB.out | apply below_alloc | apply pw_below_drewN | apply below_drew1) | exact HB.out))) : w.heap.size ≤ gb193)); clear HO_13; clear HO_15; clear HB; have HO_13 := n0_; have HO_15 := n1_; have HB := n2_; have BK193 := n3_; have GW193 := n4_; have GE193 := n5_; clear n0_ n1_ n2_ n3_ n4_ n5_; clear hb hbox hg; have hcz38_0 : w37.cell? ⟨gb193, 0, none⟩ = some (.int .i64 0) := (blk_cell BK193.out 0).trans rfl; have hcz38_1 : w37.cell? ⟨gb193, 1, none⟩ = some (.int .i64 0) := (blk_cell BK193.out 1).trans rfl; have hcz38_2 : w37.cell? ⟨gb193, 2, none⟩ = some (.int .i64 0) := (blk_cell BK193.out 2).trans rfl; have hcz38_3 : w37.cell? ⟨gb193, 3, none⟩ = some (.int .i64 0) := (blk_cell BK193.out 3).trans rfl; have hcz38_4 : w37.cell? ⟨gb193, 4, none⟩ = some (.int .i64 0) := (blk_cell BK193.out 4).trans rfl; have hfz38_0 := blk_frozen BK193.out 0; have hfz38_1 := blk_frozen BK193.out 1; have hfz38_2 := blk_frozen BK193.out 2; have hfz38_3 := blk_frozen BK193.out 3; have hfz38_4 := blk_frozen BK193.out 4))
              go_loopg [86] kj28 (fun kq v86 w' => ∃ (x86_4 : Int), v86 = .int .i64 x86_4 ∧ Aside0 (slotmeshlaw17_MediumAlone.l1 kq l1 a2 t178 (ji34) t188 x13_2 (x13_2.length : Int) x86_4 ((rd_T50 x13_2 (ji34)).f0) ((rd_T50 x13_2 (ji34)).f1) ((rd_T50 x13_2 (ji34)).f2) ((rd_T50 x13_2 (ji34)).f3.f0) ((rd_T50 x13_2 (ji34)).f3.f1) = some r) ∧ Aside0 (kq ≤ kj28) ∧ Aside0 (Kd.R (Kd.int .i64) 3 w' w.heap.size (fun _ => True) v190 t188) ∧ Aside0 (Kd.R k50 50 w' w.heap.size (fun k_ => k_ ≠ gb193) (.slice (some ad192) x13_2.length co19) x13_2) ∧ Aside0 (w'.heap[gb193]? = some (.cells #[.int .i64 ((rd_T50 x13_2 (ji34)).f0), .int .i64 ((rd_T50 x13_2 (ji34)).f1), .int .i64 ((rd_T50 x13_2 (ji34)).f2), .int .i64 ((rd_T50 x13_2 (ji34)).f3.f0), .int .i64 ((rd_T50 x13_2 (ji34)).f3.f1)] 50 (0, 0))) ∧ Aside0 (Below w.heap.size w w'))
              case atStart => exact ⟨(0), (by first | rfl | (simp; done) | (simp [*]; done)), H', ⟨Nat.le_refl _⟩, ⟨by (try simp only [hl13_2]); (with_reducible repeat (first | apply Kd.R_alloc | apply Kd.R_drewN | apply Kd.R_drew)); exact Kd.R_mono (Kd.R_far (p := ⟨gb193, 4, none⟩) (Kd.R_far (p := ⟨gb193, 3, none⟩) (Kd.R_far (p := ⟨gb193, 2, none⟩) (Kd.R_far (p := ⟨gb193, 1, none⟩) (Kd.R_far (p := ⟨gb193, 0, none⟩) (Kd.R_types HO_15.out BK193.out (by decide)) (fun _ hk => hk.2) (.int .i64 ((rd_T50 x13_2 (ji34)).f0))) (fun _ hk => hk.2) (.int .i64 ((rd_T50 x13_2 (ji34)).f1))) (fun _ hk => hk.2) (.int .i64 ((rd_T50 x13_2 (ji34)).f2))) (fun _ hk => hk.2) (.int .i64 ((rd_T50 x13_2 (ji34)).f3.f0))) (fun _ hk => hk.2) (.int .i64 ((rd_T50 x13_2 (ji34)).f3.f1))) (fun _ hk => trivial)⟩, ⟨by (try simp only [hl13_2]); (with_reducible repeat (first | apply Kd.R_alloc | apply Kd.R_drewN | apply Kd.R_drew)); exact Kd.R_mono (Kd.R_far (p := ⟨gb193, 4, none⟩) (Kd.R_far (p := ⟨gb193, 3, none⟩) (Kd.R_far (p := ⟨gb193, 2, none⟩) (Kd.R_far (p := ⟨gb193, 1, none⟩) (Kd.R_far (p := ⟨gb193, 0, none⟩) (Kd.R_mono HO_13.out (fun k_ hk => (⟨hk, hk.2⟩ : _ ∧ k_ ≠ gb193))) (fun _ hk => hk.2) (.int .i64 ((rd_T50 x13_2 (ji34)).f0))) (fun _ hk => hk.2) (.int .i64 ((rd_T50 x13_2 (ji34)).f1))) (fun _ hk => hk.2) (.int .i64 ((rd_T50 x13_2 (ji34)).f2))) (fun _ hk => hk.2) (.int .i64 ((rd_T50 x13_2 (ji34)).f3.f0))) (fun _ hk => hk.2) (.int .i64 ((rd_T50 x13_2 (ji34)).f3.f1))) (fun _ hk => hk.1.2)⟩, ⟨by (try simp only [hl13_2]); (with_reducible repeat (first | refine blk_drewN ?_ _ | refine blk_drew ?_ | refine blk_alloc ?_ _)); refine blk_put (cs := #[.int .i64 ((rd_T50 x13_2 (ji34)).f0), .int .i64 ((rd_T50 x13_2 (ji34)).f1), .int .i64 ((rd_T50 x13_2 (ji34)).f2), .int .i64 ((rd_T50 x13_2 (ji34)).f3.f0), .int .i64 0]) ?_ 4 _ rfl; (with_reducible repeat (first | refine blk_drewN ?_ _ | refine blk_drew ?_ | refine blk_alloc ?_ _)); refine blk_put (cs := #[.int .i64 ((rd_T50 x13_2 (ji34)).f0), .int .i64 ((rd_T50 x13_2 (ji34)).f1), .int .i64 ((rd_T50 x13_2 (ji34)).f2), .int .i64 0, .int .i64 0]) ?_ 3 _ rfl; (with_reducible repeat (first | refine blk_drewN ?_ _ | refine blk_drew ?_ | refine blk_alloc ?_ _)); refine blk_put (cs := #[.int .i64 ((rd_T50 x13_2 (ji34)).f0), .int .i64 ((rd_T50 x13_2 (ji34)).f1), .int .i64 0, .int .i64 0, .int .i64 0]) ?_ 2 _ rfl; (with_reducible repeat (first | refine blk_drewN ?_ _ | refine blk_drew ?_ | refine blk_alloc ?_ _)); refine blk_put (cs := #[.int .i64 ((rd_T50 x13_2 (ji34)).f0), .int .i64 0, .int .i64 0, .int .i64 0, .int .i64 0]) ?_ 1 _ rfl; (with_reducible repeat (first | refine blk_drewN ?_ _ | refine blk_drew ?_ | refine blk_alloc ?_ _)); refine blk_put (cs := #[.int .i64 0, .int .i64 0, .int .i64 0, .int .i64 0, .int .i64 0]) ?_ 0 _ rfl; (with_reducible repeat (first | refine blk_drewN ?_ _ | refine blk_drew ?_ | refine blk_alloc ?_ _)); exact BK193.out⟩, ⟨by repeat (first | (with_reducible first | exact HB.out | apply below_alloc | apply pw_below_drewN | apply below_drew1 | refine below_set ?_ GE193.out) | exact HB.out)⟩⟩
              case round =>
               clear H'
               try clear c1
               try clear p1
               try clear q1
               try clear hx1
               try clear c2
               try clear p2
               try clear q2
               try clear hx2
               try clear c3
               try clear p6
               try clear c10
               try clear c13
               try clear c14
               try clear c14b0
               try clear c14b1
               try clear c14b2
               try clear c15
               try clear p18
               try clear q18
               try clear hx18
               try clear p19
               try clear q19
               try clear hx19
               try clear c20
               try clear c20b0
               try clear c21
               try clear c21b0
               try clear c22
               try clear c22b0
               try clear c23
               try clear c23b0
               try clear c23b1
               try clear c24
               try clear c24b0
               try clear c24b1
               try clear c25
               try clear p25
               try clear q25
               try clear hx25
               try clear hf25
               try clear c26
               try clear hx26
               try clear hf26
               try clear c27
               try clear c28
               try clear c29
               try clear c31
               try clear c31b0
               try clear c31b1
               try clear c33
               try clear c35
               try clear c35b0
               try clear c36
               try clear c36b0
               try clear hcz38_0
               try clear hcz38_1
               try clear hcz38_2
               try clear hcz38_3
               try clear hcz38_4
               try clear hfz38_0
               try clear hfz38_1
               try clear hfz38_2
               try clear hfz38_3
               try clear hfz38_4
               try clear hx186_0
               try clear hx186_1
               try clear hx186_2
               try clear hx186_3
               try clear hx186_4
               try clear hx192_0
               try clear hx192_1
               try clear hx192_2
               try clear hx192_3
               try clear hx192_4
               try clear hx25_0
               try clear hx25_1
               try clear hx25_2
               try clear hx25_3
               try clear hx25_4
               try clear hx26_0
               try clear p1
               try clear p18
               try clear p186
               try clear p192
               try clear p2
               try clear p25
               try clear p6
               try clear q1
               try clear q18
               try clear q186
               try clear q192
               try clear q2
               try clear q25
               obtain ⟨x86_4, rfl, HA, HK4, HO_15, HO_84, BK193, HB⟩ := hrel
               cases gk with
               | zero => exact absurd HA.out (by simp [slotmeshlaw17_MediumAlone.l1])
               | succ k4 =>
                have HWAYS := Aside0.mk (fun hx => alone_ways (HA.out.trans (congrArg some HRT.out)) hx)
                have H := HA.out
                clear HA
                simp only [slotmeshlaw17_MediumAlone.l1] at H
                by_cases c39 : x86_4 < (x13_2.length : Int)
                ·
                 rw [if_pos c39] at H
                 have c39b0 : decide (x86_4 < (x13_2.length : Int)) = true := decide_eq_true c39
                 clear c39
                 by_cases c40 : 0 ≤ x86_4
                 ·
                  rw [if_pos c40] at H
                  have c40b0 : decide (0 ≤ x86_4) = true := decide_eq_true c40
                  clear c40
                  by_cases c41 : x86_4 < (x13_2.length : Int)
                  ·
                   rw [if_pos c41] at H
                   have c41b0 : decide (x86_4 < (x13_2.length : Int)) = true := decide_eq_true c41
                   clear c41
                   clear H
                   obtain ⟨c40b0', c41b0', c52b0, hn_, hw_⟩ := HWAYS.out (of_decide_eq_true c39b0)
                   clear c40b0' c41b0' HWAYS
                   have H' := Aside0.mk (hn_.trans (congrArg some HRT.out.symm))
                   clear hn_
                   have p194 : 0 ≤ (x86_4 : Int) := of_decide_eq_true (by first | (with_reducible assumption) | assumption)
                   have q194 : x86_4 < (x13_2.length : Int) := of_decide_eq_true (by first | (with_reducible assumption) | assumption)
                   obtain ⟨ad194, e194, hx194_0, hx194_1, hx194_2, hx194_3, hx194_4⟩ := at_T50 (Kd.R_reads' HO_84.out).2.2 x86_4 p194 q194
                   obtain rfl : ad192 = ad194 := (by injection e194)
                   replace p194 := eq_true p194
                   replace q194 := eq_true q194
                   try go_wp2_with (first | ((with_reducible refine gate_dst (N := 19) rfl ?_); (try (refine gate_guard (by rfl) ?_; dsimp only)); refine box_event ?hg (N := 19) ?hd (cs := #[.int .i64 0, .int .i64 0, .int .i64 0, .int .i64 0, .int .i64 0]) (t := 50) ?hr ?_; (case hd => rfl); (case hg => rfl); (case hr => first | (go_simp; done) | (go_simp; rfl)); intro gb195 hg w55 hbox hb; have n0_ := Aside0.mk (Kd.R_below (by (with_reducible repeat (first | apply Kd.R_alloc | apply Kd.R_drewN | apply Kd.R_drew)); exact HO_15.out) hb); have n1_ := Aside0.mk (Kd.R_below (Kd.R_elderB (by (with_reducible repeat (first | apply Kd.R_alloc | apply Kd.R_drewN | apply Kd.R_drew)); exact HO_84.out) gb195 (Nat.le_of_eq hg.symm)) hb); have n2_ := Aside0.mk (blk_below (g := gb193) (o := .cells #[.int .i64 ((rd_T50 x13_2 (ji34)).f0), .int .i64 ((rd_T50 x13_2 (ji34)).f1), .int .i64 ((rd_T50 x13_2 (ji34)).f2), .int .i64 ((rd_T50 x13_2 (ji34)).f3.f0), .int .i64 ((rd_T50 x13_2 (ji34)).f3.f1)] 50 (0, 0)) (by (with_reducible repeat (first | refine blk_drewN ?_ _ | refine blk_drew ?_ | refine blk_alloc ?_ _)); exact BK193.out) hb); have n3_ := Aside0.mk (below_step (by repeat (first | (with_reducible first | exact HB.out | apply below_alloc | apply pw_below_drewN | apply below_drew1 | refine below_set ?_ GE193.out) | exact HB.out)) hb); have n4_ := Aside0.mk (hbox); have n5_ := Aside0.mk ((by rw [hg]; exact (below_size (by repeat (first | (with_reducible first | exact HB.out | apply below_alloc | apply pw_below_drewN | apply below_drew1 | refine below_set ?_ GE193.out) | exact HB.out))) : w.heap.size ≤ gb195)); have n6_ := Aside0.mk ((by rw [hg]; exact (below_size (by repeat (first | (with_reducible first | exact HB.out | apply below_alloc | apply pw_below_drewN | apply below_drew1 | refine below_set ?_ GE193.out) | exact HB.out))) : w.heap.size ≤ gb195)); have n7_ := Aside0.mk ((by rw [hg]; exact Nat.ne_of_lt (blk_lt (g := gb193) (o := .cells #[.int .i64 ((rd_T50 x13_2 (ji34)).f0), .int .i64 ((rd_T50 x13_2 (ji34)).f1), .int .i64 ((rd_T50 x13_2 (ji34)).f2), .int .i64 ((rd_T50 x13_2 (ji34)).f3.f0), .int .i64 ((rd_T50 x13_2 (ji34)).f3.f1)] 50 (0, 0)) (by (with_reducible repeat (first | refine blk_drewN ?_ _ | refine blk_drew ?_ | refine blk_alloc ?_ _)); exact BK193.out)) : gb193 ≠ gb195)); have n8_ := Aside0.mk ((by rw [hg]; exact Nat.ne_of_gt (blk_lt (g := gb193) (o := .cells #[.int .i64 ((rd_T50 x13_2 (ji34)).f0), .int .i64 ((rd_T50 x13_2 (ji34)).f1), .int .i64 ((rd_T50 x13_2 (ji34)).f2), .int .i64 ((rd_T50 x13_2 (ji34)).f3.f0), .int .i64 ((rd_T50 x13_2 (ji34)).f3.f1)] 50 (0, 0)) (by (with_reducible repeat (first | refine blk_drewN ?_ _ | refine blk_drew ?_ | refine blk_alloc ?_ _)); exact BK193.out)) : gb195 ≠ gb193)); clear HO_15; clear HO_84; clear BK193; clear HB; have HO_15 := n0_; have HO_84 := n1_; have BK193 := n2_; have HB := n3_; have BK195 := n4_; have GW195 := n5_; have GE195 := n6_; have NB193_195 := n7_; have NB195_193 := n8_; clear n0_ n1_ n2_ n3_ n4_ n5_ n6_ n7_ n8_; clear hb hbox hg; have hnb56 := NB195_193.out; have hnc56 := NB193_195.out; have hcz57_0 : w55.cell? ⟨gb195, 0, none⟩ = some (.int .i64 0) := (blk_cell BK195.out 0).trans rfl; have hcz57_1 : w55.cell? ⟨gb195, 1, none⟩ = some (.int .i64 0) := (blk_cell BK195.out 1).trans rfl; have hcz57_2 : w55.cell? ⟨gb195, 2, none⟩ = some (.int .i64 0) := (blk_cell BK195.out 2).trans rfl; have hcz57_3 : w55.cell? ⟨gb195, 3, none⟩ = some (.int .i64 0) := (blk_cell BK195.out 3).trans rfl; have hcz57_4 : w55.cell? ⟨gb195, 4, none⟩ = some (.int .i64 0) := (blk_cell BK195.out 4).trans rfl; have hfz57_0 := blk_frozen BK195.out 0; have hfz57_1 := blk_frozen BK195.out 1; have hfz57_2 := blk_frozen BK195.out 2; have hfz57_3 := blk_frozen BK195.out 3; have hfz57_4 := blk_frozen BK195.out 4))
                   have n0_ : Aside0 (Kd.R (Kd.int .i64) 3 (((((w55.setCell ⟨gb195, 0, none⟩ (.int .i64 ((rd_T50 x13_2 x86_4).f0))).setCell ⟨gb195, 1, none⟩ (.int .i64 ((rd_T50 x13_2 x86_4).f1))).setCell ⟨gb195, 2, none⟩ (.int .i64 ((rd_T50 x13_2 x86_4).f2))).setCell ⟨gb195, 3, none⟩ (.int .i64 ((rd_T50 x13_2 x86_4).f3.f0))).setCell ⟨gb195, 4, none⟩ (.int .i64 ((rd_T50 x13_2 x86_4).f3.f1))) w.heap.size (fun _ => True) v190 t188) := ⟨by (with_reducible repeat (first | apply Kd.R_alloc | apply Kd.R_drewN | apply Kd.R_drew)); exact Kd.R_mono (Kd.R_far (p := ⟨gb195, 4, none⟩) (Kd.R_far (p := ⟨gb195, 3, none⟩) (Kd.R_far (p := ⟨gb195, 2, none⟩) (Kd.R_far (p := ⟨gb195, 1, none⟩) (Kd.R_far (p := ⟨gb195, 0, none⟩) (Kd.R_types HO_15.out BK195.out (by decide)) (fun _ hk => hk.2) (.int .i64 ((rd_T50 x13_2 x86_4).f0))) (fun _ hk => hk.2) (.int .i64 ((rd_T50 x13_2 x86_4).f1))) (fun _ hk => hk.2) (.int .i64 ((rd_T50 x13_2 x86_4).f2))) (fun _ hk => hk.2) (.int .i64 ((rd_T50 x13_2 x86_4).f3.f0))) (fun _ hk => hk.2) (.int .i64 ((rd_T50 x13_2 x86_4).f3.f1))) (fun _ hk => trivial)⟩
                   have n1_ : Aside0 (Kd.R k50 50 (((((w55.setCell ⟨gb195, 0, none⟩ (.int .i64 ((rd_T50 x13_2 x86_4).f0))).setCell ⟨gb195, 1, none⟩ (.int .i64 ((rd_T50 x13_2 x86_4).f1))).setCell ⟨gb195, 2, none⟩ (.int .i64 ((rd_T50 x13_2 x86_4).f2))).setCell ⟨gb195, 3, none⟩ (.int .i64 ((rd_T50 x13_2 x86_4).f3.f0))).setCell ⟨gb195, 4, none⟩ (.int .i64 ((rd_T50 x13_2 x86_4).f3.f1))) w.heap.size (fun k_ => k_ ≠ gb193 ∧ k_ ≠ gb195) (.slice (some ad192) x13_2.length co19) x13_2) := ⟨by (with_reducible repeat (first | apply Kd.R_alloc | apply Kd.R_drewN | apply Kd.R_drew)); exact Kd.R_mono (Kd.R_far (p := ⟨gb195, 4, none⟩) (Kd.R_far (p := ⟨gb195, 3, none⟩) (Kd.R_far (p := ⟨gb195, 2, none⟩) (Kd.R_far (p := ⟨gb195, 1, none⟩) (Kd.R_far (p := ⟨gb195, 0, none⟩) (Kd.R_mono HO_84.out (fun k_ hk => (⟨hk, hk.2⟩ : _ ∧ k_ ≠ gb195))) (fun _ hk => hk.2) (.int .i64 ((rd_T50 x13_2 x86_4).f0))) (fun _ hk => hk.2) (.int .i64 ((rd_T50 x13_2 x86_4).f1))) (fun _ hk => hk.2) (.int .i64 ((rd_T50 x13_2 x86_4).f2))) (fun _ hk => hk.2) (.int .i64 ((rd_T50 x13_2 x86_4).f3.f0))) (fun _ hk => hk.2) (.int .i64 ((rd_T50 x13_2 x86_4).f3.f1))) (fun _ hk => ⟨hk.1.1, hk.1.2⟩)⟩
                   have n2_ : Aside0 ((((((w55.setCell ⟨gb195, 0, none⟩ (.int .i64 ((rd_T50 x13_2 x86_4).f0))).setCell ⟨gb195, 1, none⟩ (.int .i64 ((rd_T50 x13_2 x86_4).f1))).setCell ⟨gb195, 2, none⟩ (.int .i64 ((rd_T50 x13_2 x86_4).f2))).setCell ⟨gb195, 3, none⟩ (.int .i64 ((rd_T50 x13_2 x86_4).f3.f0))).setCell ⟨gb195, 4, none⟩ (.int .i64 ((rd_T50 x13_2 x86_4).f3.f1))).heap[gb193]? = some (.cells #[.int .i64 ((rd_T50 x13_2 (ji34)).f0), .int .i64 ((rd_T50 x13_2 (ji34)).f1), .int .i64 ((rd_T50 x13_2 (ji34)).f2), .int .i64 ((rd_T50 x13_2 (ji34)).f3.f0), .int .i64 ((rd_T50 x13_2 (ji34)).f3.f1)] 50 (0, 0))) := ⟨by (with_reducible repeat (first | refine blk_drewN ?_ _ | refine blk_drew ?_ | refine blk_alloc ?_ _)); refine blk_far ?_ NB193_195.out _; (with_reducible repeat (first | refine blk_drewN ?_ _ | refine blk_drew ?_ | refine blk_alloc ?_ _)); refine blk_far ?_ NB193_195.out _; (with_reducible repeat (first | refine blk_drewN ?_ _ | refine blk_drew ?_ | refine blk_alloc ?_ _)); refine blk_far ?_ NB193_195.out _; (with_reducible repeat (first | refine blk_drewN ?_ _ | refine blk_drew ?_ | refine blk_alloc ?_ _)); refine blk_far ?_ NB193_195.out _; (with_reducible repeat (first | refine blk_drewN ?_ _ | refine blk_drew ?_ | refine blk_alloc ?_ _)); refine blk_far ?_ NB193_195.out _; (with_reducible repeat (first | refine blk_drewN ?_ _ | refine blk_drew ?_ | refine blk_alloc ?_ _)); exact BK193.out⟩
                   have n3_ : Aside0 ((((((w55.setCell ⟨gb195, 0, none⟩ (.int .i64 ((rd_T50 x13_2 x86_4).f0))).setCell ⟨gb195, 1, none⟩ (.int .i64 ((rd_T50 x13_2 x86_4).f1))).setCell ⟨gb195, 2, none⟩ (.int .i64 ((rd_T50 x13_2 x86_4).f2))).setCell ⟨gb195, 3, none⟩ (.int .i64 ((rd_T50 x13_2 x86_4).f3.f0))).setCell ⟨gb195, 4, none⟩ (.int .i64 ((rd_T50 x13_2 x86_4).f3.f1))).heap[gb195]? = some (.cells #[.int .i64 ((rd_T50 x13_2 x86_4).f0), .int .i64 ((rd_T50 x13_2 x86_4).f1), .int .i64 ((rd_T50 x13_2 x86_4).f2), .int .i64 ((rd_T50 x13_2 x86_4).f3.f0), .int .i64 ((rd_T50 x13_2 x86_4).f3.f1)] 50 (0, 0))) := ⟨by (with_reducible repeat (first | refine blk_drewN ?_ _ | refine blk_drew ?_ | refine blk_alloc ?_ _)); refine blk_put (cs := #[.int .i64 ((rd_T50 x13_2 x86_4).f0), .int .i64 ((rd_T50 x13_2 x86_4).f1), .int .i64 ((rd_T50 x13_2 x86_4).f2), .int .i64 ((rd_T50 x13_2 x86_4).f3.f0), .int .i64 0]) ?_ 4 _ rfl; (with_reducible repeat (first | refine blk_drewN ?_ _ | refine blk_drew ?_ | refine blk_alloc ?_ _)); refine blk_put (cs := #[.int .i64 ((rd_T50 x13_2 x86_4).f0), .int .i64 ((rd_T50 x13_2 x86_4).f1), .int .i64 ((rd_T50 x13_2 x86_4).f2), .int .i64 0, .int .i64 0]) ?_ 3 _ rfl; (with_reducible repeat (first | refine blk_drewN ?_ _ | refine blk_drew ?_ | refine blk_alloc ?_ _)); refine blk_put (cs := #[.int .i64 ((rd_T50 x13_2 x86_4).f0), .int .i64 ((rd_T50 x13_2 x86_4).f1), .int .i64 0, .int .i64 0, .int .i64 0]) ?_ 2 _ rfl; (with_reducible repeat (first | refine blk_drewN ?_ _ | refine blk_drew ?_ | refine blk_alloc ?_ _)); refine blk_put (cs := #[.int .i64 ((rd_T50 x13_2 x86_4).f0), .int .i64 0, .int .i64 0, .int .i64 0, .int .i64 0]) ?_ 1 _ rfl; (with_reducible repeat (first | refine blk_drewN ?_ _ | refine blk_drew ?_ | refine blk_alloc ?_ _)); refine blk_put (cs := #[.int .i64 0, .int .i64 0, .int .i64 0, .int .i64 0, .int .i64 0]) ?_ 0 _ rfl; (with_reducible repeat (first | refine blk_drewN ?_ _ | refine blk_drew ?_ | refine blk_alloc ?_ _)); exact BK195.out⟩
                   have n4_ : Aside0 (Below w.heap.size w (((((w55.setCell ⟨gb195, 0, none⟩ (.int .i64 ((rd_T50 x13_2 x86_4).f0))).setCell ⟨gb195, 1, none⟩ (.int .i64 ((rd_T50 x13_2 x86_4).f1))).setCell ⟨gb195, 2, none⟩ (.int .i64 ((rd_T50 x13_2 x86_4).f2))).setCell ⟨gb195, 3, none⟩ (.int .i64 ((rd_T50 x13_2 x86_4).f3.f0))).setCell ⟨gb195, 4, none⟩ (.int .i64 ((rd_T50 x13_2 x86_4).f3.f1)))) := ⟨by repeat (first | (with_reducible first | exact HB.out | apply below_alloc | apply pw_below_drewN | apply below_drew1 | refine below_set ?_ GE193.out | refine below_set ?_ GE195.out) | exact HB.out)⟩
                   (try clear HO_15)
                   (try clear HO_84)
                   (try clear BK193)
                   (try clear BK195)
                   (try clear HB)
                   generalize (((((w55.setCell ⟨gb195, 0, none⟩ (.int .i64 ((rd_T50 x13_2 x86_4).f0))).setCell ⟨gb195, 1, none⟩ (.int .i64 ((rd_T50 x13_2 x86_4).f1))).setCell ⟨gb195, 2, none⟩ (.int .i64 ((rd_T50 x13_2 x86_4).f2))).setCell ⟨gb195, 3, none⟩ (.int .i64 ((rd_T50 x13_2 x86_4).f3.f0))).setCell ⟨gb195, 4, none⟩ (.int .i64 ((rd_T50 x13_2 x86_4).f3.f1))) = w58 at n0_ n1_ n2_ n3_ n4_ ⊢
                   have HO_15 := n0_
                   have HO_84 := n1_
                   have BK193 := n2_
                   have BK195 := n3_
                   have HB := n4_
                   clear n0_ n1_ n2_ n3_ n4_
                   have n0_ := Aside0.mk (Kd.R_drew HO_15.out)
                   have n1_ := Aside0.mk (Kd.R_drew HO_84.out)
                   have n2_ := Aside0.mk (blk_drew BK193.out)
                   have n3_ := Aside0.mk (blk_drew BK195.out)
                   have n4_ := Aside0.mk (below_drew1 HB.out)
                   clear HO_15
                   clear HO_84
                   clear BK193
                   clear BK195
                   clear HB
                   have HO_15 := n0_
                   have HO_84 := n1_
                   have BK193 := n2_
                   have BK195 := n3_
                   have HB := n4_
                   clear n0_ n1_ n2_ n3_ n4_
                   rcases hw_ with hw_ | ⟨c42b0, c42b1, c43b0, c43b1, c44b0, c44b1, c45b0, c46b0, c47b0, hw_⟩
                   ·
                    rcases hw_ with ⟨c42b0, c42b1, c62b0, c62b1⟩ | ⟨c42b0, c42b1, c43b0, c43b1, c62b0, c62b1⟩ | ⟨c42b0, c42b1, c43b0, c43b1, c44b0, c44b1, c62b0, c62b1⟩
                    all_goals
                     refine start_ (n := 44) (S := fun w' => w'.cell? ⟨gb193, 0, none⟩ = some (.int .i64 ((rd_T50 x13_2 (ji34)).f0)) ∧ w'.cell? ⟨gb193, 1, none⟩ = some (.int .i64 ((rd_T50 x13_2 (ji34)).f1)) ∧ w'.cell? ⟨gb193, 2, none⟩ = some (.int .i64 ((rd_T50 x13_2 (ji34)).f2)) ∧ w'.cell? ⟨gb193, 3, none⟩ = some (.int .i64 ((rd_T50 x13_2 (ji34)).f3.f0)) ∧ w'.cell? ⟨gb193, 4, none⟩ = some (.int .i64 ((rd_T50 x13_2 (ji34)).f3.f1)) ∧ w'.cell? ⟨gb195, 0, none⟩ = some (.int .i64 ((rd_T50 x13_2 x86_4).f0)) ∧ w'.cell? ⟨gb195, 1, none⟩ = some (.int .i64 ((rd_T50 x13_2 x86_4).f1)) ∧ w'.cell? ⟨gb195, 2, none⟩ = some (.int .i64 ((rd_T50 x13_2 x86_4).f2)) ∧ w'.cell? ⟨gb195, 3, none⟩ = some (.int .i64 ((rd_T50 x13_2 x86_4).f3.f0)) ∧ w'.cell? ⟨gb195, 4, none⟩ = some (.int .i64 ((rd_T50 x13_2 x86_4).f3.f1))) (ds := []) #[false, false, false, false, false, false, false, false, false, false, false, false, false, false, false, false, false, false, false, false, false, false, false, false, false, false, false, false, false, false, false, false, false, false, false, false, false, false, false, false, false, false, false, false] (by kernel_rfl) rfl rfl ⟨(blk_cell BK193.out 0).trans rfl, (blk_cell BK193.out 1).trans rfl, (blk_cell BK193.out 2).trans rfl, (blk_cell BK193.out 3).trans rfl, (blk_cell BK193.out 4).trans rfl, (blk_cell BK195.out 0).trans rfl, (blk_cell BK195.out 1).trans rfl, (blk_cell BK195.out 2).trans rfl, (blk_cell BK195.out 3).trans rfl, (blk_cell BK195.out 4).trans rfl⟩ (fun hHeld => ?_); refine with_tabW slotmeshlaw17_MediumAlone.tab19 slotmeshlaw17_MediumAlone.bits19 (fun HT_ HW_ => ?_)
                     generalize w58.drew = w59 at HO_15 HO_84 BK193 BK195 HB hHeld ⊢
                     refine pure_ (i := 0) (N := some 91) (v := ?_) (a' := ?_) #[true, false, false, false, false, false, false, false, false, false, false, false, false, false, false, false, false, false, false, false, false, false, false, false, false, false, false, false, false, false, false, false, false, false, false, false, false, false, false, false, false, false, false, false] rfl rfl (any_of HT_.out (by kernel_rfl)) (fun _ _ _ h => h) (Or.inl ⟨by rfl, ?_⟩) ?_ ?_
                     rotate_left
                     focus (intro w'; go_simp; with_reducible rfl)
                     rotate_left
                     focus (simp only [Act.put, List.setIfInBounds_toArray, List.set_cons_zero, List.set_cons_succ, i64_w, i32_w]; rfl)
                     refine take_ (i := 1) (N := some 92) (v := ?_) (a' := ?_) #[true, true, false, false, false, false, false, false, false, false, false, false, false, false, false, false, false, false, false, false, false, false, false, false, false, false, false, false, false, false, false, false, false, false, false, false, false, false, false, false, false, false, false, false] rfl rfl (take_ofW HT_.out HW_.out (by kernel_rfl)) (fun _ _ _ h => h) (Or.inl ⟨by rfl, ?_⟩) hHeld ?_ ?_
                     rotate_left
                     focus (rintro w' ⟨s0, s1, s2, s3, s4, s5, s6, s7, s8, s9⟩; go_simp; with_reducible rfl)
                     rotate_left
                     focus (simp only [Act.put, List.setIfInBounds_toArray, List.set_cons_zero, List.set_cons_succ, i64_w, i32_w]; rfl)
                     refine pure_ (i := 2) (N := some 93) (v := ?_) (a' := ?_) #[true, true, true, false, false, false, false, false, false, false, false, false, false, false, false, false, false, false, false, false, false, false, false, false, false, false, false, false, false, false, false, false, false, false, false, false, false, false, false, false, false, false, false, false] rfl rfl (any_of HT_.out (by kernel_rfl)) (fun _ _ _ h => h) (Or.inl ⟨by rfl, ?_⟩) ?_ ?_
                     rotate_left
                     focus (intro w'; go_simp; with_reducible rfl)
                     rotate_left
                     focus (simp only [Act.put, List.setIfInBounds_toArray, List.set_cons_zero, List.set_cons_succ, i64_w, i32_w]; rfl)
                     refine pure_ (i := 3) (N := some 94) (v := ?_) (a' := ?_) #[true, true, true, true, false, false, false, false, false, false, false, false, false, false, false, false, false, false, false, false, false, false, false, false, false, false, false, false, false, false, false, false, false, false, false, false, false, false, false, false, false, false, false, false] rfl rfl (any_of HT_.out (by kernel_rfl)) (fun _ _ _ h => h) (Or.inl ⟨by rfl, ?_⟩) ?_ ?_
                     rotate_left
                     focus (intro w'; go_simp; with_reducible rfl)
                     rotate_left
                     focus (simp only [Act.put, List.setIfInBounds_toArray, List.set_cons_zero, List.set_cons_succ, i64_w, i32_w]; rfl)
                     first
                     | refine pure_ (i := 4) (N := some 95) (v := ?_) (a' := ?_) #[true, true, true, true, true, false, false, false, false, false, false, false, false, false, false, false, false, false, false, false, false, false, false, false, false, false, false, false, false, false, false, false, false, false, false, false, false, false, false, false, false, false, false, false] rfl rfl (any_of HT_.out (by kernel_rfl)) (fun _ _ _ h => h) (Or.inl ⟨by rfl, ?_⟩) ?_ ?_
                       rotate_left
                       focus (intro w'; go_simp; with_reducible rfl)
                       rotate_left
                       focus (simp only [Act.put, List.setIfInBounds_toArray, List.set_cons_zero, List.set_cons_succ, i64_w, i32_w]; rfl)
                       refine take_ (i := 5) (N := some 96) (v := ?_) (a' := ?_) #[true, true, true, true, true, true, false, false, false, false, false, false, false, false, false, false, false, false, false, false, false, false, false, false, false, false, false, false, false, false, false, false, false, false, false, false, false, false, false, false, false, false, false, false] rfl rfl (take_ofW HT_.out HW_.out (by kernel_rfl)) (fun _ _ _ h => h) (Or.inl ⟨by rfl, ?_⟩) hHeld ?_ ?_
                       rotate_left
                       focus (rintro w' ⟨s0, s1, s2, s3, s4, s5, s6, s7, s8, s9⟩; go_simp; with_reducible rfl)
                       rotate_left
                       focus (simp only [Act.put, List.setIfInBounds_toArray, List.set_cons_zero, List.set_cons_succ, i64_w, i32_w]; rfl)
                       refine pure_ (i := 6) (N := some 97) (v := ?_) (a' := ?_) #[true, true, true, true, true, true, true, false, false, false, false, false, false, false, false, false, false, false, false, false, false, false, false, false, false, false, false, false, false, false, false, false, false, false, false, false, false, false, false, false, false, false, false, false] rfl rfl (any_of HT_.out (by kernel_rfl)) (fun _ _ _ h => h) (Or.inl ⟨by rfl, ?_⟩) ?_ ?_
                       rotate_left
                       focus (intro w'; go_simp; with_reducible rfl)
                       rotate_left
                       focus (simp only [Act.put, List.setIfInBounds_toArray, List.set_cons_zero, List.set_cons_succ, i64_w, i32_w]; rfl)
                     | refine pure_ (i := 4) (N := some 95) (v := undef) (a' := ?_) #[true, true, true, true, true, false, false, false, false, false, false, false, false, false, false, false, false, false, false, false, false, false, false, false, false, false, false, false, false, false, false, false, false, false, false, false, false, false, false, false, false, false, false, false] rfl rfl (any_of HT_.out (by kernel_rfl)) (fun _ _ _ h => h) (Or.inr ⟨by rfl, rfl⟩) ?_ ?_
                       rotate_left
                       focus (simp only [Act.put, List.setIfInBounds_toArray, List.set_cons_zero, List.set_cons_succ, i64_w, i32_w]; rfl)
                       refine pure_ (i := 5) (N := some 96) (v := undef) (a' := ?_) #[true, true, true, true, true, true, false, false, false, false, false, false, false, false, false, false, false, false, false, false, false, false, false, false, false, false, false, false, false, false, false, false, false, false, false, false, false, false, false, false, false, false, false, false] rfl rfl (any_of HT_.out (by kernel_rfl)) (fun _ _ _ h => h) (Or.inr ⟨by rfl, rfl⟩) ?_ ?_
                       rotate_left
                       focus (simp only [Act.put, List.setIfInBounds_toArray, List.set_cons_zero, List.set_cons_succ, i64_w, i32_w]; rfl)
                       refine pure_ (i := 6) (N := some 97) (v := undef) (a' := ?_) #[true, true, true, true, true, true, true, false, false, false, false, false, false, false, false, false, false, false, false, false, false, false, false, false, false, false, false, false, false, false, false, false, false, false, false, false, false, false, false, false, false, false, false, false] rfl rfl (any_of HT_.out (by kernel_rfl)) (fun _ _ _ h => h) (Or.inr ⟨by rfl, rfl⟩) ?_ ?_
                       rotate_left
                       focus (simp only [Act.put, List.setIfInBounds_toArray, List.set_cons_zero, List.set_cons_succ, i64_w, i32_w]; rfl)
                     refine pure_ (i := 7) (N := some 98) (v := ?_) (a' := ?_) #[true, true, true, true, true, true, true, true, false, false, false, false, false, false, false, false, false, false, false, false, false, false, false, false, false, false, false, false, false, false, false, false, false, false, false, false, false, false, false, false, false, false, false, false] rfl rfl (any_of HT_.out (by kernel_rfl)) (fun _ _ _ h => h) (Or.inl ⟨by rfl, ?_⟩) ?_ ?_
                     rotate_left
                     focus (intro w'; go_simp; with_reducible rfl)
                     rotate_left
                     focus (simp only [Act.put, List.setIfInBounds_toArray, List.set_cons_zero, List.set_cons_succ, i64_w, i32_w]; rfl)
                     refine pure_ (i := 8) (N := some 99) (v := ?_) (a' := ?_) #[true, true, true, true, true, true, true, true, true, false, false, false, false, false, false, false, false, false, false, false, false, false, false, false, false, false, false, false, false, false, false, false, false, false, false, false, false, false, false, false, false, false, false, false] rfl rfl (any_of HT_.out (by kernel_rfl)) (fun _ _ _ h => h) (Or.inl ⟨by rfl, ?_⟩) ?_ ?_
                     rotate_left
                     focus (intro w'; go_simp; with_reducible rfl)
                     rotate_left
                     focus (simp only [Act.put, List.setIfInBounds_toArray, List.set_cons_zero, List.set_cons_succ, i64_w, i32_w]; rfl)
                     first
                     | refine pure_ (i := 9) (N := some 100) (v := ?_) (a' := ?_) #[true, true, true, true, true, true, true, true, true, true, false, false, false, false, false, false, false, false, false, false, false, false, false, false, false, false, false, false, false, false, false, false, false, false, false, false, false, false, false, false, false, false, false, false] rfl rfl (any_of HT_.out (by kernel_rfl)) (fun _ _ _ h => h) (Or.inl ⟨by rfl, ?_⟩) ?_ ?_
                       rotate_left
                       focus (intro w'; go_simp; with_reducible rfl)
                       rotate_left
                       focus (simp only [Act.put, List.setIfInBounds_toArray, List.set_cons_zero, List.set_cons_succ, i64_w, i32_w]; rfl)
                       refine take_ (i := 10) (N := some 101) (v := ?_) (a' := ?_) #[true, true, true, true, true, true, true, true, true, true, true, false, false, false, false, false, false, false, false, false, false, false, false, false, false, false, false, false, false, false, false, false, false, false, false, false, false, false, false, false, false, false, false, false] rfl rfl (take_ofW HT_.out HW_.out (by kernel_rfl)) (fun _ _ _ h => h) (Or.inl ⟨by rfl, ?_⟩) hHeld ?_ ?_
                       rotate_left
                       focus (rintro w' ⟨s0, s1, s2, s3, s4, s5, s6, s7, s8, s9⟩; go_simp; with_reducible rfl)
                       rotate_left
                       focus (simp only [Act.put, List.setIfInBounds_toArray, List.set_cons_zero, List.set_cons_succ, i64_w, i32_w]; rfl)
                       refine pure_ (i := 11) (N := some 102) (v := ?_) (a' := ?_) #[true, true, true, true, true, true, true, true, true, true, true, true, false, false, false, false, false, false, false, false, false, false, false, false, false, false, false, false, false, false, false, false, false, false, false, false, false, false, false, false, false, false, false, false] rfl rfl (any_of HT_.out (by kernel_rfl)) (fun _ _ _ h => h) (Or.inl ⟨by rfl, ?_⟩) ?_ ?_
                       rotate_left
                       focus (intro w'; go_simp; with_reducible rfl)
                       rotate_left
                       focus (simp only [Act.put, List.setIfInBounds_toArray, List.set_cons_zero, List.set_cons_succ, i64_w, i32_w]; rfl)
                       refine take_ (i := 12) (N := some 103) (v := ?_) (a' := ?_) #[true, true, true, true, true, true, true, true, true, true, true, true, true, false, false, false, false, false, false, false, false, false, false, false, false, false, false, false, false, false, false, false, false, false, false, false, false, false, false, false, false, false, false, false] rfl rfl (take_ofW HT_.out HW_.out (by kernel_rfl)) (fun _ _ _ h => h) (Or.inl ⟨by rfl, ?_⟩) hHeld ?_ ?_
                       rotate_left
                       focus (rintro w' ⟨s0, s1, s2, s3, s4, s5, s6, s7, s8, s9⟩; go_simp; with_reducible rfl)
                       rotate_left
                       focus (simp only [Act.put, List.setIfInBounds_toArray, List.set_cons_zero, List.set_cons_succ, i64_w, i32_w]; rfl)
                       refine pure_ (i := 13) (N := some 104) (v := ?_) (a' := ?_) #[true, true, true, true, true, true, true, true, true, true, true, true, true, true, false, false, false, false, false, false, false, false, false, false, false, false, false, false, false, false, false, false, false, false, false, false, false, false, false, false, false, false, false, false] rfl rfl (any_of HT_.out (by kernel_rfl)) (fun _ _ _ h => h) (Or.inl ⟨by rfl, ?_⟩) ?_ ?_
                       rotate_left
                       focus (intro w'; go_simp; with_reducible rfl)
                       rotate_left
                       focus (simp only [Act.put, List.setIfInBounds_toArray, List.set_cons_zero, List.set_cons_succ, i64_w, i32_w]; rfl)
                     | refine pure_ (i := 9) (N := some 100) (v := undef) (a' := ?_) #[true, true, true, true, true, true, true, true, true, true, false, false, false, false, false, false, false, false, false, false, false, false, false, false, false, false, false, false, false, false, false, false, false, false, false, false, false, false, false, false, false, false, false, false] rfl rfl (any_of HT_.out (by kernel_rfl)) (fun _ _ _ h => h) (Or.inr ⟨by rfl, rfl⟩) ?_ ?_
                       rotate_left
                       focus (simp only [Act.put, List.setIfInBounds_toArray, List.set_cons_zero, List.set_cons_succ, i64_w, i32_w]; rfl)
                       refine pure_ (i := 10) (N := some 101) (v := undef) (a' := ?_) #[true, true, true, true, true, true, true, true, true, true, true, false, false, false, false, false, false, false, false, false, false, false, false, false, false, false, false, false, false, false, false, false, false, false, false, false, false, false, false, false, false, false, false, false] rfl rfl (any_of HT_.out (by kernel_rfl)) (fun _ _ _ h => h) (Or.inr ⟨by rfl, rfl⟩) ?_ ?_
                       rotate_left
                       focus (simp only [Act.put, List.setIfInBounds_toArray, List.set_cons_zero, List.set_cons_succ, i64_w, i32_w]; rfl)
                       refine pure_ (i := 11) (N := some 102) (v := undef) (a' := ?_) #[true, true, true, true, true, true, true, true, true, true, true, true, false, false, false, false, false, false, false, false, false, false, false, false, false, false, false, false, false, false, false, false, false, false, false, false, false, false, false, false, false, false, false, false] rfl rfl (any_of HT_.out (by kernel_rfl)) (fun _ _ _ h => h) (Or.inr ⟨by rfl, rfl⟩) ?_ ?_
                       rotate_left
                       focus (simp only [Act.put, List.setIfInBounds_toArray, List.set_cons_zero, List.set_cons_succ, i64_w, i32_w]; rfl)
                       refine pure_ (i := 12) (N := some 103) (v := undef) (a' := ?_) #[true, true, true, true, true, true, true, true, true, true, true, true, true, false, false, false, false, false, false, false, false, false, false, false, false, false, false, false, false, false, false, false, false, false, false, false, false, false, false, false, false, false, false, false] rfl rfl (any_of HT_.out (by kernel_rfl)) (fun _ _ _ h => h) (Or.inr ⟨by rfl, rfl⟩) ?_ ?_
                       rotate_left
                       focus (simp only [Act.put, List.setIfInBounds_toArray, List.set_cons_zero, List.set_cons_succ, i64_w, i32_w]; rfl)
                       refine pure_ (i := 13) (N := some 104) (v := undef) (a' := ?_) #[true, true, true, true, true, true, true, true, true, true, true, true, true, true, false, false, false, false, false, false, false, false, false, false, false, false, false, false, false, false, false, false, false, false, false, false, false, false, false, false, false, false, false, false] rfl rfl (any_of HT_.out (by kernel_rfl)) (fun _ _ _ h => h) (Or.inr ⟨by rfl, rfl⟩) ?_ ?_
                       rotate_left
                       focus (simp only [Act.put, List.setIfInBounds_toArray, List.set_cons_zero, List.set_cons_succ, i64_w, i32_w]; rfl)
                     refine pure_ (i := 14) (N := some 105) (v := ?_) (a' := ?_) #[true, true, true, true, true, true, true, true, true, true, true, true, true, true, true, false, false, false, false, false, false, false, false, false, false, false, false, false, false, false, false, false, false, false, false, false, false, false, false, false, false, false, false, false] rfl rfl (any_of HT_.out (by kernel_rfl)) (fun _ _ _ h => h) (Or.inl ⟨by rfl, ?_⟩) ?_ ?_
                     rotate_left
                     focus (intro w'; go_simp; with_reducible rfl)
                     rotate_left
                     focus (simp only [Act.put, List.setIfInBounds_toArray, List.set_cons_zero, List.set_cons_succ, i64_w, i32_w]; rfl)
                     refine pure_ (i := 15) (N := some 106) (v := ?_) (a' := ?_) #[true, true, true, true, true, true, true, true, true, true, true, true, true, true, true, true, false, false, false, false, false, false, false, false, false, false, false, false, false, false, false, false, false, false, false, false, false, false, false, false, false, false, false, false] rfl rfl (any_of HT_.out (by kernel_rfl)) (fun _ _ _ h => h) (Or.inl ⟨by rfl, ?_⟩) ?_ ?_
                     rotate_left
                     focus (intro w'; go_simp; with_reducible rfl)
                     rotate_left
                     focus (simp only [Act.put, List.setIfInBounds_toArray, List.set_cons_zero, List.set_cons_succ, i64_w, i32_w]; rfl)
                     refine pure_ (i := 16) (N := some 107) (v := undef) (a' := ?_) #[true, true, true, true, true, true, true, true, true, true, true, true, true, true, true, true, true, false, false, false, false, false, false, false, false, false, false, false, false, false, false, false, false, false, false, false, false, false, false, false, false, false, false, false] rfl rfl (any_of HT_.out (by kernel_rfl)) (fun _ _ _ h => h) (Or.inr ⟨by rfl, rfl⟩) ?_ ?_
                     rotate_left
                     focus (simp only [Act.put, List.setIfInBounds_toArray, List.set_cons_zero, List.set_cons_succ, i64_w, i32_w]; rfl)
                     refine pure_ (i := 17) (N := some 108) (v := undef) (a' := ?_) #[true, true, true, true, true, true, true, true, true, true, true, true, true, true, true, true, true, true, false, false, false, false, false, false, false, false, false, false, false, false, false, false, false, false, false, false, false, false, false, false, false, false, false, false] rfl rfl (any_of HT_.out (by kernel_rfl)) (fun _ _ _ h => h) (Or.inr ⟨by rfl, rfl⟩) ?_ ?_
                     rotate_left
                     focus (simp only [Act.put, List.setIfInBounds_toArray, List.set_cons_zero, List.set_cons_succ, i64_w, i32_w]; rfl)
                     refine pure_ (i := 18) (N := some 109) (v := undef) (a' := ?_) #[true, true, true, true, true, true, true, true, true, true, true, true, true, true, true, true, true, true, true, false, false, false, false, false, false, false, false, false, false, false, false, false, false, false, false, false, false, false, false, false, false, false, false, false] rfl rfl (any_of HT_.out (by kernel_rfl)) (fun _ _ _ h => h) (Or.inr ⟨by rfl, rfl⟩) ?_ ?_
                     rotate_left
                     focus (simp only [Act.put, List.setIfInBounds_toArray, List.set_cons_zero, List.set_cons_succ, i64_w, i32_w]; rfl)
                     refine pure_ (i := 19) (N := some 110) (v := undef) (a' := ?_) #[true, true, true, true, true, true, true, true, true, true, true, true, true, true, true, true, true, true, true, true, false, false, false, false, false, false, false, false, false, false, false, false, false, false, false, false, false, false, false, false, false, false, false, false] rfl rfl (any_of HT_.out (by kernel_rfl)) (fun _ _ _ h => h) (Or.inr ⟨by rfl, rfl⟩) ?_ ?_
                     rotate_left
                     focus (simp only [Act.put, List.setIfInBounds_toArray, List.set_cons_zero, List.set_cons_succ, i64_w, i32_w]; rfl)
                     refine pure_ (i := 20) (N := some 111) (v := undef) (a' := ?_) #[true, true, true, true, true, true, true, true, true, true, true, true, true, true, true, true, true, true, true, true, true, false, false, false, false, false, false, false, false, false, false, false, false, false, false, false, false, false, false, false, false, false, false, false] rfl rfl (any_of HT_.out (by kernel_rfl)) (fun _ _ _ h => h) (Or.inr ⟨by rfl, rfl⟩) ?_ ?_
                     rotate_left
                     focus (simp only [Act.put, List.setIfInBounds_toArray, List.set_cons_zero, List.set_cons_succ, i64_w, i32_w]; rfl)
                     refine pure_ (i := 21) (N := some 112) (v := undef) (a' := ?_) #[true, true, true, true, true, true, true, true, true, true, true, true, true, true, true, true, true, true, true, true, true, true, false, false, false, false, false, false, false, false, false, false, false, false, false, false, false, false, false, false, false, false, false, false] rfl rfl (any_of HT_.out (by kernel_rfl)) (fun _ _ _ h => h) (Or.inr ⟨by rfl, rfl⟩) ?_ ?_
                     rotate_left
                     focus (simp only [Act.put, List.setIfInBounds_toArray, List.set_cons_zero, List.set_cons_succ, i64_w, i32_w]; rfl)
                     refine pure_ (i := 22) (N := some 113) (v := undef) (a' := ?_) #[true, true, true, true, true, true, true, true, true, true, true, true, true, true, true, true, true, true, true, true, true, true, true, false, false, false, false, false, false, false, false, false, false, false, false, false, false, false, false, false, false, false, false, false] rfl rfl (any_of HT_.out (by kernel_rfl)) (fun _ _ _ h => h) (Or.inr ⟨by rfl, rfl⟩) ?_ ?_
                     rotate_left
                     focus (simp only [Act.put, List.setIfInBounds_toArray, List.set_cons_zero, List.set_cons_succ, i64_w, i32_w]; rfl)
                     refine pure_ (i := 23) (N := some 114) (v := undef) (a' := ?_) #[true, true, true, true, true, true, true, true, true, true, true, true, true, true, true, true, true, true, true, true, true, true, true, true, false, false, false, false, false, false, false, false, false, false, false, false, false, false, false, false, false, false, false, false] rfl rfl (any_of HT_.out (by kernel_rfl)) (fun _ _ _ h => h) (Or.inr ⟨by rfl, rfl⟩) ?_ ?_
                     rotate_left
                     focus (simp only [Act.put, List.setIfInBounds_toArray, List.set_cons_zero, List.set_cons_succ, i64_w, i32_w]; rfl)
                     refine pure_ (i := 24) (N := some 115) (v := undef) (a' := ?_) #[true, true, true, true, true, true, true, true, true, true, true, true, true, true, true, true, true, true, true, true, true, true, true, true, true, false, false, false, false, false, false, false, false, false, false, false, false, false, false, false, false, false, false, false] rfl rfl (any_of HT_.out (by kernel_rfl)) (fun _ _ _ h => h) (Or.inr ⟨by rfl, rfl⟩) ?_ ?_
                     rotate_left
                     focus (simp only [Act.put, List.setIfInBounds_toArray, List.set_cons_zero, List.set_cons_succ, i64_w, i32_w]; rfl)
                     refine pure_ (i := 25) (N := some 116) (v := undef) (a' := ?_) #[true, true, true, true, true, true, true, true, true, true, true, true, true, true, true, true, true, true, true, true, true, true, true, true, true, true, false, false, false, false, false, false, false, false, false, false, false, false, false, false, false, false, false, false] rfl rfl (any_of HT_.out (by kernel_rfl)) (fun _ _ _ h => h) (Or.inr ⟨by rfl, rfl⟩) ?_ ?_
                     rotate_left
                     focus (simp only [Act.put, List.setIfInBounds_toArray, List.set_cons_zero, List.set_cons_succ, i64_w, i32_w]; rfl)
                     refine pure_ (i := 26) (N := some 117) (v := ?_) (a' := ?_) #[true, true, true, true, true, true, true, true, true, true, true, true, true, true, true, true, true, true, true, true, true, true, true, true, true, true, true, false, false, false, false, false, false, false, false, false, false, false, false, false, false, false, false, false] rfl rfl (any_of HT_.out (by kernel_rfl)) (fun _ _ _ h => h) (Or.inl ⟨by rfl, ?_⟩) ?_ ?_
                     rotate_left
                     focus (intro w'; go_simp; with_reducible rfl)
                     rotate_left
                     focus (simp only [Act.put, List.setIfInBounds_toArray, List.set_cons_zero, List.set_cons_succ, i64_w, i32_w]; rfl)
                     refine pure_ (i := 27) (N := some 118) (v := ?_) (a' := ?_) #[true, true, true, true, true, true, true, true, true, true, true, true, true, true, true, true, true, true, true, true, true, true, true, true, true, true, true, true, false, false, false, false, false, false, false, false, false, false, false, false, false, false, false, false] rfl rfl (any_of HT_.out (by kernel_rfl)) (fun _ _ _ h => h) (Or.inl ⟨by rfl, ?_⟩) ?_ ?_
                     rotate_left
                     focus (intro w'; go_simp; with_reducible rfl)
                     rotate_left
                     focus (simp only [Act.put, List.setIfInBounds_toArray, List.set_cons_zero, List.set_cons_succ, i64_w, i32_w]; rfl)
                     refine pure_ (i := 28) (N := some 119) (v := undef) (a' := ?_) #[true, true, true, true, true, true, true, true, true, true, true, true, true, true, true, true, true, true, true, true, true, true, true, true, true, true, true, true, true, false, false, false, false, false, false, false, false, false, false, false, false, false, false, false] rfl rfl (any_of HT_.out (by kernel_rfl)) (fun _ _ _ h => h) (Or.inr ⟨by rfl, rfl⟩) ?_ ?_
                     rotate_left
                     focus (simp only [Act.put, List.setIfInBounds_toArray, List.set_cons_zero, List.set_cons_succ, i64_w, i32_w]; rfl)
                     refine pure_ (i := 29) (N := some 120) (v := undef) (a' := ?_) #[true, true, true, true, true, true, true, true, true, true, true, true, true, true, true, true, true, true, true, true, true, true, true, true, true, true, true, true, true, true, false, false, false, false, false, false, false, false, false, false, false, false, false, false] rfl rfl (any_of HT_.out (by kernel_rfl)) (fun _ _ _ h => h) (Or.inr ⟨by rfl, rfl⟩) ?_ ?_
                     rotate_left
                     focus (simp only [Act.put, List.setIfInBounds_toArray, List.set_cons_zero, List.set_cons_succ, i64_w, i32_w]; rfl)
                     refine pure_ (i := 30) (N := some 121) (v := undef) (a' := ?_) #[true, true, true, true, true, true, true, true, true, true, true, true, true, true, true, true, true, true, true, true, true, true, true, true, true, true, true, true, true, true, true, false, false, false, false, false, false, false, false, false, false, false, false, false] rfl rfl (any_of HT_.out (by kernel_rfl)) (fun _ _ _ h => h) (Or.inr ⟨by rfl, rfl⟩) ?_ ?_
                     rotate_left
                     focus (simp only [Act.put, List.setIfInBounds_toArray, List.set_cons_zero, List.set_cons_succ, i64_w, i32_w]; rfl)
                     refine pure_ (i := 31) (N := some 122) (v := undef) (a' := ?_) #[true, true, true, true, true, true, true, true, true, true, true, true, true, true, true, true, true, true, true, true, true, true, true, true, true, true, true, true, true, true, true, true, false, false, false, false, false, false, false, false, false, false, false, false] rfl rfl (any_of HT_.out (by kernel_rfl)) (fun _ _ _ h => h) (Or.inr ⟨by rfl, rfl⟩) ?_ ?_
                     rotate_left
                     focus (simp only [Act.put, List.setIfInBounds_toArray, List.set_cons_zero, List.set_cons_succ, i64_w, i32_w]; rfl)
                     refine pure_ (i := 32) (N := some 123) (v := undef) (a' := ?_) #[true, true, true, true, true, true, true, true, true, true, true, true, true, true, true, true, true, true, true, true, true, true, true, true, true, true, true, true, true, true, true, true, true, false, false, false, false, false, false, false, false, false, false, false] rfl rfl (any_of HT_.out (by kernel_rfl)) (fun _ _ _ h => h) (Or.inr ⟨by rfl, rfl⟩) ?_ ?_
                     rotate_left
                     focus (simp only [Act.put, List.setIfInBounds_toArray, List.set_cons_zero, List.set_cons_succ, i64_w, i32_w]; rfl)
                     refine pure_ (i := 33) (N := some 124) (v := undef) (a' := ?_) #[true, true, true, true, true, true, true, true, true, true, true, true, true, true, true, true, true, true, true, true, true, true, true, true, true, true, true, true, true, true, true, true, true, true, false, false, false, false, false, false, false, false, false, false] rfl rfl (any_of HT_.out (by kernel_rfl)) (fun _ _ _ h => h) (Or.inr ⟨by rfl, rfl⟩) ?_ ?_
                     rotate_left
                     focus (simp only [Act.put, List.setIfInBounds_toArray, List.set_cons_zero, List.set_cons_succ, i64_w, i32_w]; rfl)
                     refine pure_ (i := 34) (N := some 125) (v := ?_) (a' := ?_) #[true, true, true, true, true, true, true, true, true, true, true, true, true, true, true, true, true, true, true, true, true, true, true, true, true, true, true, true, true, true, true, true, true, true, true, false, false, false, false, false, false, false, false, false] rfl rfl (any_of HT_.out (by kernel_rfl)) (fun _ _ _ h => h) (Or.inl ⟨by rfl, ?_⟩) ?_ ?_
                     rotate_left
                     focus (intro w'; go_simp; with_reducible rfl)
                     rotate_left
                     focus (simp only [Act.put, List.setIfInBounds_toArray, List.set_cons_zero, List.set_cons_succ, i64_w, i32_w]; rfl)
                     refine pure_ (i := 35) (N := some 126) (v := ?_) (a' := ?_) #[true, true, true, true, true, true, true, true, true, true, true, true, true, true, true, true, true, true, true, true, true, true, true, true, true, true, true, true, true, true, true, true, true, true, true, true, false, false, false, false, false, false, false, false] rfl rfl (any_of HT_.out (by kernel_rfl)) (fun _ _ _ h => h) (Or.inl ⟨by rfl, ?_⟩) ?_ ?_
                     rotate_left
                     focus (intro w'; go_simp; with_reducible rfl)
                     rotate_left
                     focus (simp only [Act.put, List.setIfInBounds_toArray, List.set_cons_zero, List.set_cons_succ, i64_w, i32_w]; rfl)
                     refine pure_ (i := 36) (N := some 127) (v := undef) (a' := ?_) #[true, true, true, true, true, true, true, true, true, true, true, true, true, true, true, true, true, true, true, true, true, true, true, true, true, true, true, true, true, true, true, true, true, true, true, true, true, false, false, false, false, false, false, false] rfl rfl (any_of HT_.out (by kernel_rfl)) (fun _ _ _ h => h) (Or.inr ⟨by rfl, rfl⟩) ?_ ?_
                     rotate_left
                     focus (simp only [Act.put, List.setIfInBounds_toArray, List.set_cons_zero, List.set_cons_succ, i64_w, i32_w]; rfl)
                     refine pure_ (i := 37) (N := some 128) (v := undef) (a' := ?_) #[true, true, true, true, true, true, true, true, true, true, true, true, true, true, true, true, true, true, true, true, true, true, true, true, true, true, true, true, true, true, true, true, true, true, true, true, true, true, false, false, false, false, false, false] rfl rfl (any_of HT_.out (by kernel_rfl)) (fun _ _ _ h => h) (Or.inr ⟨by rfl, rfl⟩) ?_ ?_
                     rotate_left
                     focus (simp only [Act.put, List.setIfInBounds_toArray, List.set_cons_zero, List.set_cons_succ, i64_w, i32_w]; rfl)
                     refine pure_ (i := 38) (N := some 129) (v := undef) (a' := ?_) #[true, true, true, true, true, true, true, true, true, true, true, true, true, true, true, true, true, true, true, true, true, true, true, true, true, true, true, true, true, true, true, true, true, true, true, true, true, true, true, false, false, false, false, false] rfl rfl (any_of HT_.out (by kernel_rfl)) (fun _ _ _ h => h) (Or.inr ⟨by rfl, rfl⟩) ?_ ?_
                     rotate_left
                     focus (simp only [Act.put, List.setIfInBounds_toArray, List.set_cons_zero, List.set_cons_succ, i64_w, i32_w]; rfl)
                     refine pure_ (i := 39) (N := some 130) (v := undef) (a' := ?_) #[true, true, true, true, true, true, true, true, true, true, true, true, true, true, true, true, true, true, true, true, true, true, true, true, true, true, true, true, true, true, true, true, true, true, true, true, true, true, true, true, false, false, false, false] rfl rfl (any_of HT_.out (by kernel_rfl)) (fun _ _ _ h => h) (Or.inr ⟨by rfl, rfl⟩) ?_ ?_
                     rotate_left
                     focus (simp only [Act.put, List.setIfInBounds_toArray, List.set_cons_zero, List.set_cons_succ, i64_w, i32_w]; rfl)
                     refine pure_ (i := 40) (N := some 131) (v := undef) (a' := ?_) #[true, true, true, true, true, true, true, true, true, true, true, true, true, true, true, true, true, true, true, true, true, true, true, true, true, true, true, true, true, true, true, true, true, true, true, true, true, true, true, true, true, false, false, false] rfl rfl (any_of HT_.out (by kernel_rfl)) (fun _ _ _ h => h) (Or.inr ⟨by rfl, rfl⟩) ?_ ?_
                     rotate_left
                     focus (simp only [Act.put, List.setIfInBounds_toArray, List.set_cons_zero, List.set_cons_succ, i64_w, i32_w]; rfl)
                     refine pure_ (i := 41) (N := some 132) (v := undef) (a' := ?_) #[true, true, true, true, true, true, true, true, true, true, true, true, true, true, true, true, true, true, true, true, true, true, true, true, true, true, true, true, true, true, true, true, true, true, true, true, true, true, true, true, true, true, false, false] rfl rfl (any_of HT_.out (by kernel_rfl)) (fun _ _ _ h => h) (Or.inr ⟨by rfl, rfl⟩) ?_ ?_
                     rotate_left
                     focus (simp only [Act.put, List.setIfInBounds_toArray, List.set_cons_zero, List.set_cons_succ, i64_w, i32_w]; rfl)
                     refine pure_ (i := 42) (N := some 133) (v := ?_) (a' := ?_) #[true, true, true, true, true, true, true, true, true, true, true, true, true, true, true, true, true, true, true, true, true, true, true, true, true, true, true, true, true, true, true, true, true, true, true, true, true, true, true, true, true, true, true, false] rfl rfl (any_of HT_.out (by kernel_rfl)) (fun _ _ _ h => h) (Or.inl ⟨by rfl, ?_⟩) ?_ ?_
                     rotate_left
                     focus (intro w'; go_simp; with_reducible rfl)
                     rotate_left
                     focus (simp only [Act.put, List.setIfInBounds_toArray, List.set_cons_zero, List.set_cons_succ, i64_w, i32_w]; rfl)
                     refine pure_ (i := 43) (N := some 20) (v := ?_) (a' := ?_) #[true, true, true, true, true, true, true, true, true, true, true, true, true, true, true, true, true, true, true, true, true, true, true, true, true, true, true, true, true, true, true, true, true, true, true, true, true, true, true, true, true, true, true, true] rfl rfl (any_of HT_.out (by kernel_rfl)) (fun _ _ _ h => h) (Or.inl ⟨by rfl, ?_⟩) ?_ ?_
                     rotate_left
                     focus (intro w'; go_simp; with_reducible rfl)
                     rotate_left
                     focus (simp only [Act.put, List.setIfInBounds_toArray, List.set_cons_zero, List.set_cons_succ, i64_w, i32_w]; rfl)
                     refine done_ (done_of HT_.out (by kernel_rfl)) ?_
                     obtain ⟨Ao61, co61, eo61⟩ := Kd.R_slice HO_15.out
                     subst eo61
                     have p199 : 0 ≤ (x86_4 : Int) := of_decide_eq_true (by first | (with_reducible assumption) | assumption)
                     have q199 : x86_4 < (t188.length : Int) := of_decide_eq_true (by first | (with_reducible assumption) | assumption)
                     obtain ⟨ad199, e199, hx199_0⟩ := Kd.at_int (Kd.R_reads' HO_15.out).2.2 x86_4 p199 q199
                     cases e199
                     replace p199 := eq_true p199
                     replace q199 := eq_true q199
                     try go_wp2
                     go_roundg k4
                     case measure => have := HJ6.out; have := HK2.out; have := HJ28.out; have := HK4.out; omega
                     case rel => exact ⟨(wrap64 (x86_4 + 1)), (by first | rfl | (simp; done) | (simp [*]; done)), H', ⟨by have := HJ6.out; have := HK2.out; have := HJ28.out; have := HK4.out; omega⟩, ⟨by (try simp only [hl13_2]); (with_reducible repeat (first | apply Kd.R_alloc | apply Kd.R_drewN | apply Kd.R_drew)); exact HO_15.out⟩, ⟨by (try simp only [hl13_2]); (with_reducible repeat (first | apply Kd.R_alloc | apply Kd.R_drewN | apply Kd.R_drew)); exact Kd.R_mono HO_84.out (fun _ hk => hk.1)⟩, ⟨by (try simp only [hl13_2]); (with_reducible repeat (first | refine blk_drewN ?_ _ | refine blk_drew ?_ | refine blk_alloc ?_ _)); exact BK193.out⟩, ⟨by repeat (first | (with_reducible first | exact HB.out | apply below_alloc | apply pw_below_drewN | apply below_drew1 | refine below_set ?_ GE193.out | refine below_set ?_ GE195.out) | exact HB.out)⟩⟩
                   ·
                    have p196 : 0 ≤ (x86_4 : Int) := of_decide_eq_true (by first | (with_reducible assumption) | assumption)
                    have q196 : x86_4 < (l1.length : Int) := of_decide_eq_true (by first | (with_reducible assumption) | assumption)
                    obtain ⟨ad196, e196, hx196_0, hx196_1⟩ := at_T25 HR1.out x86_4 p196 q196
                    have hw196_1 := hx196_1
                    have hw196_0 := hx196_0
                    cases e196
                    replace hx196_0 := (HB.out.cell (World.block_lt_of_cell? w _ hx196_0)).trans hx196_0
                    replace hx196_1 := (HB.out.cell (World.block_lt_of_cell? w _ hx196_1)).trans hx196_1
                    replace p196 := eq_true p196
                    replace q196 := eq_true q196
                    have p197 : 0 ≤ ((ji34) : Int) := of_decide_eq_true (by first | (with_reducible assumption) | assumption)
                    have q197 : (ji34) < (l1.length : Int) := of_decide_eq_true (by first | (with_reducible assumption) | assumption)
                    obtain ⟨ad197, e197, hx197_0, hx197_1⟩ := at_T25 HR1.out (ji34) p197 q197
                    have hw197_1 := hx197_1
                    have hw197_0 := hx197_0
                    obtain rfl : ad196 = ad197 := (by injection e197)
                    replace hx197_0 := (HB.out.cell (World.block_lt_of_cell? w _ hx197_0)).trans hx197_0
                    replace hx197_1 := (HB.out.cell (World.block_lt_of_cell? w _ hx197_1)).trans hx197_1
                    replace p197 := eq_true p197
                    replace q197 := eq_true q197
                    rcases hw_ with ⟨A480, c62b0, c62b1⟩ | ⟨A480, c50b0, c62b0, c62b1⟩ | ⟨A480, c50b0, c51b0, c62b0, c62b1⟩ | ⟨A480, c50b0, c51b0, c53b0, c53b1⟩
                    all_goals
                     have A48 := Aside0.mk A480
                     clear A480
                     refine start_ (n := 44) (S := fun w' => w'.cell? ⟨gb193, 0, none⟩ = some (.int .i64 ((rd_T50 x13_2 (ji34)).f0)) ∧ w'.cell? ⟨gb193, 1, none⟩ = some (.int .i64 ((rd_T50 x13_2 (ji34)).f1)) ∧ w'.cell? ⟨gb193, 2, none⟩ = some (.int .i64 ((rd_T50 x13_2 (ji34)).f2)) ∧ w'.cell? ⟨gb193, 3, none⟩ = some (.int .i64 ((rd_T50 x13_2 (ji34)).f3.f0)) ∧ w'.cell? ⟨gb193, 4, none⟩ = some (.int .i64 ((rd_T50 x13_2 (ji34)).f3.f1)) ∧ w'.cell? ⟨gb195, 0, none⟩ = some (.int .i64 ((rd_T50 x13_2 x86_4).f0)) ∧ w'.cell? ⟨gb195, 1, none⟩ = some (.int .i64 ((rd_T50 x13_2 x86_4).f1)) ∧ w'.cell? ⟨gb195, 2, none⟩ = some (.int .i64 ((rd_T50 x13_2 x86_4).f2)) ∧ w'.cell? ⟨gb195, 3, none⟩ = some (.int .i64 ((rd_T50 x13_2 x86_4).f3.f0)) ∧ w'.cell? ⟨gb195, 4, none⟩ = some (.int .i64 ((rd_T50 x13_2 x86_4).f3.f1)) ∧ w'.cell? (ad196.add ((x86_4).toNat * 2)) = some (.int .i64 ((rd_T25 l1 x86_4).f0)) ∧ w'.cell? ⟨(ad196.add ((x86_4).toNat * 2)).block, (ad196.add ((x86_4).toNat * 2)).off + 1, none⟩ = some (.int .i64 ((rd_T25 l1 x86_4).f1)) ∧ w'.cell? (ad196.add (((ji34)).toNat * 2)) = some (.int .i64 ((rd_T25 l1 (ji34)).f0)) ∧ w'.cell? ⟨(ad196.add (((ji34)).toNat * 2)).block, (ad196.add (((ji34)).toNat * 2)).off + 1, none⟩ = some (.int .i64 ((rd_T25 l1 (ji34)).f1))) (ds := []) #[false, false, false, false, false, false, false, false, false, false, false, false, false, false, false, false, false, false, false, false, false, false, false, false, false, false, false, false, false, false, false, false, false, false, false, false, false, false, false, false, false, false, false, false] (by kernel_rfl) rfl rfl ⟨(blk_cell BK193.out 0).trans rfl, (blk_cell BK193.out 1).trans rfl, (blk_cell BK193.out 2).trans rfl, (blk_cell BK193.out 3).trans rfl, (blk_cell BK193.out 4).trans rfl, (blk_cell BK195.out 0).trans rfl, (blk_cell BK195.out 1).trans rfl, (blk_cell BK195.out 2).trans rfl, (blk_cell BK195.out 3).trans rfl, (blk_cell BK195.out 4).trans rfl, ((HB.out.cell (World.block_lt_of_cell? w _ hw196_0)).trans hw196_0), ((HB.out.cell (World.block_lt_of_cell? w _ hw196_1)).trans hw196_1), ((HB.out.cell (World.block_lt_of_cell? w _ hw197_0)).trans hw197_0), ((HB.out.cell (World.block_lt_of_cell? w _ hw197_1)).trans hw197_1)⟩ (fun hHeld => ?_); refine with_tabW slotmeshlaw17_MediumAlone.tab19 slotmeshlaw17_MediumAlone.bits19 (fun HT_ HW_ => ?_)
                     generalize w58.drew = w59 at HO_15 HO_84 BK193 BK195 HB hx196_0 hx196_1 hx197_0 hx197_1 hHeld ⊢
                     refine pure_ (i := 0) (N := some 91) (v := ?_) (a' := ?_) #[true, false, false, false, false, false, false, false, false, false, false, false, false, false, false, false, false, false, false, false, false, false, false, false, false, false, false, false, false, false, false, false, false, false, false, false, false, false, false, false, false, false, false, false] rfl rfl (any_of HT_.out (by kernel_rfl)) (fun _ _ _ h => h) (Or.inl ⟨by rfl, ?_⟩) ?_ ?_
                     rotate_left
                     focus (intro w'; go_simp; with_reducible rfl)
                     rotate_left
                     focus (simp only [Act.put, List.setIfInBounds_toArray, List.set_cons_zero, List.set_cons_succ, i64_w, i32_w]; rfl)
                     refine take_ (i := 1) (N := some 92) (v := ?_) (a' := ?_) #[true, true, false, false, false, false, false, false, false, false, false, false, false, false, false, false, false, false, false, false, false, false, false, false, false, false, false, false, false, false, false, false, false, false, false, false, false, false, false, false, false, false, false, false] rfl rfl (take_ofW HT_.out HW_.out (by kernel_rfl)) (fun _ _ _ h => h) (Or.inl ⟨by rfl, ?_⟩) hHeld ?_ ?_
                     rotate_left
                     focus (rintro w' ⟨s0, s1, s2, s3, s4, s5, s6, s7, s8, s9, s10, s11, s12, s13⟩; go_simp; with_reducible rfl)
                     rotate_left
                     focus (simp only [Act.put, List.setIfInBounds_toArray, List.set_cons_zero, List.set_cons_succ, i64_w, i32_w]; rfl)
                     refine pure_ (i := 2) (N := some 93) (v := ?_) (a' := ?_) #[true, true, true, false, false, false, false, false, false, false, false, false, false, false, false, false, false, false, false, false, false, false, false, false, false, false, false, false, false, false, false, false, false, false, false, false, false, false, false, false, false, false, false, false] rfl rfl (any_of HT_.out (by kernel_rfl)) (fun _ _ _ h => h) (Or.inl ⟨by rfl, ?_⟩) ?_ ?_
                     rotate_left
                     focus (intro w'; go_simp; with_reducible rfl)
                     rotate_left
                     focus (simp only [Act.put, List.setIfInBounds_toArray, List.set_cons_zero, List.set_cons_succ, i64_w, i32_w]; rfl)
                     refine pure_ (i := 3) (N := some 94) (v := ?_) (a' := ?_) #[true, true, true, true, false, false, false, false, false, false, false, false, false, false, false, false, false, false, false, false, false, false, false, false, false, false, false, false, false, false, false, false, false, false, false, false, false, false, false, false, false, false, false, false] rfl rfl (any_of HT_.out (by kernel_rfl)) (fun _ _ _ h => h) (Or.inl ⟨by rfl, ?_⟩) ?_ ?_
                     rotate_left
                     focus (intro w'; go_simp; with_reducible rfl)
                     rotate_left
                     focus (simp only [Act.put, List.setIfInBounds_toArray, List.set_cons_zero, List.set_cons_succ, i64_w, i32_w]; rfl)
                     refine pure_ (i := 4) (N := some 95) (v := ?_) (a' := ?_) #[true, true, true, true, true, false, false, false, false, false, false, false, false, false, false, false, false, false, false, false, false, false, false, false, false, false, false, false, false, false, false, false, false, false, false, false, false, false, false, false, false, false, false, false] rfl rfl (any_of HT_.out (by kernel_rfl)) (fun _ _ _ h => h) (Or.inl ⟨by rfl, ?_⟩) ?_ ?_
                     rotate_left
                     focus (intro w'; go_simp; with_reducible rfl)
                     rotate_left
                     focus (simp only [Act.put, List.setIfInBounds_toArray, List.set_cons_zero, List.set_cons_succ, i64_w, i32_w]; rfl)
                     refine take_ (i := 5) (N := some 96) (v := ?_) (a' := ?_) #[true, true, true, true, true, true, false, false, false, false, false, false, false, false, false, false, false, false, false, false, false, false, false, false, false, false, false, false, false, false, false, false, false, false, false, false, false, false, false, false, false, false, false, false] rfl rfl (take_ofW HT_.out HW_.out (by kernel_rfl)) (fun _ _ _ h => h) (Or.inl ⟨by rfl, ?_⟩) hHeld ?_ ?_
                     rotate_left
                     focus (rintro w' ⟨s0, s1, s2, s3, s4, s5, s6, s7, s8, s9, s10, s11, s12, s13⟩; go_simp; with_reducible rfl)
                     rotate_left
                     focus (simp only [Act.put, List.setIfInBounds_toArray, List.set_cons_zero, List.set_cons_succ, i64_w, i32_w]; rfl)
                     refine pure_ (i := 6) (N := some 97) (v := ?_) (a' := ?_) #[true, true, true, true, true, true, true, false, false, false, false, false, false, false, false, false, false, false, false, false, false, false, false, false, false, false, false, false, false, false, false, false, false, false, false, false, false, false, false, false, false, false, false, false] rfl rfl (any_of HT_.out (by kernel_rfl)) (fun _ _ _ h => h) (Or.inl ⟨by rfl, ?_⟩) ?_ ?_
                     rotate_left
                     focus (intro w'; go_simp; with_reducible rfl)
                     rotate_left
                     focus (simp only [Act.put, List.setIfInBounds_toArray, List.set_cons_zero, List.set_cons_succ, i64_w, i32_w]; rfl)
                     refine pure_ (i := 7) (N := some 98) (v := ?_) (a' := ?_) #[true, true, true, true, true, true, true, true, false, false, false, false, false, false, false, false, false, false, false, false, false, false, false, false, false, false, false, false, false, false, false, false, false, false, false, false, false, false, false, false, false, false, false, false] rfl rfl (any_of HT_.out (by kernel_rfl)) (fun _ _ _ h => h) (Or.inl ⟨by rfl, ?_⟩) ?_ ?_
                     rotate_left
                     focus (intro w'; go_simp; with_reducible rfl)
                     rotate_left
                     focus (simp only [Act.put, List.setIfInBounds_toArray, List.set_cons_zero, List.set_cons_succ, i64_w, i32_w]; rfl)
                     refine pure_ (i := 8) (N := some 99) (v := ?_) (a' := ?_) #[true, true, true, true, true, true, true, true, true, false, false, false, false, false, false, false, false, false, false, false, false, false, false, false, false, false, false, false, false, false, false, false, false, false, false, false, false, false, false, false, false, false, false, false] rfl rfl (any_of HT_.out (by kernel_rfl)) (fun _ _ _ h => h) (Or.inl ⟨by rfl, ?_⟩) ?_ ?_
                     rotate_left
                     focus (intro w'; go_simp; with_reducible rfl)
                     rotate_left
                     focus (simp only [Act.put, List.setIfInBounds_toArray, List.set_cons_zero, List.set_cons_succ, i64_w, i32_w]; rfl)
                     refine pure_ (i := 9) (N := some 100) (v := ?_) (a' := ?_) #[true, true, true, true, true, true, true, true, true, true, false, false, false, false, false, false, false, false, false, false, false, false, false, false, false, false, false, false, false, false, false, false, false, false, false, false, false, false, false, false, false, false, false, false] rfl rfl (any_of HT_.out (by kernel_rfl)) (fun _ _ _ h => h) (Or.inl ⟨by rfl, ?_⟩) ?_ ?_
                     rotate_left
                     focus (intro w'; go_simp; with_reducible rfl)
                     rotate_left
                     focus (simp only [Act.put, List.setIfInBounds_toArray, List.set_cons_zero, List.set_cons_succ, i64_w, i32_w]; rfl)
                     refine take_ (i := 10) (N := some 101) (v := ?_) (a' := ?_) #[true, true, true, true, true, true, true, true, true, true, true, false, false, false, false, false, false, false, false, false, false, false, false, false, false, false, false, false, false, false, false, false, false, false, false, false, false, false, false, false, false, false, false, false] rfl rfl (take_ofW HT_.out HW_.out (by kernel_rfl)) (fun _ _ _ h => h) (Or.inl ⟨by rfl, ?_⟩) hHeld ?_ ?_
                     rotate_left
                     focus (rintro w' ⟨s0, s1, s2, s3, s4, s5, s6, s7, s8, s9, s10, s11, s12, s13⟩; go_simp; with_reducible rfl)
                     rotate_left
                     focus (simp only [Act.put, List.setIfInBounds_toArray, List.set_cons_zero, List.set_cons_succ, i64_w, i32_w]; rfl)
                     refine pure_ (i := 11) (N := some 102) (v := ?_) (a' := ?_) #[true, true, true, true, true, true, true, true, true, true, true, true, false, false, false, false, false, false, false, false, false, false, false, false, false, false, false, false, false, false, false, false, false, false, false, false, false, false, false, false, false, false, false, false] rfl rfl (any_of HT_.out (by kernel_rfl)) (fun _ _ _ h => h) (Or.inl ⟨by rfl, ?_⟩) ?_ ?_
                     rotate_left
                     focus (intro w'; go_simp; with_reducible rfl)
                     rotate_left
                     focus (simp only [Act.put, List.setIfInBounds_toArray, List.set_cons_zero, List.set_cons_succ, i64_w, i32_w]; rfl)
                     refine take_ (i := 12) (N := some 103) (v := ?_) (a' := ?_) #[true, true, true, true, true, true, true, true, true, true, true, true, true, false, false, false, false, false, false, false, false, false, false, false, false, false, false, false, false, false, false, false, false, false, false, false, false, false, false, false, false, false, false, false] rfl rfl (take_ofW HT_.out HW_.out (by kernel_rfl)) (fun _ _ _ h => h) (Or.inl ⟨by rfl, ?_⟩) hHeld ?_ ?_
                     rotate_left
                     focus (rintro w' ⟨s0, s1, s2, s3, s4, s5, s6, s7, s8, s9, s10, s11, s12, s13⟩; go_simp; with_reducible rfl)
                     rotate_left
                     focus (simp only [Act.put, List.setIfInBounds_toArray, List.set_cons_zero, List.set_cons_succ, i64_w, i32_w]; rfl)
                     refine pure_ (i := 13) (N := some 104) (v := ?_) (a' := ?_) #[true, true, true, true, true, true, true, true, true, true, true, true, true, true, false, false, false, false, false, false, false, false, false, false, false, false, false, false, false, false, false, false, false, false, false, false, false, false, false, false, false, false, false, false] rfl rfl (any_of HT_.out (by kernel_rfl)) (fun _ _ _ h => h) (Or.inl ⟨by rfl, ?_⟩) ?_ ?_
                     rotate_left
                     focus (intro w'; go_simp; with_reducible rfl)
                     rotate_left
                     focus (simp only [Act.put, List.setIfInBounds_toArray, List.set_cons_zero, List.set_cons_succ, i64_w, i32_w]; rfl)
                     refine pure_ (i := 14) (N := some 105) (v := ?_) (a' := ?_) #[true, true, true, true, true, true, true, true, true, true, true, true, true, true, true, false, false, false, false, false, false, false, false, false, false, false, false, false, false, false, false, false, false, false, false, false, false, false, false, false, false, false, false, false] rfl rfl (any_of HT_.out (by kernel_rfl)) (fun _ _ _ h => h) (Or.inl ⟨by rfl, ?_⟩) ?_ ?_
                     rotate_left
                     focus (intro w'; go_simp; with_reducible rfl)
                     rotate_left
                     focus (simp only [Act.put, List.setIfInBounds_toArray, List.set_cons_zero, List.set_cons_succ, i64_w, i32_w]; rfl)
                     refine pure_ (i := 15) (N := some 106) (v := ?_) (a' := ?_) #[true, true, true, true, true, true, true, true, true, true, true, true, true, true, true, true, false, false, false, false, false, false, false, false, false, false, false, false, false, false, false, false, false, false, false, false, false, false, false, false, false, false, false, false] rfl rfl (any_of HT_.out (by kernel_rfl)) (fun _ _ _ h => h) (Or.inl ⟨by rfl, ?_⟩) ?_ ?_
                     rotate_left
                     focus (intro w'; go_simp; with_reducible rfl)
                     rotate_left
                     focus (simp only [Act.put, List.setIfInBounds_toArray, List.set_cons_zero, List.set_cons_succ, i64_w, i32_w]; rfl)
                     refine pure_ (i := 16) (N := some 107) (v := ?_) (a' := ?_) #[true, true, true, true, true, true, true, true, true, true, true, true, true, true, true, true, true, false, false, false, false, false, false, false, false, false, false, false, false, false, false, false, false, false, false, false, false, false, false, false, false, false, false, false] rfl rfl (any_of HT_.out (by kernel_rfl)) (fun _ _ _ h => h) (Or.inl ⟨by rfl, ?_⟩) ?_ ?_
                     rotate_left
                     focus (intro w'; go_simp; with_reducible rfl)
                     rotate_left
                     focus (simp only [Act.put, List.setIfInBounds_toArray, List.set_cons_zero, List.set_cons_succ, i64_w, i32_w]; rfl)
                     refine pure_ (i := 17) (N := some 108) (v := ?_) (a' := ?_) #[true, true, true, true, true, true, true, true, true, true, true, true, true, true, true, true, true, true, false, false, false, false, false, false, false, false, false, false, false, false, false, false, false, false, false, false, false, false, false, false, false, false, false, false] rfl rfl (any_of HT_.out (by kernel_rfl)) (fun _ _ _ h => h) (Or.inl ⟨by rfl, ?_⟩) ?_ ?_
                     rotate_left
                     focus (intro w'; go_simp; with_reducible rfl)
                     rotate_left
                     focus (simp only [Act.put, List.setIfInBounds_toArray, List.set_cons_zero, List.set_cons_succ, i64_w, i32_w]; rfl)
                     refine pure_ (i := 18) (N := some 109) (v := ?_) (a' := ?_) #[true, true, true, true, true, true, true, true, true, true, true, true, true, true, true, true, true, true, true, false, false, false, false, false, false, false, false, false, false, false, false, false, false, false, false, false, false, false, false, false, false, false, false, false] rfl rfl (any_of HT_.out (by kernel_rfl)) (fun _ _ _ h => h) (Or.inl ⟨by rfl, ?_⟩) ?_ ?_
                     rotate_left
                     focus (intro w'; go_simp; with_reducible rfl)
                     rotate_left
                     focus (simp only [Act.put, List.setIfInBounds_toArray, List.set_cons_zero, List.set_cons_succ, i64_w, i32_w]; rfl)
                     refine take_ (i := 19) (N := some 110) (v := ?_) (a' := ?_) #[true, true, true, true, true, true, true, true, true, true, true, true, true, true, true, true, true, true, true, true, false, false, false, false, false, false, false, false, false, false, false, false, false, false, false, false, false, false, false, false, false, false, false, false] rfl rfl (take_ofW HT_.out HW_.out (by kernel_rfl)) (fun _ _ _ h => h) (Or.inl ⟨by rfl, ?_⟩) hHeld ?_ ?_
                     rotate_left
                     focus (rintro w' ⟨s0, s1, s2, s3, s4, s5, s6, s7, s8, s9, s10, s11, s12, s13⟩; go_simp; with_reducible rfl)
                     rotate_left
                     focus (simp only [Act.put, List.setIfInBounds_toArray, List.set_cons_zero, List.set_cons_succ, i64_w, i32_w]; rfl)
                     refine pure_ (i := 20) (N := some 111) (v := ?_) (a' := ?_) #[true, true, true, true, true, true, true, true, true, true, true, true, true, true, true, true, true, true, true, true, true, false, false, false, false, false, false, false, false, false, false, false, false, false, false, false, false, false, false, false, false, false, false, false] rfl rfl (any_of HT_.out (by kernel_rfl)) (fun _ _ _ h => h) (Or.inl ⟨by rfl, ?_⟩) ?_ ?_
                     rotate_left
                     focus (intro w'; go_simp; with_reducible rfl)
                     rotate_left
                     focus (simp only [Act.put, List.setIfInBounds_toArray, List.set_cons_zero, List.set_cons_succ, i64_w, i32_w]; rfl)
                     refine pure_ (i := 21) (N := some 112) (v := ?_) (a' := ?_) #[true, true, true, true, true, true, true, true, true, true, true, true, true, true, true, true, true, true, true, true, true, true, false, false, false, false, false, false, false, false, false, false, false, false, false, false, false, false, false, false, false, false, false, false] rfl rfl (any_of HT_.out (by kernel_rfl)) (fun _ _ _ h => h) (Or.inl ⟨by rfl, ?_⟩) ?_ ?_
                     rotate_left
                     focus (intro w'; go_simp; with_reducible rfl)
                     rotate_left
                     focus (simp only [Act.put, List.setIfInBounds_toArray, List.set_cons_zero, List.set_cons_succ, i64_w, i32_w]; rfl)
                     refine pure_ (i := 22) (N := some 113) (v := ?_) (a' := ?_) #[true, true, true, true, true, true, true, true, true, true, true, true, true, true, true, true, true, true, true, true, true, true, true, false, false, false, false, false, false, false, false, false, false, false, false, false, false, false, false, false, false, false, false, false] rfl rfl (any_of HT_.out (by kernel_rfl)) (fun _ _ _ h => h) (Or.inl ⟨by rfl, ?_⟩) ?_ ?_
                     rotate_left
                     focus (intro w'; go_simp; with_reducible rfl)
                     rotate_left
                     focus (simp only [Act.put, List.setIfInBounds_toArray, List.set_cons_zero, List.set_cons_succ, i64_w, i32_w]; rfl)
                     refine take_ (i := 23) (N := some 114) (v := ?_) (a' := ?_) #[true, true, true, true, true, true, true, true, true, true, true, true, true, true, true, true, true, true, true, true, true, true, true, true, false, false, false, false, false, false, false, false, false, false, false, false, false, false, false, false, false, false, false, false] rfl rfl (take_ofW HT_.out HW_.out (by kernel_rfl)) (fun _ _ _ h => h) (Or.inl ⟨by rfl, ?_⟩) hHeld ?_ ?_
                     rotate_left
                     focus (rintro w' ⟨s0, s1, s2, s3, s4, s5, s6, s7, s8, s9, s10, s11, s12, s13⟩; go_simp; with_reducible rfl)
                     rotate_left
                     focus (simp only [Act.put, List.setIfInBounds_toArray, List.set_cons_zero, List.set_cons_succ, i64_w, i32_w]; rfl)
                     refine pure_ (i := 24) (N := some 115) (v := ?_) (a' := ?_) #[true, true, true, true, true, true, true, true, true, true, true, true, true, true, true, true, true, true, true, true, true, true, true, true, true, false, false, false, false, false, false, false, false, false, false, false, false, false, false, false, false, false, false, false] rfl rfl (any_of HT_.out (by kernel_rfl)) (fun _ _ _ h => h) (Or.inl ⟨by rfl, ?_⟩) ?_ ?_
                     rotate_left
                     focus (intro w'; go_simp; with_reducible rfl)
                     rotate_left
                     focus (simp only [Act.put, List.setIfInBounds_toArray, List.set_cons_zero, List.set_cons_succ, i64_w, i32_w]; rfl)
                     refine one_ (i := 25) (N := some 116) #[true, true, true, true, true, true, true, true, true, true, true, true, true, true, true, true, true, true, true, true, true, true, true, true, true, true, false, false, false, false, false, false, false, false, false, false, false, false, false, false, false, false, false, false] rfl rfl (one_of HT_.out (by kernel_rfl)) (by decide) (fun K hK => ?_)
                     refine goes_ Try.func21 (by kernel_rfl) rfl #[.agg #[.int .i64 ((rd_T25 l1 x86_4).f0), .int .i64 ((rd_T25 l1 x86_4).f1)], .agg #[.int .i64 ((rd_T25 l1 (ji34)).f0), .int .i64 ((rd_T25 l1 (ji34)).f1)], .int .i64 a2] (by rfl) rfl rfl (by (try simp only [List.map_toArray, List.map_cons, List.map_nil]); first | done | (simp only [hji34]; rfl) | rfl | (simp only [List.length_drop, List.length_take]; rfl)) ?_
                     with_reducible refine (plane_Near.calls ((rd_T25 l1 x86_4).f0) ((rd_T25 l1 x86_4).f1) ((rd_T25 l1 (ji34)).f0) ((rd_T25 l1 (ji34)).f1) a2 _ _ A48.out).mono ?_
                     rintro e w60 ⟨rfl, hb⟩
                     refine ⟨_, rfl, ?_⟩
                     have n0_ := Aside0.mk (Kd.R_below (by (with_reducible repeat (first | apply Kd.R_alloc | apply Kd.R_drewN | apply Kd.R_drew)); exact HO_15.out) hb)
                     have n1_ := Aside0.mk (Kd.R_below (by (with_reducible repeat (first | apply Kd.R_alloc | apply Kd.R_drewN | apply Kd.R_drew)); exact HO_84.out) hb)
                     have n2_ := Aside0.mk (blk_below (g := gb193) (o := .cells #[.int .i64 ((rd_T50 x13_2 (ji34)).f0), .int .i64 ((rd_T50 x13_2 (ji34)).f1), .int .i64 ((rd_T50 x13_2 (ji34)).f2), .int .i64 ((rd_T50 x13_2 (ji34)).f3.f0), .int .i64 ((rd_T50 x13_2 (ji34)).f3.f1)] 50 (0, 0)) (by (with_reducible repeat (first | refine blk_drewN ?_ _ | refine blk_drew ?_ | refine blk_alloc ?_ _)); exact BK193.out) hb)
                     have n3_ := Aside0.mk (blk_below (g := gb195) (o := .cells #[.int .i64 ((rd_T50 x13_2 x86_4).f0), .int .i64 ((rd_T50 x13_2 x86_4).f1), .int .i64 ((rd_T50 x13_2 x86_4).f2), .int .i64 ((rd_T50 x13_2 x86_4).f3.f0), .int .i64 ((rd_T50 x13_2 x86_4).f3.f1)] 50 (0, 0)) (by (with_reducible repeat (first | refine blk_drewN ?_ _ | refine blk_drew ?_ | refine blk_alloc ?_ _)); exact BK195.out) hb)
                     have n4_ := Aside0.mk (below_step (by repeat (first | (with_reducible first | exact HB.out | apply below_alloc | apply pw_below_drewN | apply below_drew1 | refine below_set ?_ GE193.out | refine below_set ?_ GE195.out) | exact HB.out)) hb)
                     clear HO_15
                     clear HO_84
                     clear BK193
                     clear BK195
                     clear HB
                     have HO_15 := n0_
                     have HO_84 := n1_
                     have BK193 := n2_
                     have BK195 := n3_
                     have HB := n4_
                     clear n0_ n1_ n2_ n3_ n4_
                     (try clear hb)
                     (try clear hb2)
                     (try clear hk)
                     (try clear hi)
                     refine hK.out _ _ ⟨(blk_cell BK193.out 0).trans rfl, (blk_cell BK193.out 1).trans rfl, (blk_cell BK193.out 2).trans rfl, (blk_cell BK193.out 3).trans rfl, (blk_cell BK193.out 4).trans rfl, (blk_cell BK195.out 0).trans rfl, (blk_cell BK195.out 1).trans rfl, (blk_cell BK195.out 2).trans rfl, (blk_cell BK195.out 3).trans rfl, (blk_cell BK195.out 4).trans rfl, ((HB.out.cell (World.block_lt_of_cell? w _ hw196_0)).trans hw196_0), ((HB.out.cell (World.block_lt_of_cell? w _ hw196_1)).trans hw196_1), ((HB.out.cell (World.block_lt_of_cell? w _ hw197_0)).trans hw197_0), ((HB.out.cell (World.block_lt_of_cell? w _ hw197_1)).trans hw197_1)⟩ (fun hHeld => ?_)
                     clear hK K
                     refine norm_ (a' := ?_) ?_ ?_
                     rotate_left
                     focus (show Act.put _ (some 116) _ = _; simp only [Act.put, List.setIfInBounds_toArray, List.set_cons_zero, List.set_cons_succ, i64_w, i32_w]; rfl)
                     refine pure_ (i := 26) (N := some 117) (v := ?_) (a' := ?_) #[true, true, true, true, true, true, true, true, true, true, true, true, true, true, true, true, true, true, true, true, true, true, true, true, true, true, true, false, false, false, false, false, false, false, false, false, false, false, false, false, false, false, false, false] rfl rfl (any_of HT_.out (by kernel_rfl)) (fun _ _ _ h => h) (Or.inl ⟨by rfl, ?_⟩) ?_ ?_
                     rotate_left
                     focus (intro w'; go_simp; with_reducible rfl)
                     rotate_left
                     focus (simp only [Act.put, List.setIfInBounds_toArray, List.set_cons_zero, List.set_cons_succ, i64_w, i32_w]; rfl)
                     refine pure_ (i := 27) (N := some 118) (v := ?_) (a' := ?_) #[true, true, true, true, true, true, true, true, true, true, true, true, true, true, true, true, true, true, true, true, true, true, true, true, true, true, true, true, false, false, false, false, false, false, false, false, false, false, false, false, false, false, false, false] rfl rfl (any_of HT_.out (by kernel_rfl)) (fun _ _ _ h => h) (Or.inl ⟨by rfl, ?_⟩) ?_ ?_
                     rotate_left
                     focus (intro w'; go_simp; with_reducible rfl)
                     rotate_left
                     focus (simp only [Act.put, List.setIfInBounds_toArray, List.set_cons_zero, List.set_cons_succ, i64_w, i32_w]; rfl)
                     first
                     | refine pure_ (i := 28) (N := some 119) (v := ?_) (a' := ?_) #[true, true, true, true, true, true, true, true, true, true, true, true, true, true, true, true, true, true, true, true, true, true, true, true, true, true, true, true, true, false, false, false, false, false, false, false, false, false, false, false, false, false, false, false] rfl rfl (any_of HT_.out (by kernel_rfl)) (fun _ _ _ h => h) (Or.inl ⟨by rfl, ?_⟩) ?_ ?_
                       rotate_left
                       focus (intro w'; go_simp; with_reducible rfl)
                       rotate_left
                       focus (simp only [Act.put, List.setIfInBounds_toArray, List.set_cons_zero, List.set_cons_succ, i64_w, i32_w]; rfl)
                       refine take_ (i := 29) (N := some 120) (v := ?_) (a' := ?_) #[true, true, true, true, true, true, true, true, true, true, true, true, true, true, true, true, true, true, true, true, true, true, true, true, true, true, true, true, true, true, false, false, false, false, false, false, false, false, false, false, false, false, false, false] rfl rfl (take_ofW HT_.out HW_.out (by kernel_rfl)) (fun _ _ _ h => h) (Or.inl ⟨by rfl, ?_⟩) hHeld ?_ ?_
                       rotate_left
                       focus (rintro w' ⟨s0, s1, s2, s3, s4, s5, s6, s7, s8, s9, s10, s11, s12, s13⟩; go_simp; with_reducible rfl)
                       rotate_left
                       focus (simp only [Act.put, List.setIfInBounds_toArray, List.set_cons_zero, List.set_cons_succ, i64_w, i32_w]; rfl)
                       refine pure_ (i := 30) (N := some 121) (v := ?_) (a' := ?_) #[true, true, true, true, true, true, true, true, true, true, true, true, true, true, true, true, true, true, true, true, true, true, true, true, true, true, true, true, true, true, true, false, false, false, false, false, false, false, false, false, false, false, false, false] rfl rfl (any_of HT_.out (by kernel_rfl)) (fun _ _ _ h => h) (Or.inl ⟨by rfl, ?_⟩) ?_ ?_
                       rotate_left
                       focus (intro w'; go_simp; with_reducible rfl)
                       rotate_left
                       focus (simp only [Act.put, List.setIfInBounds_toArray, List.set_cons_zero, List.set_cons_succ, i64_w, i32_w]; rfl)
                       refine pure_ (i := 31) (N := some 122) (v := ?_) (a' := ?_) #[true, true, true, true, true, true, true, true, true, true, true, true, true, true, true, true, true, true, true, true, true, true, true, true, true, true, true, true, true, true, true, true, false, false, false, false, false, false, false, false, false, false, false, false] rfl rfl (any_of HT_.out (by kernel_rfl)) (fun _ _ _ h => h) (Or.inl ⟨by rfl, ?_⟩) ?_ ?_
                       rotate_left
                       focus (intro w'; go_simp; with_reducible rfl)
                       rotate_left
                       focus (simp only [Act.put, List.setIfInBounds_toArray, List.set_cons_zero, List.set_cons_succ, i64_w, i32_w]; rfl)
                       refine take_ (i := 32) (N := some 123) (v := ?_) (a' := ?_) #[true, true, true, true, true, true, true, true, true, true, true, true, true, true, true, true, true, true, true, true, true, true, true, true, true, true, true, true, true, true, true, true, true, false, false, false, false, false, false, false, false, false, false, false] rfl rfl (take_ofW HT_.out HW_.out (by kernel_rfl)) (fun _ _ _ h => h) (Or.inl ⟨by rfl, ?_⟩) hHeld ?_ ?_
                       rotate_left
                       focus (rintro w' ⟨s0, s1, s2, s3, s4, s5, s6, s7, s8, s9, s10, s11, s12, s13⟩; go_simp; with_reducible rfl)
                       rotate_left
                       focus (simp only [Act.put, List.setIfInBounds_toArray, List.set_cons_zero, List.set_cons_succ, i64_w, i32_w]; rfl)
                       refine pure_ (i := 33) (N := some 124) (v := ?_) (a' := ?_) #[true, true, true, true, true, true, true, true, true, true, true, true, true, true, true, true, true, true, true, true, true, true, true, true, true, true, true, true, true, true, true, true, true, true, false, false, false, false, false, false, false, false, false, false] rfl rfl (any_of HT_.out (by kernel_rfl)) (fun _ _ _ h => h) (Or.inl ⟨by rfl, ?_⟩) ?_ ?_
                       rotate_left
                       focus (intro w'; go_simp; with_reducible rfl)
                       rotate_left
                       focus (simp only [Act.put, List.setIfInBounds_toArray, List.set_cons_zero, List.set_cons_succ, i64_w, i32_w]; rfl)
                     | refine pure_ (i := 28) (N := some 119) (v := undef) (a' := ?_) #[true, true, true, true, true, true, true, true, true, true, true, true, true, true, true, true, true, true, true, true, true, true, true, true, true, true, true, true, true, false, false, false, false, false, false, false, false, false, false, false, false, false, false, false] rfl rfl (any_of HT_.out (by kernel_rfl)) (fun _ _ _ h => h) (Or.inr ⟨by rfl, rfl⟩) ?_ ?_
                       rotate_left
                       focus (simp only [Act.put, List.setIfInBounds_toArray, List.set_cons_zero, List.set_cons_succ, i64_w, i32_w]; rfl)
                       refine pure_ (i := 29) (N := some 120) (v := undef) (a' := ?_) #[true, true, true, true, true, true, true, true, true, true, true, true, true, true, true, true, true, true, true, true, true, true, true, true, true, true, true, true, true, true, false, false, false, false, false, false, false, false, false, false, false, false, false, false] rfl rfl (any_of HT_.out (by kernel_rfl)) (fun _ _ _ h => h) (Or.inr ⟨by rfl, rfl⟩) ?_ ?_
                       rotate_left
                       focus (simp only [Act.put, List.setIfInBounds_toArray, List.set_cons_zero, List.set_cons_succ, i64_w, i32_w]; rfl)
                       refine pure_ (i := 30) (N := some 121) (v := undef) (a' := ?_) #[true, true, true, true, true, true, true, true, true, true, true, true, true, true, true, true, true, true, true, true, true, true, true, true, true, true, true, true, true, true, true, false, false, false, false, false, false, false, false, false, false, false, false, false] rfl rfl (any_of HT_.out (by kernel_rfl)) (fun _ _ _ h => h) (Or.inr ⟨by rfl, rfl⟩) ?_ ?_
                       rotate_left
                       focus (simp only [Act.put, List.setIfInBounds_toArray, List.set_cons_zero, List.set_cons_succ, i64_w, i32_w]; rfl)
                       refine pure_ (i := 31) (N := some 122) (v := undef) (a' := ?_) #[true, true, true, true, true, true, true, true, true, true, true, true, true, true, true, true, true, true, true, true, true, true, true, true, true, true, true, true, true, true, true, true, false, false, false, false, false, false, false, false, false, false, false, false] rfl rfl (any_of HT_.out (by kernel_rfl)) (fun _ _ _ h => h) (Or.inr ⟨by rfl, rfl⟩) ?_ ?_
                       rotate_left
                       focus (simp only [Act.put, List.setIfInBounds_toArray, List.set_cons_zero, List.set_cons_succ, i64_w, i32_w]; rfl)
                       refine pure_ (i := 32) (N := some 123) (v := undef) (a' := ?_) #[true, true, true, true, true, true, true, true, true, true, true, true, true, true, true, true, true, true, true, true, true, true, true, true, true, true, true, true, true, true, true, true, true, false, false, false, false, false, false, false, false, false, false, false] rfl rfl (any_of HT_.out (by kernel_rfl)) (fun _ _ _ h => h) (Or.inr ⟨by rfl, rfl⟩) ?_ ?_
                       rotate_left
                       focus (simp only [Act.put, List.setIfInBounds_toArray, List.set_cons_zero, List.set_cons_succ, i64_w, i32_w]; rfl)
                       refine pure_ (i := 33) (N := some 124) (v := undef) (a' := ?_) #[true, true, true, true, true, true, true, true, true, true, true, true, true, true, true, true, true, true, true, true, true, true, true, true, true, true, true, true, true, true, true, true, true, true, false, false, false, false, false, false, false, false, false, false] rfl rfl (any_of HT_.out (by kernel_rfl)) (fun _ _ _ h => h) (Or.inr ⟨by rfl, rfl⟩) ?_ ?_
                       rotate_left
                       focus (simp only [Act.put, List.setIfInBounds_toArray, List.set_cons_zero, List.set_cons_succ, i64_w, i32_w]; rfl)
                     refine pure_ (i := 34) (N := some 125) (v := ?_) (a' := ?_) #[true, true, true, true, true, true, true, true, true, true, true, true, true, true, true, true, true, true, true, true, true, true, true, true, true, true, true, true, true, true, true, true, true, true, true, false, false, false, false, false, false, false, false, false] rfl rfl (any_of HT_.out (by kernel_rfl)) (fun _ _ _ h => h) (Or.inl ⟨by rfl, ?_⟩) ?_ ?_
                     rotate_left
                     focus (intro w'; go_simp; with_reducible rfl)
                     rotate_left
                     focus (simp only [Act.put, List.setIfInBounds_toArray, List.set_cons_zero, List.set_cons_succ, i64_w, i32_w]; rfl)
                     refine pure_ (i := 35) (N := some 126) (v := ?_) (a' := ?_) #[true, true, true, true, true, true, true, true, true, true, true, true, true, true, true, true, true, true, true, true, true, true, true, true, true, true, true, true, true, true, true, true, true, true, true, true, false, false, false, false, false, false, false, false] rfl rfl (any_of HT_.out (by kernel_rfl)) (fun _ _ _ h => h) (Or.inl ⟨by rfl, ?_⟩) ?_ ?_
                     rotate_left
                     focus (intro w'; go_simp; with_reducible rfl)
                     rotate_left
                     focus (simp only [Act.put, List.setIfInBounds_toArray, List.set_cons_zero, List.set_cons_succ, i64_w, i32_w]; rfl)
                     first
                     | refine pure_ (i := 36) (N := some 127) (v := ?_) (a' := ?_) #[true, true, true, true, true, true, true, true, true, true, true, true, true, true, true, true, true, true, true, true, true, true, true, true, true, true, true, true, true, true, true, true, true, true, true, true, true, false, false, false, false, false, false, false] rfl rfl (any_of HT_.out (by kernel_rfl)) (fun _ _ _ h => h) (Or.inl ⟨by rfl, ?_⟩) ?_ ?_
                       rotate_left
                       focus (intro w'; go_simp; with_reducible rfl)
                       rotate_left
                       focus (simp only [Act.put, List.setIfInBounds_toArray, List.set_cons_zero, List.set_cons_succ, i64_w, i32_w]; rfl)
                       refine take_ (i := 37) (N := some 128) (v := ?_) (a' := ?_) #[true, true, true, true, true, true, true, true, true, true, true, true, true, true, true, true, true, true, true, true, true, true, true, true, true, true, true, true, true, true, true, true, true, true, true, true, true, true, false, false, false, false, false, false] rfl rfl (take_ofW HT_.out HW_.out (by kernel_rfl)) (fun _ _ _ h => h) (Or.inl ⟨by rfl, ?_⟩) hHeld ?_ ?_
                       rotate_left
                       focus (rintro w' ⟨s0, s1, s2, s3, s4, s5, s6, s7, s8, s9, s10, s11, s12, s13⟩; go_simp; with_reducible rfl)
                       rotate_left
                       focus (simp only [Act.put, List.setIfInBounds_toArray, List.set_cons_zero, List.set_cons_succ, i64_w, i32_w]; rfl)
                       refine pure_ (i := 38) (N := some 129) (v := ?_) (a' := ?_) #[true, true, true, true, true, true, true, true, true, true, true, true, true, true, true, true, true, true, true, true, true, true, true, true, true, true, true, true, true, true, true, true, true, true, true, true, true, true, true, false, false, false, false, false] rfl rfl (any_of HT_.out (by kernel_rfl)) (fun _ _ _ h => h) (Or.inl ⟨by rfl, ?_⟩) ?_ ?_
                       rotate_left
                       focus (intro w'; go_simp; with_reducible rfl)
                       rotate_left
                       focus (simp only [Act.put, List.setIfInBounds_toArray, List.set_cons_zero, List.set_cons_succ, i64_w, i32_w]; rfl)
                       refine pure_ (i := 39) (N := some 130) (v := ?_) (a' := ?_) #[true, true, true, true, true, true, true, true, true, true, true, true, true, true, true, true, true, true, true, true, true, true, true, true, true, true, true, true, true, true, true, true, true, true, true, true, true, true, true, true, false, false, false, false] rfl rfl (any_of HT_.out (by kernel_rfl)) (fun _ _ _ h => h) (Or.inl ⟨by rfl, ?_⟩) ?_ ?_
                       rotate_left
                       focus (intro w'; go_simp; with_reducible rfl)
                       rotate_left
                       focus (simp only [Act.put, List.setIfInBounds_toArray, List.set_cons_zero, List.set_cons_succ, i64_w, i32_w]; rfl)
                       refine take_ (i := 40) (N := some 131) (v := ?_) (a' := ?_) #[true, true, true, true, true, true, true, true, true, true, true, true, true, true, true, true, true, true, true, true, true, true, true, true, true, true, true, true, true, true, true, true, true, true, true, true, true, true, true, true, true, false, false, false] rfl rfl (take_ofW HT_.out HW_.out (by kernel_rfl)) (fun _ _ _ h => h) (Or.inl ⟨by rfl, ?_⟩) hHeld ?_ ?_
                       rotate_left
                       focus (rintro w' ⟨s0, s1, s2, s3, s4, s5, s6, s7, s8, s9, s10, s11, s12, s13⟩; go_simp; with_reducible rfl)
                       rotate_left
                       focus (simp only [Act.put, List.setIfInBounds_toArray, List.set_cons_zero, List.set_cons_succ, i64_w, i32_w]; rfl)
                       refine pure_ (i := 41) (N := some 132) (v := ?_) (a' := ?_) #[true, true, true, true, true, true, true, true, true, true, true, true, true, true, true, true, true, true, true, true, true, true, true, true, true, true, true, true, true, true, true, true, true, true, true, true, true, true, true, true, true, true, false, false] rfl rfl (any_of HT_.out (by kernel_rfl)) (fun _ _ _ h => h) (Or.inl ⟨by rfl, ?_⟩) ?_ ?_
                       rotate_left
                       focus (intro w'; go_simp; with_reducible rfl)
                       rotate_left
                       focus (simp only [Act.put, List.setIfInBounds_toArray, List.set_cons_zero, List.set_cons_succ, i64_w, i32_w]; rfl)
                     | refine pure_ (i := 36) (N := some 127) (v := undef) (a' := ?_) #[true, true, true, true, true, true, true, true, true, true, true, true, true, true, true, true, true, true, true, true, true, true, true, true, true, true, true, true, true, true, true, true, true, true, true, true, true, false, false, false, false, false, false, false] rfl rfl (any_of HT_.out (by kernel_rfl)) (fun _ _ _ h => h) (Or.inr ⟨by rfl, rfl⟩) ?_ ?_
                       rotate_left
                       focus (simp only [Act.put, List.setIfInBounds_toArray, List.set_cons_zero, List.set_cons_succ, i64_w, i32_w]; rfl)
                       refine pure_ (i := 37) (N := some 128) (v := undef) (a' := ?_) #[true, true, true, true, true, true, true, true, true, true, true, true, true, true, true, true, true, true, true, true, true, true, true, true, true, true, true, true, true, true, true, true, true, true, true, true, true, true, false, false, false, false, false, false] rfl rfl (any_of HT_.out (by kernel_rfl)) (fun _ _ _ h => h) (Or.inr ⟨by rfl, rfl⟩) ?_ ?_
                       rotate_left
                       focus (simp only [Act.put, List.setIfInBounds_toArray, List.set_cons_zero, List.set_cons_succ, i64_w, i32_w]; rfl)
                       refine pure_ (i := 38) (N := some 129) (v := undef) (a' := ?_) #[true, true, true, true, true, true, true, true, true, true, true, true, true, true, true, true, true, true, true, true, true, true, true, true, true, true, true, true, true, true, true, true, true, true, true, true, true, true, true, false, false, false, false, false] rfl rfl (any_of HT_.out (by kernel_rfl)) (fun _ _ _ h => h) (Or.inr ⟨by rfl, rfl⟩) ?_ ?_
                       rotate_left
                       focus (simp only [Act.put, List.setIfInBounds_toArray, List.set_cons_zero, List.set_cons_succ, i64_w, i32_w]; rfl)
                       refine pure_ (i := 39) (N := some 130) (v := undef) (a' := ?_) #[true, true, true, true, true, true, true, true, true, true, true, true, true, true, true, true, true, true, true, true, true, true, true, true, true, true, true, true, true, true, true, true, true, true, true, true, true, true, true, true, false, false, false, false] rfl rfl (any_of HT_.out (by kernel_rfl)) (fun _ _ _ h => h) (Or.inr ⟨by rfl, rfl⟩) ?_ ?_
                       rotate_left
                       focus (simp only [Act.put, List.setIfInBounds_toArray, List.set_cons_zero, List.set_cons_succ, i64_w, i32_w]; rfl)
                       refine pure_ (i := 40) (N := some 131) (v := undef) (a' := ?_) #[true, true, true, true, true, true, true, true, true, true, true, true, true, true, true, true, true, true, true, true, true, true, true, true, true, true, true, true, true, true, true, true, true, true, true, true, true, true, true, true, true, false, false, false] rfl rfl (any_of HT_.out (by kernel_rfl)) (fun _ _ _ h => h) (Or.inr ⟨by rfl, rfl⟩) ?_ ?_
                       rotate_left
                       focus (simp only [Act.put, List.setIfInBounds_toArray, List.set_cons_zero, List.set_cons_succ, i64_w, i32_w]; rfl)
                       refine pure_ (i := 41) (N := some 132) (v := undef) (a' := ?_) #[true, true, true, true, true, true, true, true, true, true, true, true, true, true, true, true, true, true, true, true, true, true, true, true, true, true, true, true, true, true, true, true, true, true, true, true, true, true, true, true, true, true, false, false] rfl rfl (any_of HT_.out (by kernel_rfl)) (fun _ _ _ h => h) (Or.inr ⟨by rfl, rfl⟩) ?_ ?_
                       rotate_left
                       focus (simp only [Act.put, List.setIfInBounds_toArray, List.set_cons_zero, List.set_cons_succ, i64_w, i32_w]; rfl)
                     refine pure_ (i := 42) (N := some 133) (v := ?_) (a' := ?_) #[true, true, true, true, true, true, true, true, true, true, true, true, true, true, true, true, true, true, true, true, true, true, true, true, true, true, true, true, true, true, true, true, true, true, true, true, true, true, true, true, true, true, true, false] rfl rfl (any_of HT_.out (by kernel_rfl)) (fun _ _ _ h => h) (Or.inl ⟨by rfl, ?_⟩) ?_ ?_
                     rotate_left
                     focus (intro w'; go_simp; with_reducible rfl)
                     rotate_left
                     focus (simp only [Act.put, List.setIfInBounds_toArray, List.set_cons_zero, List.set_cons_succ, i64_w, i32_w]; rfl)
                     refine pure_ (i := 43) (N := some 20) (v := ?_) (a' := ?_) #[true, true, true, true, true, true, true, true, true, true, true, true, true, true, true, true, true, true, true, true, true, true, true, true, true, true, true, true, true, true, true, true, true, true, true, true, true, true, true, true, true, true, true, true] rfl rfl (any_of HT_.out (by kernel_rfl)) (fun _ _ _ h => h) (Or.inl ⟨by rfl, ?_⟩) ?_ ?_
                     rotate_left
                     focus (intro w'; go_simp; with_reducible rfl)
                     rotate_left
                     focus (simp only [Act.put, List.setIfInBounds_toArray, List.set_cons_zero, List.set_cons_succ, i64_w, i32_w]; rfl)
                     refine done_ (done_of HT_.out (by kernel_rfl)) ?_
                     obtain ⟨Ao61, co61, eo61⟩ := Kd.R_slice HO_15.out
                     subst eo61
                     have p199 : 0 ≤ (x86_4 : Int) := of_decide_eq_true (by first | (with_reducible assumption) | assumption)
                     have q199 : x86_4 < (t188.length : Int) := of_decide_eq_true (by first | (with_reducible assumption) | assumption)
                     obtain ⟨ad199, e199, hx199_0⟩ := Kd.at_int (Kd.R_reads' HO_15.out).2.2 x86_4 p199 q199
                     cases e199
                     replace p199 := eq_true p199
                     replace q199 := eq_true q199
                     try go_wp2
                     go_roundg k4
                     case measure => have := HJ6.out; have := HK2.out; have := HJ28.out; have := HK4.out; omega
                     case rel => exact ⟨(wrap64 (x86_4 + 1)), (by first | rfl | (simp; done) | (simp [*]; done)), H', ⟨by have := HJ6.out; have := HK2.out; have := HJ28.out; have := HK4.out; omega⟩, ⟨by (try simp only [hl13_2]); (with_reducible repeat (first | apply Kd.R_alloc | apply Kd.R_drewN | apply Kd.R_drew)); exact HO_15.out⟩, ⟨by (try simp only [hl13_2]); (with_reducible repeat (first | apply Kd.R_alloc | apply Kd.R_drewN | apply Kd.R_drew)); exact Kd.R_mono HO_84.out (fun _ hk => hk.1)⟩, ⟨by (try simp only [hl13_2]); (with_reducible repeat (first | refine blk_drewN ?_ _ | refine blk_drew ?_ | refine blk_alloc ?_ _)); exact BK193.out⟩, ⟨by repeat (first | (with_reducible first | exact HB.out | apply below_alloc | apply pw_below_drewN | apply below_drew1 | refine below_set ?_ GE193.out | refine below_set ?_ GE195.out) | exact HB.out)⟩⟩
                  ·
                   rw [if_neg c41] at H
                   exact absurd H (by simp)
                 ·
                  rw [if_neg c40] at H
                  exact absurd H (by simp)
                ·
                 rw [if_neg c39] at H
                 have c39b0 : decide (x86_4 < (x13_2.length : Int)) = false := decide_eq_false c39
                 clear c39
                 obtain rfl := Option.some.inj H
                 go_wp2
                 go_ret
                 exact ⟨by first | rfl | (simp [errW_none, errW_some] <;> rfl) | (simp only [← hji34]; first | rfl | (simp [errW_none, errW_some] <;> rfl)) | (simp [*, errW_none, errW_some] <;> rfl), by repeat (first | (with_reducible first | exact HB.out | apply below_alloc | apply pw_below_drewN | apply below_drew1 | refine below_set ?_ GE193.out) | exact HB.out)⟩
             ·
              rw [if_neg c36] at H
              exact absurd H (by simp)
            ·
             rw [if_neg c35] at H
             exact absurd H (by simp)
     ·
      rw [if_neg c15] at H
      exact absurd H (by simp)
end Go.Proofs.Ytcgbfkplhlngjaa.PA
