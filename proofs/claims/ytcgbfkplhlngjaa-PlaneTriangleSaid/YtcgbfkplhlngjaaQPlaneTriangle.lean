/- The plain law behind PlaneTriangle: near for one radius and near for another, so near for their sum. -/
import Derived.Test.YtcgbfkplhlngjaaF8
import Derived.Test.YtcgbfkplhlngjaaD
namespace Go.Proofs.Ytcgbfkplhlngjaa.PA
open Go.RowKit Go.Proofs.YtcgbfkplhlngjaaW.PrintWords Go.Proofs.YtcgbfkplhlngjaaW.PrintLast Go.Proofs.YtcgbfkplhlngjaaW.PrintMore
set_option linter.unusedVariables false

theorem cauchy (x y u v r s : Int) (hr : 0 ≤ r) (hs : 0 ≤ s) (h1 : x * x + y * y ≤ r * r) (h2 : u * u + v * v ≤ s * s) : x * u + y * v ≤ r * s := by
  rcases (show r * s < x * u + y * v ∨ x * u + y * v ≤ r * s by omega) with h | h
  · exfalso
    have hrs : 0 ≤ r * s := Int.mul_nonneg hr hs
    have e : (x * u + y * v) * (x * u + y * v) + (x * v - y * u) * (x * v - y * u) = (x * x + y * y) * (u * u + v * v) := by grind
    have p := sq_nonneg (x * v - y * u)
    have q : (r * s) * (r * s) < (x * u + y * v) * (x * u + y * v) := by
      have a := Int.mul_lt_mul_of_pos_left h (show 0 < x * u + y * v by omega)
      have b := Int.mul_le_mul_of_nonneg_right (Int.le_of_lt h) hrs
      exact Int.lt_of_le_of_lt b a
    have t : (x * x + y * y) * (u * u + v * v) ≤ (r * r) * (s * s) := Int.mul_le_mul h1 h2 (by have := sq_nonneg u; have := sq_nonneg v; omega) (sq_nonneg r)
    have z : (r * r) * (s * s) = (r * s) * (r * s) := by grind
    omega
  · exact h
theorem dist_tri {a b c : S25} {r s : Int} (hr : 0 ≤ r) (hs : 0 ≤ s) (h1 : distB a b r = true) (h2 : distB b c s = true) : distB a c (r + s) = true := by
  rw [distB_iff] at *
  have h := cauchy _ _ _ _ r s hr hs h1 h2
  have e : (a.f0 - c.f0) * (a.f0 - c.f0) + (a.f1 - c.f1) * (a.f1 - c.f1) = ((a.f0 - b.f0) * (a.f0 - b.f0) + (a.f1 - b.f1) * (a.f1 - b.f1)) + ((b.f0 - c.f0) * (b.f0 - c.f0) + (b.f1 - c.f1) * (b.f1 - c.f1)) + 2 * ((a.f0 - b.f0) * (b.f0 - c.f0) + (a.f1 - b.f1) * (b.f1 - c.f1)) := by grind
  have z : (r + s) * (r + s) = r * r + s * s + 2 * (r * s) := by grind
  omega
theorem near_tri {a b c : S25} {r s : Int} (hr : 0 ≤ r) (hs : 0 ≤ s) (hrs : r + s ≤ 20000) (h1 : nearB a b r = true) (h2 : nearB b c s = true) : nearB a c (r + s) = true := by
  simp only [nearB, Bool.and_eq_true] at *
  exact ⟨⟨⟨h1.1.1.1, h2.1.1.2⟩, radB_iff.2 ⟨by omega, hrs⟩⟩, dist_tri hr hs h1.2 h2.2⟩

theorem pure_PlaneTriangle (a b c : S25) (r s : Int) (_ : (Lit.int .i64 r).wf = true) (_ : (Lit.int .i64 s).wf = true) : ∃ k, slotmeshlaw16_PlaneTriangle.f k a.f0 a.f1 b.f0 b.f1 c.f0 c.f1 r s = some true := by
  have start : ∀ f : Nat, slotmeshlaw16_PlaneTriangle.j0 1 r s true true a.f0 a.f1 b.f0 b.f1 c.f0 c.f1 = some true := fun _ => by simp [slotmeshlaw16_PlaneTriangle.j0]
  refine ⟨1, ?_⟩
  unfold slotmeshlaw16_PlaneTriangle.f slotmeshlaw16_head.f
  simp only [Option.bind_some]
  by_cases h1 : r < 0
  · rw [if_pos h1]; exact start 0
  by_cases h2 : s < 0
  · rw [if_neg h1, if_pos h2]; exact start 0
  by_cases h3 : r > 20000
  · rw [if_neg h1, if_neg h2, if_pos h3]; exact start 0
  rw [if_neg h1, if_neg h2, if_neg h3, w64 (by omega) (by omega)]
  by_cases h4 : s > 20000 - r
  · rw [decide_eq_true h4]; exact start 0
  rw [decide_eq_false h4]
  simp only [slotmeshlaw16_PlaneTriangle.j0, Bool.false_eq_true, if_false, if_true]
  rw [near_f a b r, near_f b c s, w64 (by omega) (by omega), near_f a c (r + s)]
  simp only [Option.bind_some]
  cases e1 : nearB a b r
  · simp
  cases e2 : nearB b c s
  · simp
  rw [near_tri (by omega) (by omega) (by omega) e1 e2]
  simp
end Go.Proofs.Ytcgbfkplhlngjaa.PA
