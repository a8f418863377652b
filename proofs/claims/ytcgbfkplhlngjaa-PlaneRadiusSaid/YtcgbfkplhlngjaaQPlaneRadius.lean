/- The plain law behind PlaneRadius. -/
import Derived.Test.YtcgbfkplhlngjaaF5
import Derived.Test.YtcgbfkplhlngjaaD
namespace Go.Proofs.Ytcgbfkplhlngjaa.PA
open Go.RowKit Go.Proofs.YtcgbfkplhlngjaaW.PrintWords Go.Proofs.YtcgbfkplhlngjaaW.PrintLast Go.Proofs.YtcgbfkplhlngjaaW.PrintMore
set_option linter.unusedVariables false

theorem near_more {a b : S25} {r m : Int} (hr : 0 ≤ r) (hm : 0 ≤ m) (hrm : r + m ≤ 20000) (h : nearB a b r = true) : nearB a b (r + m) = true := by
  simp only [nearB, Bool.and_eq_true] at *
  refine ⟨⟨h.1.1, radB_iff.2 ⟨by omega, hrm⟩⟩, ?_⟩
  have := distB_iff.1 h.2
  rw [distB_iff]
  have z : (r + m) * (r + m) = r * r + m * m + 2 * (r * m) := by grind
  have p := Int.mul_nonneg hr hm
  have q := sq_nonneg m
  omega
theorem near_zero {a b : S25} (ha : vldB a = true) (hb : vldB b = true) : nearB a b 0 = (a.f0 == b.f0 && (a.f1 == b.f1)) := by
  have : radB 0 = true := by decide
  simp only [nearB, ha, hb, this, Bool.true_and]
  rw [Bool.eq_iff_iff, distB_iff]
  simp only [Bool.and_eq_true, beq_iff_eq]
  have p := sq_nonneg (a.f0 - b.f0)
  have q := sq_nonneg (a.f1 - b.f1)
  constructor
  · intro h
    have h1 : (a.f0 - b.f0) * (a.f0 - b.f0) = 0 := by omega
    have h2 : (a.f1 - b.f1) * (a.f1 - b.f1) = 0 := by omega
    have h3 : a.f0 - b.f0 = 0 := by rcases Int.mul_eq_zero.1 h1 with h | h <;> exact h
    have h4 : a.f1 - b.f1 = 0 := by rcases Int.mul_eq_zero.1 h2 with h | h <;> exact h
    omega
  · rintro ⟨h1, h2⟩
    rw [h1, h2]
    simp
theorem near_all {a b : S25} (ha : vldB a = true) (hb : vldB b = true) : nearB a b 15000 = true := by
  have : radB 15000 = true := by decide
  simp only [nearB, ha, hb, this, Bool.true_and]
  rw [distB_iff]
  rw [vldB_iff] at ha hb
  have h1 := sq_le (x := a.f0 - b.f0) (m := 10000) (by omega) (by omega) (by omega)
  have h2 := sq_le (x := a.f1 - b.f1) (m := 10000) (by omega) (by omega) (by omega)
  omega

theorem pure_PlaneRadius (a b : S25) (r s : Int) (_ : (Lit.int .i64 r).wf = true) (_ : (Lit.int .i64 s).wf = true) : ∃ k, slotmeshlaw16_PlaneRadius.f k a.f0 a.f1 b.f0 b.f1 r s = some true := by
  have out : slotmeshlaw16_PlaneRadius.j0 1 r s true true a.f0 a.f1 b.f0 b.f1 = some true := by simp [slotmeshlaw16_PlaneRadius.j0]
  refine ⟨1, ?_⟩
  unfold slotmeshlaw16_PlaneRadius.f slotmeshlaw16_head.f
  rw [rvalid_f, rvalid_f]
  simp only [Option.bind_some]
  cases ha : vldB a
  · simpa using out
  cases hb : vldB b
  · simpa using out
  simp only [if_true]
  by_cases h1 : r < 0
  · rw [if_pos h1]; exact out
  by_cases h2 : s < 0
  · rw [if_neg h1, if_pos h2]; exact out
  by_cases h3 : r > 20000
  · rw [if_neg h1, if_neg h2, if_pos h3]; exact out
  rw [if_neg h1, if_neg h2, if_neg h3, w64 (by omega) (by omega)]
  by_cases h4 : s > 20000 - r
  · rw [decide_eq_true h4]; exact out
  rw [decide_eq_false h4]
  simp only [slotmeshlaw16_PlaneRadius.j0, Bool.false_eq_true, if_false, if_true]
  rw [near_f a b r, w64 (by omega) (by omega), near_f a b (r + s), near_f a b 0, near_f a b 15000, near_zero ha hb, near_all ha hb]
  simp only [Option.bind_some]
  cases e1 : nearB a b r
  · simp
  rw [near_more (by omega) (by omega) (by omega) e1]
  simp
end Go.Proofs.Ytcgbfkplhlngjaa.PA
