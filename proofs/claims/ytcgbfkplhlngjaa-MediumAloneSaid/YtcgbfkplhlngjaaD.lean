/- The plain functions of the plane: which place is valid, who is near whom, who hears whom, what a jammer disturbs; and that the calls of plane.Near and of the reference's come to them. -/
import Derived.Test.YtcgbfkplhlngjaaF21
import Derived.Test.YtcgbfkplhlngjaaF22
import Derived.Test.YtcgbfkplhlngjaaF30
namespace Go.Proofs.Ytcgbfkplhlngjaa.PA
open Go.RowKit Go.Proofs.YtcgbfkplhlngjaaW.PrintWords Go.Proofs.YtcgbfkplhlngjaaW.PrintLast Go.Proofs.YtcgbfkplhlngjaaW.PrintMore
set_option linter.unusedVariables false
set_option linter.unusedSimpArgs false

def vldB (p : S25) : Bool := decide (0 ≤ p.f0) && decide (p.f0 ≤ 10000) && decide (0 ≤ p.f1) && decide (p.f1 ≤ 10000)
def radB (r : Int) : Bool := decide (0 ≤ r) && decide (r ≤ 20000)
def distB (a b : S25) (r : Int) : Bool := decide ((a.f0 - b.f0) * (a.f0 - b.f0) + (a.f1 - b.f1) * (a.f1 - b.f1) ≤ r * r)
def nearB (a b : S25) (r : Int) : Bool := vldB a && vldB b && radB r && distB a b r
def jamB (j : S42) (p : S25) (c asn : Int) : Bool := decide (j.f2 = c) && decide (asn < j.f3) && nearB j.f0 p j.f1
def placesB (l : List S25) (r : Int) : Bool := decide (l.length ≤ 60) && radB r && l.all vldB
def hearsT (l : List S25) (r : Int) : List (List Bool) := (List.range l.length).map fun i => (List.range l.length).map fun k => (i != k) && nearB (l.getD i z25) (l.getD k z25) r

theorem vldB_iff {p : S25} : vldB p = true ↔ 0 ≤ p.f0 ∧ p.f0 ≤ 10000 ∧ 0 ≤ p.f1 ∧ p.f1 ≤ 10000 := by simp [vldB]; omega
theorem radB_iff {r : Int} : radB r = true ↔ 0 ≤ r ∧ r ≤ 20000 := by simp [radB]
theorem distB_iff {a b : S25} {r : Int} : distB a b r = true ↔ (a.f0 - b.f0) * (a.f0 - b.f0) + (a.f1 - b.f1) * (a.f1 - b.f1) ≤ r * r := by simp [distB]

theorem w64 {x : Int} (h : -9223372036854775808 ≤ x) (h' : x ≤ 9223372036854775807) : wrap64 x = x := by unfold wrap64; omega
theorem sq_le {x : Int} {m : Int} (h0 : -m ≤ x) (h1 : x ≤ m) (hm : 0 ≤ m) : x * x ≤ m * m := by
  rcases Int.le_total 0 x with h | h
  · exact Int.mul_le_mul h1 h1 h hm
  · have := Int.mul_le_mul (a := -x) (b := -x) (c := m) (d := m) (by omega) (by omega) (by omega) hm
    rwa [Int.neg_mul_neg] at this
theorem sq_nonneg (x : Int) : 0 ≤ x * x := by
  rcases Int.le_total 0 x with h | h
  · exact Int.mul_nonneg h h
  · have := Int.mul_nonneg (a := -x) (b := -x) (by omega) (by omega); rwa [Int.neg_mul_neg] at this

theorem in_f (n h : Int) : plane_in.f n h = some (decide (0 ≤ n) && decide (n ≤ h)) := by
  unfold plane_in.f
  by_cases h0 : n ≥ 0
  · rw [if_pos h0]; simp [show 0 ≤ n from h0]
  · rw [if_neg h0]; simp [show ¬ 0 ≤ n from h0]
theorem isPlace_f (p : S25) : plane_isPlace.f p.f0 p.f1 = some (vldB p) := by
  unfold plane_isPlace.f vldB
  rw [in_f _ _, in_f _ _]
  simp only [Option.bind_some]
  cases (decide (0 ≤ p.f0) && decide (p.f0 ≤ 10000)) <;> simp
theorem rvalid_f (p : S25) : slotmeshref16_Valid.f p.f0 p.f1 = some (vldB p) := by
  unfold slotmeshref16_Valid.f vldB
  repeat' split
  all_goals (congr 1; simp; omega)
/-- The sums of Go's text, none of which wraps where the places and the radius are valid. -/
theorem go_dist {a b : S25} {r : Int} (ha : vldB a = true) (hb : vldB b = true) (hr : radB r = true) :
    decide ((wrap64 ((wrap64 ((wrap64 (a.f0 - b.f0)) * (wrap64 (a.f0 - b.f0)))) + (wrap64 ((wrap64 (a.f1 - b.f1)) * (wrap64 (a.f1 - b.f1)))))) ≤ (wrap64 (r * r))) = distB a b r := by
  rw [vldB_iff] at ha hb
  rw [radB_iff] at hr
  have h1 := sq_le (x := a.f0 - b.f0) (m := 10000) (by omega) (by omega) (by omega)
  have h2 := sq_le (x := a.f1 - b.f1) (m := 10000) (by omega) (by omega) (by omega)
  have h3 := sq_le (x := r) (m := 20000) (by omega) (by omega) (by omega)
  have p1 := sq_nonneg (a.f0 - b.f0)
  have p2 := sq_nonneg (a.f1 - b.f1)
  have p3 := sq_nonneg r
  rw [w64 (x := a.f0 - b.f0) (by omega) (by omega), w64 (x := a.f1 - b.f1) (by omega) (by omega), w64 (x := (a.f0 - b.f0) * (a.f0 - b.f0)) (by omega) (by omega), w64 (x := (a.f1 - b.f1) * (a.f1 - b.f1)) (by omega) (by omega), w64 (x := r * r) (by omega) (by omega), w64 (by omega) (by omega)]
  rfl
theorem eq_dist {a b : S25} {r : Int} (h : (a.f0 == b.f0 && (a.f1 == b.f1)) = true) : distB a b r = true := by
  simp at h
  rw [distB_iff, h.1, h.2]
  have := sq_nonneg r
  simpa using this
theorem near_f (a b : S25) (r : Int) : plane_Near.f a.f0 a.f1 b.f0 b.f1 r = some (nearB a b r) := by
  unfold plane_Near.f nearB
  rw [isPlace_f, isPlace_f, in_f _ _]
  simp only [Option.bind_some]
  cases ha : vldB a
  · simp
  cases hb : vldB b
  · simp
  simp only [if_true]
  change (if radB r = true then _ else _) = _
  cases hr : radB r
  · simp
  simp only [if_true, Bool.and_true, Bool.true_and]
  by_cases h : (a.f0 == b.f0 && (a.f1 == b.f1)) = true
  · rw [if_pos h, eq_dist h]
  · rw [if_neg h, go_dist ha hb hr]
theorem rnear_f (a b : S25) (r : Int) : slotmeshref16_Near.f a.f0 a.f1 b.f0 b.f1 r = some (nearB a b r) := by
  unfold slotmeshref16_Near.f nearB
  rw [rvalid_f, rvalid_f]
  simp only [Option.bind_some]
  cases ha : vldB a
  · simp
  cases hb : vldB b
  · simp
  simp only [if_true, Bool.true_and]
  cases hr : radB r
  · have : ¬ (0 ≤ r ∧ r ≤ 20000) := fun h => by rw [radB_iff.2 h] at hr; cases hr
    by_cases h0 : r < 0
    · rw [if_pos h0]; simp
    · rw [if_neg h0, if_pos (by omega)]; simp
  · have h := radB_iff.1 hr
    rw [if_neg (by omega), if_neg (by omega), go_dist ha hb hr]; simp
/-- The call of plane.Near at any two places, valid or not, and any radius. -/
theorem near_any (a b : S25) (r : Int) (w : World) :
    Calls Try.prog 21 #[.agg #[.int .i64 a.f0, .int .i64 a.f1], .agg #[.int .i64 b.f0, .int .i64 b.f1], .int .i64 r] w fun e w' => e = .returned (.bool (nearB a b r)) ∧ Below w.heap.size w w' :=
  plane_Near.calls _ _ _ _ _ _ w (near_f a b r)
theorem rnear_any (a b : S25) (r : Int) (w : World) :
    Calls Try.prog 22 #[.agg #[.int .i64 a.f0, .int .i64 a.f1], .agg #[.int .i64 b.f0, .int .i64 b.f1], .int .i64 r] w fun e w' => e = .returned (.bool (nearB a b r)) ∧ Below w.heap.size w w' :=
  slotmeshref16_Near.calls _ _ _ _ _ _ w (rnear_f a b r)
theorem isPlace_any (a : S25) (w : World) :
    Calls Try.prog 38 #[.agg #[.int .i64 a.f0, .int .i64 a.f1]] w fun e w' => e = .returned (.bool (vldB a)) ∧ Below w.heap.size w w' :=
  plane_isPlace.calls _ _ _ w (isPlace_f a)
end Go.Proofs.Ytcgbfkplhlngjaa.PA
