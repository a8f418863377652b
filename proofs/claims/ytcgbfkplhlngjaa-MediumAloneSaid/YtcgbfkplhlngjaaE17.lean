/- What the reference's test of radios comes to, in closed form. -/
import Derived.Test.YtcgbfkplhlngjaaF28
import Derived.Test.YtcgbfkplhlngjaaCat
namespace Go.Proofs.Ytcgbfkplhlngjaa.PA
open Go.RowKit Go.Proofs.YtcgbfkplhlngjaaW.PrintWords Go.Proofs.YtcgbfkplhlngjaaW.PrintLast Go.Proofs.YtcgbfkplhlngjaaW.PrintMore
set_option linter.unusedVariables false
set_option linter.unusedSimpArgs false

theorem w64n {i n : Nat} (h : i < n) (hn : n ≤ 9223372036854775807) : wrap64 ((i : Int) + 1) = ((i + 1 : Nat) : Int) := by rw [w64 (by omega) (by omega)]; omega
/-- The radios from i on are good. -/
def restB (xs : List S50) (ps : List S25) (n i d : Nat) : Bool := (List.range' i d).all fun j => radioB (xs.getD j z50) (ps.getD j z25)
theorem restB_succ (xs : List S50) (ps : List S25) (n i d : Nat) : restB xs ps n i (d + 1) = (radioB (xs.getD i z50) (ps.getD i z25) && restB xs ps n (i + 1) d) := by simp [restB, List.range'_succ]
theorem rvalid17_l0 (xs : List S50) (ps : List S25) (hl : xs.length = ps.length) (hm : xs.length ≤ 1000) (d : Nat) : ∀ (i : Nat), i + d = xs.length →
    Ev (fun k => slotmeshref17_Valid.l0 k xs ps (i : Int)) (restB xs ps xs.length i d) := by
  induction d with
  | zero =>
    intro i hd
    refine Ev.step (f := fun _ => some true) (fun k => ?_) (Ev.now _)
    simp only [slotmeshref17_Valid.l0]
    rw [if_neg (by omega)]
  | succ d ih =>
    intro i hd
    have hi : i < xs.length := by omega
    have ih := ih (i + 1) (by omega)
    rw [restB_succ]
    refine Ev.step (f := fun k => if vldB (ps.getD i z25) = true then (slotmeshref17_Valid.j2 k xs ps (i : Int) (if (xs.getD i z50).f0 < 0 then true else decide ((xs.getD i z50).f0 > 2)) ((xs.getD i z50).f0) ((xs.getD i z50).f1) ((xs.getD i z50).f2) ((xs.getD i z50).f3.f0) ((xs.getD i z50).f3.f1)) else (slotmeshref17_Valid.j2 k xs ps (i : Int) true ((xs.getD i z50).f0) ((xs.getD i z50).f1) ((xs.getD i z50).f2) ((xs.getD i z50).f3.f0) ((xs.getD i z50).f3.f1))) (fun k => ?_) ?_
    · simp only [slotmeshref17_Valid.l0, rdT50, rdT25]
      rw [if_pos (by omega), if_pos (by omega), if_pos (by omega), rvalid_f]
      simp only [Option.bind_some]
      split <;> (try split) <;> simp_all
    · generalize ps.getD i z25 = p
      generalize xs.getD i z50 = y
      have bad : ∀ a b c d' e, Ev (fun k => slotmeshref17_Valid.j2 k xs ps (i : Int) true a b c d' e) false := fun a b c d' e => Ev.step (f := fun _ => some false) (fun k => by simp only [slotmeshref17_Valid.j2, if_true]) (Ev.now _)
      cases hv : vldB p
      · simp only [radioB, hv, Bool.and_false, Bool.false_and, Bool.false_eq_true, if_false]
        exact bad _ _ _ _ _
      · simp only [radioB, hv, Bool.and_true, if_true]
        by_cases h0 : y.f0 < 0
        · rw [if_pos h0, decide_eq_false (by omega), decide_eq_false (by omega), decide_eq_false (by omega)]
          simpa using bad _ _ _ _ _
        · rw [if_neg h0]
          by_cases h2 : y.f0 > 2
          · rw [decide_eq_true h2, decide_eq_false (by omega), decide_eq_false (by omega), decide_eq_false (by omega)]
            simpa using bad _ _ _ _ _
          · rw [decide_eq_false h2]
            by_cases hz : y.f0 = 0
            · refine Ev.step (f := fun k => slotmeshref17_Valid.l0 k xs ps ((i + 1 : Nat) : Int)) (fun k => ?_) ?_
              · simp only [slotmeshref17_Valid.j2]
                rw [if_neg (by decide), if_pos hz, w64n hi (by omega)]
              · simpa [hz] using ih
            · have h12 : (decide (y.f0 = 1) || decide (y.f0 = 2)) = true := by simp; omega
              rw [h12, decide_eq_false hz]
              simp only [Bool.false_or, Bool.true_and, chanB]
              by_cases c1 : y.f1 < 0
              · rw [decide_eq_false (show ¬ 0 ≤ y.f1 by omega)]
                refine Ev.step (f := fun _ => some false) (fun k => ?_) (by simpa using Ev.now false)
                simp only [slotmeshref17_Valid.j2]
                rw [if_neg (by decide), if_neg hz, if_pos c1]
              · by_cases c2 : y.f1 ≥ 16
                · rw [decide_eq_false (show ¬ y.f1 < 16 by omega)]
                  refine Ev.step (f := fun _ => some false) (fun k => ?_) (by simpa using Ev.now false)
                  simp only [slotmeshref17_Valid.j2]
                  rw [if_neg (by decide), if_neg hz, if_neg c1, if_pos c2]
                · rw [decide_eq_true (show 0 ≤ y.f1 by omega), decide_eq_true (show y.f1 < 16 by omega)]
                  refine Ev.step (f := fun k => slotmeshref17_Valid.l0 k xs ps ((i + 1 : Nat) : Int)) (fun k => ?_) ?_
                  · simp only [slotmeshref17_Valid.j2]
                    rw [if_neg (by decide), if_neg hz, if_neg c1, if_neg c2, w64n hi (by omega)]
                  · simpa using ih
theorem rvalid17E (xs : List S50) (ps : List S25) (r asn : Int) : Ev (fun k => slotmeshref17_Valid.f k xs ps r asn) (radiosB xs ps r asn) := by
  have bad : Ev (fun k => slotmeshref17_Valid.j0 k xs ps true) false := Ev.step (f := fun _ => some false) (fun k => by simp only [slotmeshref17_Valid.j0, if_true]) (Ev.now _)
  unfold slotmeshref17_Valid.f radiosB
  by_cases h1 : xs.length = ps.length
  · simp only [if_pos (show (xs.length : Int) = (ps.length : Int) by omega), decide_eq_true h1]
    by_cases h2 : xs.length ≤ 200
    · simp only [if_neg (show ¬ (xs.length : Int) > 200 by omega), decide_eq_true h2]
      by_cases h3 : radB r = true
      · rw [h3]
        simp only [radB, Bool.and_eq_true, decide_eq_true_eq] at h3
        simp only [if_neg (show ¬ r < 0 by omega), if_neg (show ¬ r > 20000 by omega)]
        by_cases h4 : asnB asn = true
        · rw [h4]
          simp only [asnB, Bool.and_eq_true, decide_eq_true_eq] at h4
          simp only [if_neg (show ¬ asn < 0 by omega), decide_eq_false (show ¬ asn > 1000000000 by omega)]
          refine Ev.step (f := fun k => slotmeshref17_Valid.l0 k xs ps ((0 : Nat) : Int)) (fun k => ?_) ?_
          · simp only [slotmeshref17_Valid.j0]
            rw [if_neg (by decide)]; rfl
          · have := rvalid17_l0 xs ps h1 (by omega) xs.length 0 (by omega)
            simpa [restB, List.range_eq_range'] using this
        · simp only [asnB, Bool.and_eq_true, decide_eq_true_eq] at h4
          have : asnB asn = false := by simp only [asnB]; rw [Bool.eq_false_iff]; simp only [ne_eq, Bool.and_eq_true, decide_eq_true_eq]; exact h4
          rw [this]
          simp only [Bool.and_false, Bool.false_and]
          by_cases h5 : asn < 0
          · simp only [if_pos h5]; exact bad
          · simp only [if_neg h5, decide_eq_true (show asn > 1000000000 by omega)]; exact bad
      · have h3' : radB r = false := by simpa using h3
        rw [h3']
        simp only [Bool.and_false, Bool.false_and]
        simp only [radB, Bool.and_eq_true, decide_eq_true_eq] at h3
        by_cases h5 : r < 0
        · simp only [if_pos h5]; exact bad
        · simp only [if_neg h5, if_pos (show r > 20000 by omega)]; exact bad
    · simp only [if_pos (show (xs.length : Int) > 200 by omega), decide_eq_false h2]
      simpa using bad
  · simp only [if_neg (show ¬ (xs.length : Int) = (ps.length : Int) by omega), decide_eq_false h1]
    simpa using bad
def fewB (n0 n1 n3 : Nat) : Bool := decide (n0 ≤ 210) && decide (n1 ≤ 210) && decide (n3 ≤ 40)
theorem few_f (l0 : List S50) (l1 : List S25) (l2 : List S42) : slotmeshlaw17_few.f l0 l1 l2 = some (fewB l0.length l1.length l2.length) := by
  unfold slotmeshlaw17_few.f fewB
  by_cases h1 : l0.length ≤ 210
  · rw [if_pos (by omega), decide_eq_true h1]
    by_cases h2 : l1.length ≤ 210
    · rw [if_pos (by omega), decide_eq_true h2]
      by_cases h3 : l2.length ≤ 40
      · rw [decide_eq_true h3, decide_eq_true (by omega)]; rfl
      · rw [decide_eq_false h3, decide_eq_false (by omega)]; rfl
    · rw [if_neg (by omega), decide_eq_false h2]; rfl
  · rw [if_neg (by omega), decide_eq_false h1]; rfl
theorem validE (l0 : List S50) (l1 : List S25) (a2 : Int) (l3 : List S42) (a4 : Int) : Ev (fun k => slotmeshlaw17_valid.f k l0 l1 a2 l3 a4) (fewB l0.length l1.length l3.length && radiosB l0 l1 a2 a4) := by
  unfold slotmeshlaw17_valid.f
  simp only [few_f, Option.bind_some]
  cases fewB l0.length l1.length l3.length
  · simpa using Ev.now false
  · simpa using rvalid17E l0 l1 a2 a4
end Go.Proofs.Ytcgbfkplhlngjaa.PA
