/- The plain law behind MediumJams. -/
import Derived.Test.YtcgbfkplhlngjaaF6
import Derived.Test.YtcgbfkplhlngjaaE17
namespace Go.Proofs.Ytcgbfkplhlngjaa.PA
open Go.RowKit Go.Proofs.YtcgbfkplhlngjaaW.PrintWords Go.Proofs.YtcgbfkplhlngjaaW.PrintLast Go.Proofs.YtcgbfkplhlngjaaW.PrintMore
set_option linter.unusedVariables false
set_option linter.unusedSimpArgs false

theorem rd_catch6 {xs : List S50} {ps : List S25} {r : Int} {js : List S42} {asn : Int} {i : Nat} (h : i < xs.length) : rd (catchL xs ps r js asn) (i : Int) = oneV xs ps r js asn i := by simp [rd, catchL, List.getD_eq_getElem?_getD, h]
theorem catchL_len6 (xs : List S50) (ps : List S25) (r : Int) (js : List S42) (asn : Int) : (catchL xs ps r js asn).length = xs.length := by simp [catchL]
theorem jams_l0 (xs : List S50) (ps : List S25) (r : Int) (js : List S42) (asn : Int) (j : S42) (hl : xs.length = ps.length) (hm : xs.length ≤ 1000) (d : Nat) : ∀ i : Nat, i + d = xs.length →
    Ev (fun k => slotmeshlaw17_MediumJams.l0 k ps asn true (catchL xs ps r js asn) (catchL xs ps r (js ++ [j]) asn) xs (xs.length : Int) (i : Int) j.f0.f0 j.f0.f1 j.f1 j.f2 j.f3) true := by
  induction d with
  | zero =>
    intro i hd
    refine Ev.step (f := fun _ => some true) (fun k => ?_) (Ev.now _)
    simp only [slotmeshlaw17_MediumJams.l0]
    rw [if_neg (by omega)]
  | succ d ih =>
    intro i hd
    have hi : i < xs.length := by omega
    refine Ev.step (fun k => ?_) (ih (i + 1) (by omega))
    have hw := w64n hi (show xs.length ≤ 9223372036854775807 by omega)
    have hj : plane_Jammed.f [(⟨(⟨j.f0.f0, j.f0.f1⟩ : S25), j.f1, j.f2, j.f3⟩ : S42)] ((ps.getD i z25).f0) ((ps.getD i z25).f1) ((xs.getD i z50).f1) asn = some (jamB j (ps.getD i z25) (xs.getD i z50).f1 asn) := by
      unfold plane_Jammed.f
      simp
    have v1 : oneV xs ps r (js ++ [j]) asn i = if (xs.getD i z50).f0 = 1 then (if ((js.any fun j => jamB j (ps.getD i z25) (xs.getD i z50).f1 asn) || jamB j (ps.getD i z25) (xs.getD i z50).f1 asn) = true then -2 else catchV xs ps r i) else -1 := by
      unfold oneV
      simp only [List.any_append, List.any_cons, List.any_nil, Bool.or_false]
    simp only [slotmeshlaw17_MediumJams.l0, rdT50, rdT25, hj, Option.bind_some, rd_catch6 hi, catchL_len6, hw]
    simp only [if_pos (show (i : Int) < (xs.length : Int) by omega), if_pos (show (0 : Int) ≤ (i : Int) by omega), if_pos (show (i : Int) < (ps.length : Int) by omega), v1]
    unfold oneV
    by_cases h1 : (xs.getD i z50).f0 = 1
    · simp only [if_pos h1]
      cases jamB j (ps.getD i z25) (xs.getD i z50).f1 asn
      · simp
      · simp
    · simp only [if_neg h1, if_true]
theorem pure_MediumJams (l0 : List S50) (l1 : List S25) (a2 : Int) (l3 : List S42) (a4 : Int) (a5 : S42) (_ : l0.length * 40 ≤ 140737488351232) (_ : l1.length * 16 ≤ 140737488351232) (_ : (Lit.int .i64 a2).wf = true) (_ : l3.length * 40 ≤ 140737488351232) (_ : (Lit.int .i64 a4).wf = true) :
    ∃ k, slotmeshlaw17_MediumJams.f k l0 l1 a2 l3 a4 a5.f0.f0 a5.f0.f1 a5.f1 a5.f2 a5.f3 = some true := by
  refine Ev.rounds ?_
  unfold slotmeshlaw17_MediumJams.f slotmeshlaw17_head.f
  simp only [Option.bind_some]
  refine Ev.bind (validE l0 l1 a2 l3 a4) ?_
  cases hv : fewB l0.length l1.length l3.length && radiosB l0 l1 a2 a4
  · simp only [Bool.false_eq_true, if_false]
    exact Ev.now _
  simp only [if_true]
  rw [Bool.and_eq_true] at hv
  obtain ⟨hf, hr⟩ := hv
  simp only [fewB, Bool.and_eq_true, decide_eq_true_eq] at hf
  have hr' := hr
  simp only [radiosB, Bool.and_eq_true, decide_eq_true_eq] at hr'
  obtain ⟨⟨⟨⟨hl, hm⟩, _⟩, _⟩, _⟩ := hr'
  have f1 : ∀ k js, medium_Catch.f k l0 l1 a2 js a4 = some (catchL l0 l1 a2 js a4, 0) := fun k js => by unfold medium_Catch.f; rw [if_pos hr]
  simp only [f1, Option.bind_some, List.nil_append, List.length_nil, List.length_cons, Nat.zero_add, if_true, catchL_len6, if_pos (show l3.length < 3518437208883 by omega), if_pos (show l3.length + 1 < 3518437208883 by omega), bne_self_eq_false]
  refine Ev.step (fun k => ?_) (jams_l0 l0 l1 a2 l3 a4 a5 hl (by omega) l0.length 0 (by omega))
  simp only [slotmeshlaw17_MediumJams.j0, Bool.false_eq_true, if_false]
  rfl
end Go.Proofs.Ytcgbfkplhlngjaa.PA
