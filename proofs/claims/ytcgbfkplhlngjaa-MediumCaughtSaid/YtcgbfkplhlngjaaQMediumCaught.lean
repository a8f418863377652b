/- The plain law behind MediumCaught. -/
import Derived.Test.YtcgbfkplhlngjaaF13
namespace Go.Proofs.Ytcgbfkplhlngjaa.PA
open Go.RowKit Go.Proofs.YtcgbfkplhlngjaaW.PrintWords Go.Proofs.YtcgbfkplhlngjaaW.PrintLast Go.Proofs.YtcgbfkplhlngjaaW.PrintMore
set_option linter.unusedVariables false
set_option linter.unusedSimpArgs false

theorem w64n {i n : Nat} (h : i < n) (hn : n ≤ 9223372036854775807) : wrap64 ((i : Int) + 1) = ((i + 1 : Nat) : Int) := by rw [w64 (by omega) (by omega)]; omega
def fewB (n0 n1 n3 : Nat) : Bool := decide (n0 ≤ 210) && decide (n1 ≤ 210) && decide (n3 ≤ 40)
theorem few_f (l0 : List S50) (l1 : List S25) (l2 : List S42) : slotmeshlaw17_few.f l0 l1 l2 = some (fewB l0.length l1.length l2.length) := by
  unfold slotmeshlaw17_few.f fewB
  by_cases h1 : l0.length ≤ 210
  · rw [if_pos (by omega), decide_eq_true h1]
    by_cases h2 : l1.length ≤ 210
    · rw [if_pos (by omega), decide_eq_true h2]
      by_cases h3 : l2.length ≤ 40
      · rw [decide_eq_true h3, decide_eq_true (by omega)]; rfl
      · rw [decide_eq_false h3, decide_eq_false (by omega)]; rfl
    · rw [if_neg (by omega), decide_eq_false h2]; rfl
  · rw [if_neg (by omega), decide_eq_false h1]; rfl
theorem rd_catch13 {xs : List S50} {ps : List S25} {r : Int} {js : List S42} {asn : Int} {i : Nat} (h : i < xs.length) : rd (catchL xs ps r js asn) (i : Int) = oneV xs ps r js asn i := by simp [rd, catchL, List.getD_eq_getElem?_getD, h]
theorem catchL_len13 (xs : List S50) (ps : List S25) (r : Int) (js : List S42) (asn : Int) : (catchL xs ps r js asn).length = xs.length := by simp [catchL]
def h4 (xs : List S50) (ps : List S25) (r : Int) (i k : Nat) : Bool := decide ((xs.getD i z50).f0 = 1) && hearB xs ps r i k
def up4 (xs : List S50) (ps : List S25) (r : Int) (i k : Nat) : List Nat := (List.range k).filter (h4 xs ps r i)
def lastU (U : List Nat) : Int := match U.getLast? with | none => -1 | some x => (x : Int)
theorem lastU_add (U : List Nat) (k : Nat) : lastU (U ++ [k]) = (k : Int) := by simp [lastU]
section
variable {xs : List S50} {ps : List S25} {r : Int} {i : Nat}
theorem up4_no {k : Nat} (h : h4 xs ps r i k = false) : up4 xs ps r i (k + 1) = up4 xs ps r i k := by simp [up4, List.range_succ, List.filter_append, h]
theorem up4_yes {k : Nat} (h : h4 xs ps r i k = true) : up4 xs ps r i (k + 1) = up4 xs ps r i k ++ [k] := by simp [up4, List.range_succ, List.filter_append, h]
theorem up4_len (k : Nat) : (up4 xs ps r i k).length ≤ k := by
  have := List.length_filter_le (h4 xs ps r i) (List.range k)
  simpa [up4] using this
theorem up4_end (h1 : (xs.getD i z50).f0 = 1) : up4 xs ps r i xs.length = heardL xs ps r i := by
  unfold up4 heardL
  refine List.filter_congr fun m _ => ?_
  simp only [h4]
  rw [decide_eq_true h1, Bool.true_and]
theorem up4_none (h1 : ¬ (xs.getD i z50).f0 = 1) (k : Nat) : up4 xs ps r i k = [] := by
  unfold up4
  rw [List.filter_eq_nil_iff]
  intro m _
  simp only [h4]
  rw [decide_eq_false h1, Bool.false_and]
  simp
theorem lheard_f (hl : xs.length = ps.length) (hi : i < xs.length) {k : Nat} (hk : k < xs.length) :
    slotmeshlaw17_heard.f xs ps r (k : Int) (i : Int) = some (h4 xs ps r i k) := by
  unfold slotmeshlaw17_heard.f
  rw [if_pos (by simp only [in4B, Bool.and_eq_true, decide_eq_true_eq]; omega), rdT50, rdT50, rdT25, rdT25]
  unfold hear4B h4 hearB
  cases decide ((xs.getD i z50).f0 = 1) <;> simp
theorem caught_end (js : List S42) (asn : Int) (hl : xs.length = ps.length) (hm : xs.length ≤ 1000) (hi : i < xs.length)
    (hnext : Ev (fun m => slotmeshlaw17_MediumCaught.l0 m xs ps r js asn true (catchL xs ps r js asn) (xs.length : Int) ((i + 1 : Nat) : Int)) true) :
    Ev (fun m => slotmeshlaw17_MediumCaught.l1 m xs ps r js asn true (i : Int) (oneV xs ps r js asn i) ((up4 xs ps r i xs.length).length : Int) (lastU (up4 xs ps r i xs.length)) (catchL xs ps r js asn) (xs.length : Int) (i : Int) (xs.length : Int) (xs.length : Int)) true := by
  have hw := w64n hi (show xs.length ≤ 9223372036854775807 by omega)
  by_cases h1 : (xs.getD i z50).f0 = 1
  · rw [up4_end h1]
    have hlt : ∀ f, f ∈ heardL xs ps r i → f < xs.length := fun f hf => by simp only [heardL, List.mem_filter, List.mem_range] at hf; exact hf.1
    refine Ev.step (f := fun m => slotmeshlaw17_MediumCaught.j3 m xs ps r js asn true (i : Int) (oneV xs ps r js asn i) ((heardL xs ps r i).length : Int) (lastU (heardL xs ps r i)) (js.any fun j => jamB j (ps.getD i z25) (xs.getD i z50).f1 asn) (catchL xs ps r js asn) (xs.length : Int) (i : Int)) (fun m => ?_) ?_
    · simp only [slotmeshlaw17_MediumCaught.l1, rdT50, rdT25]
      rw [if_neg (by omega), if_pos (by omega), if_pos (by omega), if_pos h1, if_pos (by omega)]
      unfold plane_Jammed.f
      simp only [Option.bind_some]
    · unfold oneV catchV
      simp only [if_pos h1]
      cases js.any fun j => jamB j (ps.getD i z25) (xs.getD i z50).f1 asn
      · simp only [Bool.false_eq_true, if_false]
        generalize heardL xs ps r i = U at hlt
        match U with
        | [] =>
          refine Ev.step (fun m => by simp only [slotmeshlaw17_MediumCaught.j3, Bool.false_eq_true, if_false]; rfl) ?_
          refine Ev.step (fun m => by simp only [slotmeshlaw17_MediumCaught.j4, List.length_nil]; rw [if_neg (by decide), if_neg (by decide)]) ?_
          refine Ev.step (fun m => ?_) hnext
          simp only [slotmeshlaw17_MediumCaught.j5, Bool.false_eq_true, if_false, if_true, hw]
        | [f] =>
          have hf := hlt f (by simp)
          refine Ev.step (fun m => by simp only [slotmeshlaw17_MediumCaught.j3, Bool.false_eq_true, if_false]; rfl) ?_
          have e : lastU [f] = (f : Int) := by simp [lastU]
          rw [e]
          refine Ev.step (f := fun m => slotmeshlaw17_MediumCaught.j5 m xs ps r js asn true (if opensB (xs.getD f z50).f2 (xs.getD i z50).f3 = true then (f : Int) else -1) (f : Int) (-1) (catchL xs ps r js asn) (xs.length : Int) (i : Int) (opensB (xs.getD f z50).f2 (xs.getD i z50).f3)) (fun m => ?_) ?_
          · simp only [slotmeshlaw17_MediumCaught.j4, List.length_cons, List.length_nil, rdT50]
            rw [if_neg (by simp), if_pos (by simp), if_pos (by omega), if_pos (by omega), if_pos (by omega), if_pos (by omega)]
            unfold opensB
            by_cases g : (xs.getD i z50).f3.f0 ≤ (xs.getD f z50).f2
            · rw [if_pos g, decide_eq_true g, Bool.true_and]
            · rw [if_neg g, decide_eq_false g, Bool.false_and]
          · refine Ev.step (fun m => ?_) hnext
            cases opensB (xs.getD f z50).f2 (xs.getD i z50).f3 <;> simp [slotmeshlaw17_MediumCaught.j5, hw]
        | f :: g :: V =>
          refine Ev.step (fun m => by simp only [slotmeshlaw17_MediumCaught.j3, Bool.false_eq_true, if_false]; rfl) ?_
          refine Ev.step (fun m => ?_) hnext
          simp only [slotmeshlaw17_MediumCaught.j4, List.length_cons]
          rw [if_pos (by simp; omega), if_pos trivial, hw]
      · simp only [if_true]
        refine Ev.step (fun m => by simp only [slotmeshlaw17_MediumCaught.j3, if_true]; rfl) ?_
        refine Ev.step (fun m => ?_) hnext
        simp only [slotmeshlaw17_MediumCaught.j4, if_true, hw]
  · rw [up4_none h1]
    have hv : oneV xs ps r js asn i = -1 := by unfold oneV; rw [if_neg h1]
    rw [hv]
    refine Ev.step (f := fun m => slotmeshlaw17_MediumCaught.j3 m xs ps r js asn true (i : Int) (-1) (([] : List Nat).length : Int) (lastU []) false (catchL xs ps r js asn) (xs.length : Int) (i : Int)) (fun m => ?_) ?_
    · simp only [slotmeshlaw17_MediumCaught.l1, rdT50, rdT25]
      rw [if_neg (by omega), if_pos (by omega), if_pos (by omega), if_neg h1]
    · refine Ev.step (fun m => by simp only [slotmeshlaw17_MediumCaught.j3, Bool.false_eq_true, if_false]; rfl) ?_
      refine Ev.step (fun m => by simp only [slotmeshlaw17_MediumCaught.j4, List.length_nil]; rw [if_neg (by decide), if_neg (by decide)]) ?_
      refine Ev.step (fun m => ?_) hnext
      simp only [slotmeshlaw17_MediumCaught.j5, Bool.false_eq_true, if_false, if_true, hw]
theorem caught_l1 (js : List S42) (asn : Int) (hl : xs.length = ps.length) (hm : xs.length ≤ 1000) (hi : i < xs.length)
    (hnext : Ev (fun m => slotmeshlaw17_MediumCaught.l0 m xs ps r js asn true (catchL xs ps r js asn) (xs.length : Int) ((i + 1 : Nat) : Int)) true) (d : Nat) : ∀ k : Nat, k + d = xs.length →
    Ev (fun m => slotmeshlaw17_MediumCaught.l1 m xs ps r js asn true (i : Int) (oneV xs ps r js asn i) ((up4 xs ps r i k).length : Int) (lastU (up4 xs ps r i k)) (catchL xs ps r js asn) (xs.length : Int) (i : Int) (xs.length : Int) (k : Int)) true := by
  induction d with
  | zero =>
    intro k hd
    obtain rfl : k = xs.length := by omega
    exact caught_end js asn hl hm hi hnext
  | succ d ih =>
    intro k hd
    have hk : k < xs.length := by omega
    have ih := ih (k + 1) (by omega)
    have hw := w64n hk (show xs.length ≤ 9223372036854775807 by omega)
    cases hh : h4 xs ps r i k
    · rw [up4_no hh] at ih
      refine Ev.step (fun m => ?_) ih
      simp only [slotmeshlaw17_MediumCaught.l1, lheard_f hl hi hk, hh, Option.bind_some, Bool.false_eq_true, if_false, hw]
      rw [if_pos (by omega)]
    · rw [up4_yes hh, lastU_add] at ih
      have hU := up4_len (xs := xs) (ps := ps) (r := r) (i := i) k
      have hc : wrap64 (((up4 xs ps r i k).length : Int) + 1) = ((up4 xs ps r i k ++ [k]).length : Int) := by rw [w64 (by omega) (by omega)]; simp
      refine Ev.step (fun m => ?_) ih
      simp only [slotmeshlaw17_MediumCaught.l1, lheard_f hl hi hk, hh, Option.bind_some, if_true, hw, hc]
      rw [if_pos (by omega)]
theorem caught_l0 (js : List S42) (asn : Int) (hl : xs.length = ps.length) (hm : xs.length ≤ 1000) (d : Nat) : ∀ i : Nat, i + d = xs.length →
    Ev (fun m => slotmeshlaw17_MediumCaught.l0 m xs ps r js asn true (catchL xs ps r js asn) (xs.length : Int) (i : Int)) true := by
  induction d with
  | zero =>
    intro i hd
    refine Ev.step (f := fun _ => some true) (fun m => ?_) (Ev.now _)
    simp only [slotmeshlaw17_MediumCaught.l0]
    rw [if_neg (by omega)]
  | succ d ih =>
    intro i hd
    have hi : i < xs.length := by omega
    refine Ev.step (fun m => ?_) (caught_l1 js asn hl hm hi (ih (i + 1) (by omega)) xs.length 0 (by omega))
    simp only [slotmeshlaw17_MediumCaught.l0, catchL_len13, rd_catch13 hi]
    rw [if_pos (by omega), if_pos (by omega), if_pos (by omega)]
    rfl
end
theorem pure_MediumCaught (l0 : List S50) (l1 : List S25) (a2 : Int) (l3 : List S42) (a4 : Int) (_ : l0.length * 40 ≤ 140737488351232) (_ : l1.length * 16 ≤ 140737488351232) (_ : (Lit.int .i64 a2).wf = true) (_ : l3.length * 40 ≤ 140737488351232) (_ : (Lit.int .i64 a4).wf = true) :
    ∃ k, slotmeshlaw17_MediumCaught.f k l0 l1 a2 l3 a4 = some true := by
  refine Ev.rounds ?_
  unfold slotmeshlaw17_MediumCaught.f slotmeshlaw17_head.f
  simp only [Option.bind_some, few_f]
  cases hf : fewB l0.length l1.length l3.length
  · simp only [Bool.false_eq_true, if_false]
    exact Ev.now _
  simp only [if_true]
  unfold medium_Catch.f
  cases hr : radiosB l0 l1 a2 a4
  · simp only [Bool.false_eq_true, if_false, Option.bind_some]
    exact Ev.now _
  · simp only [if_true, Option.bind_some, catchL_len13]
    simp only [radiosB, Bool.and_eq_true, decide_eq_true_eq] at hr
    obtain ⟨⟨⟨⟨hl, hm⟩, _⟩, _⟩, _⟩ := hr
    have e : ((l1.length : Int) != (l0.length : Int)) = false := by simp [hl]
    rw [e]
    refine Ev.step (fun m => ?_) (caught_l0 (r := a2) l3 a4 hl (by omega) l0.length 0 (by omega))
    simp only [slotmeshlaw17_MediumCaught.j0, Bool.false_eq_true, if_false, catchL_len13]
    rfl
end Go.Proofs.Ytcgbfkplhlngjaa.PA
