/- The plain law behind MediumMore. -/
import Derived.Test.YtcgbfkplhlngjaaF15
import Derived.Test.YtcgbfkplhlngjaaE17
namespace Go.Proofs.Ytcgbfkplhlngjaa.PA
open Go.RowKit Go.Proofs.YtcgbfkplhlngjaaW.PrintWords Go.Proofs.YtcgbfkplhlngjaaW.PrintLast Go.Proofs.YtcgbfkplhlngjaaW.PrintMore
set_option linter.unusedVariables false
set_option linter.unusedSimpArgs false

theorem rd_catch15 {xs : List S50} {ps : List S25} {r : Int} {js : List S42} {asn : Int} {i : Nat} (h : i < xs.length) : rd (catchL xs ps r js asn) (i : Int) = oneV xs ps r js asn i := by simp [rd, catchL, List.getD_eq_getElem?_getD, h]
theorem catchL_len15 (xs : List S50) (ps : List S25) (r : Int) (js : List S42) (asn : Int) : (catchL xs ps r js asn).length = xs.length := by simp [catchL]
theorem elder50 {xs : List S50} {a : S50} {k : Nat} (hk : k < xs.length) : (xs ++ [a]).getD k z50 = xs.getD k z50 := by simp [List.getD_eq_getElem?_getD, List.getElem?_append_left hk]
theorem elder25 {ps : List S25} {p : S25} {k : Nat} (hk : k < ps.length) : (ps ++ [p]).getD k z25 = ps.getD k z25 := by simp [List.getD_eq_getElem?_getD, List.getElem?_append_left hk]
theorem newest50 (xs : List S50) (a : S50) : (xs ++ [a]).getD xs.length z50 = a := by simp [List.getD_eq_getElem?_getD]
def h15 (xs : List S50) (ps : List S25) (r : Int) (i k : Nat) : Bool := decide ((xs.getD i z50).f0 = 1) && hearB xs ps r i k
theorem lheard15 {xs : List S50} {ps : List S25} {r : Int} {i k : Nat} (hl : xs.length = ps.length) (hi : i < xs.length) (hk : k < xs.length) :
    slotmeshlaw17_heard.f xs ps r (k : Int) (i : Int) = some (h15 xs ps r i k) := by
  unfold slotmeshlaw17_heard.f
  rw [if_pos (by simp only [in4B, Bool.and_eq_true, decide_eq_true_eq]; omega), rdT50, rdT50, rdT25, rdT25]
  unfold hear4B h15 hearB
  cases decide ((xs.getD i z50).f0 = 1) <;> simp
section
variable {xs : List S50} {ps : List S25} {a : S50} {p : S25} {r : Int} {i : Nat}
theorem hear_elder (hl : xs.length = ps.length) {k : Nat} (hi : i < xs.length) (hk : k < xs.length) : hearB (xs ++ [a]) (ps ++ [p]) r i k = hearB xs ps r i k := by
  unfold hearB
  rw [elder50 hi, elder50 hk, elder25 (by omega), elder25 (by omega)]
theorem heard_more (hl : xs.length = ps.length) (hi : i < xs.length) : heardL (xs ++ [a]) (ps ++ [p]) r i = heardL xs ps r i ++ (if hearB (xs ++ [a]) (ps ++ [p]) r i xs.length = true then [xs.length] else []) := by
  unfold heardL
  rw [List.length_append, List.length_singleton, List.range_succ, List.filter_append]
  congr 1
  · refine List.filter_congr fun m hm => hear_elder hl hi (by simpa using hm)
  · simp [List.filter_cons]
theorem heard_lt {k : Nat} (h : k ∈ heardL xs ps r i) : k < xs.length := by
  simp only [heardL, List.mem_filter, List.mem_range] at h
  exact h.1
/-- Who does not hear the new one catches what it caught. -/
theorem one_same (js : List S42) (asn : Int) (hl : xs.length = ps.length) (hi : i < xs.length) (h : h15 (xs ++ [a]) (ps ++ [p]) r i xs.length = false) : oneV (xs ++ [a]) (ps ++ [p]) r js asn i = oneV xs ps r js asn i := by
  unfold oneV
  rw [elder50 hi, elder25 (by omega)]
  by_cases h1 : (xs.getD i z50).f0 = 1
  · rw [if_pos h1, if_pos h1]
    have hh : hearB (xs ++ [a]) (ps ++ [p]) r i xs.length = false := by
      unfold h15 at h
      rw [elder50 hi, decide_eq_true h1, Bool.true_and] at h
      exact h
    have hc : catchV (xs ++ [a]) (ps ++ [p]) r i = catchV xs ps r i := by
      unfold catchV
      rw [heard_more hl hi, hh]
      simp only [Bool.false_eq_true, if_false, List.append_nil]
      have hk : ∀ k, k ∈ heardL xs ps r i → k < xs.length := fun k hk => heard_lt hk
      generalize heardL xs ps r i = U at hk
      match U with
      | [] => rfl
      | [k] =>
        simp only []
        rw [elder50 hi, elder50 (hk k (by simp))]
      | _ :: _ :: _ => rfl
    rw [hc]
  · rw [if_neg h1, if_neg h1]
/-- Who hears the new one: catches it, where it heard nobody before, or nobody, or is told that there are several. -/
theorem one_more (js : List S42) (asn : Int) (hl : xs.length = ps.length) (hi : i < xs.length) (h : h15 (xs ++ [a]) (ps ++ [p]) r i xs.length = true) :
    (oneV (xs ++ [a]) (ps ++ [p]) r js asn i = (xs.length : Int) ∧ oneV xs ps r js asn i = -1) ∨ (oneV (xs ++ [a]) (ps ++ [p]) r js asn i = -1 ∧ oneV xs ps r js asn i = -1) ∨ oneV (xs ++ [a]) (ps ++ [p]) r js asn i = -2 := by
  simp only [h15, Bool.and_eq_true, decide_eq_true_eq, elder50 hi] at h
  obtain ⟨h1, hh⟩ := h
  unfold oneV
  rw [elder50 hi, elder25 (by omega), if_pos h1, if_pos h1]
  cases js.any fun j => jamB j (ps.getD i z25) (xs.getD i z50).f1 asn
  · simp only [Bool.false_eq_true, if_false]
    unfold catchV
    rw [heard_more hl hi, hh]
    simp only [if_true]
    generalize heardL xs ps r i = U
    match U with
    | [] =>
      simp only [List.nil_append]
      split
      · exact .inl ⟨rfl, trivial⟩
      · exact .inr (.inl ⟨rfl, trivial⟩)
    | [k] => exact .inr (.inr rfl)
    | _ :: _ :: _ => exact .inr (.inr rfl)
  · exact .inr (.inr rfl)
end
theorem more_l0 (xs : List S50) (ps : List S25) (r : Int) (js : List S42) (asn : Int) (a : S50) (p : S25) (hl : xs.length = ps.length) (hm : xs.length ≤ 1000) (d : Nat) : ∀ i : Nat, i + d = xs.length →
    Ev (fun k => slotmeshlaw17_MediumMore.l0 k r true (xs ++ [a]) (ps ++ [p]) (catchL xs ps r js asn) (catchL (xs ++ [a]) (ps ++ [p]) r js asn) (xs.length : Int) (xs.length : Int) (i : Int)) true := by
  induction d with
  | zero =>
    intro i hd
    refine Ev.step (f := fun _ => some true) (fun k => ?_) (Ev.now _)
    simp only [slotmeshlaw17_MediumMore.l0]
    rw [if_neg (by omega)]
  | succ d ih =>
    intro i hd
    have hi : i < xs.length := by omega
    have hl' : (xs ++ [a]).length = (ps ++ [p]).length := by simp [hl]
    have hi' : i < (xs ++ [a]).length := by simp; omega
    have hn' : xs.length < (xs ++ [a]).length := by simp
    have hw := w64n hi (show xs.length ≤ 9223372036854775807 by omega)
    refine Ev.step (fun k => ?_) (ih (i + 1) (by omega))
    simp only [slotmeshlaw17_MediumMore.l0, lheard15 hl' hi' hn', Option.bind_some, rd_catch15 hi, rd_catch15 hi', catchL_len15, hw]
    simp only [if_pos (show (i : Int) < (xs.length : Int) by omega), if_pos (show (0 : Int) ≤ (i : Int) by omega), if_pos (show (i : Int) < ((xs ++ [a]).length : Int) by omega)]
    cases hh : h15 (xs ++ [a]) (ps ++ [p]) r i xs.length
    · rw [one_same js asn hl hi hh]
      simp
    · simp only [if_true]
      rcases one_more js asn hl hi hh with ⟨e1, e2⟩ | ⟨e1, e2⟩ | e1
      · rw [e1, e2, if_pos rfl, if_pos rfl]
      · rw [e1, e2, if_neg (show ¬ (-1 : Int) = (xs.length : Int) by omega), if_pos rfl, if_pos rfl]
      · rw [e1, if_neg (show ¬ (-2 : Int) = (xs.length : Int) by omega), if_neg (by decide), if_pos rfl]
        split <;> rfl
theorem pure_MediumMore (l0 : List S50) (l1 : List S25) (a2 : Int) (l3 : List S42) (a4 : Int) (a5 : S50) (a6 : S25) (_ : l0.length * 40 ≤ 140737488351232) (_ : l1.length * 16 ≤ 140737488351232) (_ : (Lit.int .i64 a2).wf = true) (_ : l3.length * 40 ≤ 140737488351232) (_ : (Lit.int .i64 a4).wf = true) :
    ∃ k, slotmeshlaw17_MediumMore.f k l0 l1 a2 l3 a4 a5.f0 a5.f1 a5.f2 a5.f3.f0 a5.f3.f1 a6.f0 a6.f1 = some true := by
  have out : ∀ k (u : List S50) (v : List S25), slotmeshlaw17_MediumMore.j0 (k + 1) l0 l1 a2 l3 a4 true u v true = some true := fun k u v => by simp only [slotmeshlaw17_MediumMore.j0, if_true]
  obtain ⟨b, hb⟩ : ∃ b : S50, b = (⟨2, a5.f1, a5.f2, (⟨a5.f3.f0, a5.f3.f1⟩ : S48)⟩ : S50) := ⟨_, rfl⟩
  obtain ⟨q, hq⟩ : ∃ q : S25, q = (⟨a6.f0, a6.f1⟩ : S25) := ⟨_, rfl⟩
  refine Ev.rounds ?_
  unfold slotmeshlaw17_MediumMore.f slotmeshlaw17_head.f
  simp only [Option.bind_some, List.nil_append, List.length_nil, List.length_singleton, Nat.zero_add]
  rw [← hb, ← hq]
  have g1 : l0.length < 3518437208883 := by omega
  have g2 : l0.length + 1 < 3518437208883 := by omega
  have g3 : l1.length < 8796093022208 := by omega
  have g4 : l1.length + 1 < 8796093022208 := by omega
  simp only [if_pos g1, if_pos g2, if_pos g3, if_pos g4]
  refine Ev.bind (validE l0 l1 a2 l3 a4) ?_
  cases hv : fewB l0.length l1.length l3.length && radiosB l0 l1 a2 a4
  · simp only [Bool.false_eq_true, if_false]
    exact Ev.step (f := fun _ => some true) (fun k => out k _ _) (Ev.now true)
  simp only [if_true]
  refine Ev.bind (validE (l0 ++ [b]) (l1 ++ [q]) a2 l3 a4) ?_
  cases hv2 : fewB (l0 ++ [b]).length (l1 ++ [q]).length l3.length && radiosB (l0 ++ [b]) (l1 ++ [q]) a2 a4
  · simp only [Bool.not_false]
    exact Ev.step (f := fun _ => some true) (fun k => out k _ _) (Ev.now true)
  simp only [Bool.not_true]
  rw [Bool.and_eq_true] at hv hv2
  obtain ⟨_, hr⟩ := hv
  obtain ⟨_, hr2⟩ := hv2
  have hr' := hr
  simp only [radiosB, Bool.and_eq_true, decide_eq_true_eq] at hr'
  obtain ⟨⟨⟨⟨hl, hm⟩, _⟩, _⟩, _⟩ := hr'
  have f1 : ∀ k, medium_Catch.f k l0 l1 a2 l3 a4 = some (catchL l0 l1 a2 l3 a4, 0) := fun k => by unfold medium_Catch.f; rw [if_pos hr]
  have f2 : ∀ k, medium_Catch.f k (l0 ++ [b]) (l1 ++ [q]) a2 l3 a4 = some (catchL (l0 ++ [b]) (l1 ++ [q]) a2 l3 a4, 0) := fun k => by unfold medium_Catch.f; rw [if_pos hr2]
  have hn : l0.length < (l0 ++ [b]).length := by simp
  have hw := w64n hn (by simp; omega)
  have hv : oneV (l0 ++ [b]) (l1 ++ [q]) a2 l3 a4 l0.length = -1 := by
    unfold oneV
    rw [newest50, if_neg (by rw [hb]; show ¬ (2 : Int) = 1; decide)]
  have hw1 : wrap64 ((l0.length : Int) + 1) = ((l0 ++ [b]).length : Int) := by
    have : (l0 ++ [b]).length = l0.length + 1 := by simp
    rw [this]; exact w64n (n := l0.length + 1) (by omega) (by omega)
  refine Ev.step (f := fun k => slotmeshlaw17_MediumMore.j1 k a2 true (l0 ++ [b]) (l1 ++ [q]) (catchL l0 l1 a2 l3 a4) (catchL (l0 ++ [b]) (l1 ++ [q]) a2 l3 a4) (l0.length : Int) false) (fun k => ?_) ?_
  · simp only [slotmeshlaw17_MediumMore.j0, f1, f2, Option.bind_some, catchL_len15, Bool.false_eq_true, if_false, if_true, hw1, rd_catch15 hn, hv]
    rw [if_pos (by omega), if_pos (by omega)]
    rfl
  · refine Ev.step (fun k => ?_) (more_l0 l0 l1 a2 l3 a4 b q hl (by omega) l0.length 0 (by omega))
    simp only [slotmeshlaw17_MediumMore.j1, Bool.false_eq_true, if_false]
    rfl
end Go.Proofs.Ytcgbfkplhlngjaa.PA
