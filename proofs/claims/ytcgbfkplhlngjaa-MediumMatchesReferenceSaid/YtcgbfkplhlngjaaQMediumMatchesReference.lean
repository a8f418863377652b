/- The plain law behind MediumMatchesReference: what the reference's Catch comes to, in closed form. -/
import Derived.Test.YtcgbfkplhlngjaaF12
import Derived.Test.YtcgbfkplhlngjaaE17
namespace Go.Proofs.Ytcgbfkplhlngjaa.PA
open Go.RowKit Go.Proofs.YtcgbfkplhlngjaaW.PrintWords Go.Proofs.YtcgbfkplhlngjaaW.PrintLast Go.Proofs.YtcgbfkplhlngjaaW.PrintMore
set_option linter.unusedVariables false
set_option linter.unusedSimpArgs false

theorem w64sm {i n : Nat} (h : i < n) (hn : n ≤ 9223372036854775807) : wrap64 ((i : Int) + 1) = ((i + 1 : Nat) : Int) := by rw [w64 (by omega) (by omega)]; omega
theorem rd25m (l : List S25) (i : Nat) : rd_T25 l (i : Int) = l.getD i z25 := by simp [rd_T25]
theorem rd42m (l : List S42) (i : Nat) : rd_T42 l (i : Int) = l.getD i z42 := by simp [rd_T42]
theorem getD_atm {α : Type} {l : List α} {i : Nat} {d : α} (h : i < l.length) : l.getD i d = l[i] := by simp [List.getD_eq_getElem?_getD, h]
theorem drop_atm {α : Type} {l : List α} {i : Nat} (d : α) (h : i < l.length) : l.drop i = l.getD i d :: l.drop (i + 1) := by rw [getD_atm h, List.drop_eq_getElem_cons h]

theorem rjam17_l0 (l : List S42) (p : S25) (c asn : Int) (hl : l.length ≤ 1000) (d : Nat) : ∀ i : Nat, i + d = l.length → Ev (fun k => slotmeshref16_Jammed.l0 k l c asn (i : Int) p.f0 p.f1) ((l.drop i).any fun j => jamB j p c asn) := by
  induction d with
  | zero =>
    intro i hd
    refine Ev.step (f := fun _ => some _) (fun k => ?_) (Ev.now _)
    simp only [slotmeshref16_Jammed.l0]
    rw [if_neg (by omega), List.drop_of_length_le (by omega)]
    rfl
  | succ d ih =>
    intro i hd
    have hi : i < l.length := by omega
    rw [drop_atm z42 hi, List.any_cons]
    have step : ∀ k, slotmeshref16_Jammed.l0 (k + 1) l c asn (i : Int) p.f0 p.f1 = if jamB (l.getD i z42) p c asn = true then some true else slotmeshref16_Jammed.l0 k l c asn ((i + 1 : Nat) : Int) p.f0 p.f1 := fun k => by
      simp only [slotmeshref16_Jammed.l0]
      rw [if_pos (by omega), if_pos (by omega), rd42m, rnear_f, w64sm (n := l.length) hi (by omega)]
      simp only [Option.bind_some]
      generalize l.getD i z42 = jj
      unfold jamB
      cases nearB jj.f0 p jj.f1 with
      | false => simp
      | true =>
        by_cases h1 : jj.f2 = c
        · by_cases h2 : asn < jj.f3
          · simp [h1, h2]
          · rw [if_pos rfl, if_pos h1, if_neg h2]; simp [h2]
        · rw [if_pos rfl, if_neg h1]; simp [h1]
    cases hj : jamB (l.getD i z42) p c asn with
    | true => exact Ev.step (f := fun _ => some true) (fun k => by rw [step, hj]; simp) (Ev.now true)
    | false => exact Ev.step (f := fun k => slotmeshref16_Jammed.l0 k l c asn ((i + 1 : Nat) : Int) p.f0 p.f1) (fun k => by rw [step, hj]; simp) (by simpa using ih (i + 1) (by omega))
theorem rjam17E (l : List S42) (p : S25) (c asn : Int) (hl : l.length ≤ 1000) : Ev (fun k => slotmeshref16_Jammed.f k l p.f0 p.f1 c asn) (l.any fun j => jamB j p c asn) := by
  unfold slotmeshref16_Jammed.f
  exact rjam17_l0 l p c asn hl l.length 0 (by omega)

theorem catches_f (s : Int) (o : S48) : slotmeshref10_Catches.f s o.f0 o.f1 = some (opensB s o) := by
  unfold slotmeshref10_Catches.f opensB
  split
  · rename_i h; rw [decide_eq_true h]; rfl
  · rename_i h; rw [decide_eq_false h]; rfl
theorem inB_nat {n0 n1 a b : Nat} (h : n0 = n1) (ha : a < n0) (hb : b < n0) : inB n0 n1 (a : Int) (b : Int) = true := by
  simp only [inB, Bool.and_eq_true, decide_eq_true_eq]
  omega
section
variable {xs : List S50} {ps : List S25} {r : Int} {i : Nat}
theorem rheard_f (hl : xs.length = ps.length) (hi : i < xs.length) (h1 : (xs.getD i z50).f0 = 1) {k : Nat} (hk : k < xs.length) :
    slotmeshref17_Heard.f xs ps r (k : Int) (i : Int) = some (hearB xs ps r i k) := by
  unfold slotmeshref17_Heard.f
  rw [if_pos (inB_nat hl hk hi), rdT50, rdT50, rdT25, rdT25]
  unfold hear2B hearB
  rw [decide_eq_true h1, Bool.and_true]
theorem rone_l0 (hl : xs.length = ps.length) (hm : xs.length ≤ 1000) (hi : i < xs.length) (h1 : (xs.getD i z50).f0 = 1) (d : Nat) : ∀ k : Nat, k + d = xs.length → (upTo xs ps r i k).length ≤ 1 →
    Ev (fun m => slotmeshref17_one.l0 m xs ps r (i : Int) (lastI (upTo xs ps r i k)) (k : Int)) (catchV xs ps r i) := by
  induction d with
  | zero =>
    intro k hd hU
    obtain rfl : k = xs.length := by omega
    rw [upTo_all] at hU ⊢
    have hlt : ∀ f, f ∈ heardL xs ps r i → f < xs.length := fun f hf => by simp only [heardL, List.mem_filter, List.mem_range] at hf; exact hf.1
    unfold catchV
    generalize heardL xs ps r i = U at hU hlt
    match U, hU with
    | [], _ =>
      refine Ev.step (f := fun _ => some (-1)) (fun m => ?_) (Ev.now _)
      simp only [slotmeshref17_one.l0, lastI]
      rw [if_neg (by omega)]
      exact if_neg (show ¬ (-1 : Int) ≥ 0 by decide)
    | [f], _ =>
      have hf := hlt f (by simp)
      refine Ev.step (f := fun _ => some (if opensB (xs.getD f z50).f2 (xs.getD i z50).f3 = true then (f : Int) else -1)) (fun m => ?_) (Ev.now _)
      simp only [slotmeshref17_one.l0, lastI, rdT50, catches_f, Option.bind_some]
      rw [if_neg (by omega), if_pos (by omega), if_pos (by omega), if_pos (by omega), if_pos (by omega), if_pos (by omega)]
      split <;> rfl
  | succ d ih =>
    intro k hd hU
    have hk : k < xs.length := by omega
    have ih := ih (k + 1) (by omega)
    have hpre : upTo xs ps r i (k + 1) <+: heardL xs ps r i := upTo_pre (by omega)
    cases hh : hearB xs ps r i k
    · rw [upTo_no hh] at ih
      refine Ev.step (fun m => ?_) (ih hU)
      simp only [slotmeshref17_one.l0, rheard_f hl hi h1 hk, hh, Option.bind_some, w64n hk (show xs.length ≤ 9223372036854775807 by omega), Bool.false_eq_true, if_false]
      rw [if_pos (by omega)]
    · rw [upTo_yes hh] at ih hpre
      generalize upTo xs ps r i k = U at hU ih hpre
      match U, hU with
      | [], _ =>
        refine Ev.step (fun m => ?_) (ih (by simp))
        simp only [slotmeshref17_one.l0, rheard_f hl hi h1 hk, hh, Option.bind_some, w64n hk (show xs.length ≤ 9223372036854775807 by omega), if_true, lastI, List.nil_append]
        rw [if_pos (by omega), if_neg (by omega)]
      | [f], _ =>
        have hv : catchV xs ps r i = -2 := by
          obtain ⟨t, ht⟩ := hpre
          unfold catchV
          rw [← ht]
          rfl
        rw [hv]
        refine Ev.step (f := fun _ => some (-2)) (fun m => ?_) (Ev.now _)
        simp only [slotmeshref17_one.l0, rheard_f hl hi h1 hk, hh, Option.bind_some, if_true, lastI]
        rw [if_pos (by omega)]
        exact if_pos (show (f : Int) ≥ 0 by omega)
theorem roneE (js : List S42) (asn : Int) (hl : xs.length = ps.length) (hm : xs.length ≤ 1000) (hj : js.length ≤ 1000) (hi : i < xs.length) :
    Ev (fun m => slotmeshref17_one.f m xs ps r js asn (i : Int)) (oneV xs ps r js asn i) := by
  unfold slotmeshref17_one.f oneV
  simp only [rdT50, rdT25]
  simp only [if_pos (show (0 : Int) ≤ (i : Int) by omega), if_pos (show (i : Int) < (xs.length : Int) by omega), if_pos (show (i : Int) < (ps.length : Int) by omega)]
  by_cases h1 : (xs.getD i z50).f0 = 1
  · simp only [if_pos h1]
    refine Ev.bind (rjam17E js (ps.getD i z25) (xs.getD i z50).f1 asn (by omega)) ?_
    cases js.any fun j => jamB j (ps.getD i z25) (xs.getD i z50).f1 asn
    · simp only [Bool.false_eq_true, if_false]
      exact rone_l0 hl hm hi h1 xs.length 0 (by omega) (by simp [upTo])
    · simp only [if_true]
      exact Ev.now _
  · simp only [if_neg h1]
    exact Ev.now _
theorem rcatch_l0 (js : List S42) (asn : Int) (hl : xs.length = ps.length) (hm : xs.length ≤ 1000) (hj : js.length ≤ 1000) (d : Nat) : ∀ i : Nat, i + d = xs.length →
    Ev (fun m => slotmeshref17_Catch.l0 m xs ps r js asn ((List.range i).map (oneV xs ps r js asn)) (i : Int)) (catchL xs ps r js asn, 0) := by
  induction d with
  | zero =>
    intro i hd
    obtain rfl : i = xs.length := by omega
    refine Ev.step (f := fun _ => some (catchL xs ps r js asn, 0)) (fun m => ?_) (Ev.now _)
    simp only [slotmeshref17_Catch.l0]
    rw [if_neg (by omega)]
    rfl
  | succ d ih =>
    intro i hd
    have hi : i < xs.length := by omega
    have ih := ih (i + 1) (by omega)
    refine Ev.step (f := fun m => (slotmeshref17_one.f m xs ps r js asn (i : Int)).bind fun t => slotmeshref17_Catch.l0 m xs ps r js asn ((List.range i).map (oneV xs ps r js asn) ++ [t]) ((i + 1 : Nat) : Int)) (fun m => ?_) ?_
    · simp only [slotmeshref17_Catch.l0, w64n hi (show xs.length ≤ 9223372036854775807 by omega)]
      rw [if_pos (by omega)]
      congr 1
      funext t
      rw [if_pos (by simp; omega)]
    · refine Ev.bind (roneE js asn hl hm hj hi) ?_
      rw [List.range_succ, List.map_append] at ih
      exact ih
end
theorem rcatchE (xs : List S50) (ps : List S25) (r : Int) (js : List S42) (asn : Int) (hj : js.length ≤ 1000) : Ev (fun m => slotmeshref17_Catch.f m xs ps r js asn) (if radiosB xs ps r asn = true then (catchL xs ps r js asn, 0) else ([], 1)) := by
  unfold slotmeshref17_Catch.f
  refine Ev.bind (rvalid17E xs ps r asn) ?_
  cases h : radiosB xs ps r asn
  · simp only [Bool.false_eq_true, if_false]
    exact Ev.now _
  · simp only [if_true]
    simp only [radiosB, Bool.and_eq_true, decide_eq_true_eq] at h
    exact rcatch_l0 js asn h.1.1.1.1 (by omega) hj xs.length 0 (by omega)
theorem same17_l0 (t : List Int) (ht : t.length ≤ 9223372036854775807) (d : Nat) : ∀ i : Nat, i + d = t.length → Ev (fun m => slotmeshref17_Same.l0 m t t (i : Int)) true := by
  induction d with
  | zero =>
    intro i hd
    refine Ev.step (f := fun _ => some true) (fun m => ?_) (Ev.now _)
    simp only [slotmeshref17_Same.l0]
    rw [if_neg (by omega)]
  | succ d ih =>
    intro i hd
    refine Ev.step (fun m => ?_) (ih (i + 1) (by omega))
    simp only [slotmeshref17_Same.l0, if_true]
    rw [if_pos (by omega), if_pos (by omega), if_pos (by omega), w64n (n := t.length) (by omega) ht]
theorem same17E (t : List Int) (ht : t.length ≤ 9223372036854775807) : Ev (fun m => slotmeshref17_Same.f m t t) true := by
  unfold slotmeshref17_Same.f
  simp only [if_true]
  exact same17_l0 t ht t.length 0 (by omega)
theorem pure_MediumMatchesReference (l0 : List S50) (l1 : List S25) (a2 : Int) (l3 : List S42) (a4 : Int) (_ : l0.length * 40 ≤ 140737488351232) (_ : l1.length * 16 ≤ 140737488351232) (_ : (Lit.int .i64 a2).wf = true) (_ : l3.length * 40 ≤ 140737488351232) (_ : (Lit.int .i64 a4).wf = true) :
    ∃ k, slotmeshlaw17_MediumMatchesReference.f k l0 l1 a2 l3 a4 = some true := by
  refine Ev.rounds ?_
  unfold slotmeshlaw17_MediumMatchesReference.f slotmeshlaw17_head.f
  simp only [Option.bind_some, few_f]
  cases hf : fewB l0.length l1.length l3.length
  · simp only [Bool.false_eq_true, if_false]
    exact Ev.now _
  simp only [if_true]
  simp only [fewB, Bool.and_eq_true, decide_eq_true_eq] at hf
  have f1 : ∀ k, medium_Catch.f k l0 l1 a2 l3 a4 = some (if radiosB l0 l1 a2 a4 = true then (catchL l0 l1 a2 l3 a4, 0) else ([], 1)) := fun k => by unfold medium_Catch.f; split <;> rfl
  simp only [f1, Option.bind_some]
  refine Ev.bind (rcatchE l0 l1 a2 l3 a4 (by omega)) ?_
  simp only [if_true]
  refine Ev.bind (same17E _ ?_) (Ev.now _)
  split
  · simp [catchL]; omega
  · simp
end Go.Proofs.Ytcgbfkplhlngjaa.PA
