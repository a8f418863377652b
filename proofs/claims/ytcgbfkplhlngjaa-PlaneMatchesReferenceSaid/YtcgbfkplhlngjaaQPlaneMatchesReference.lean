/- The plain law behind PlaneMatchesReference. -/
import Derived.Test.YtcgbfkplhlngjaaF3
import Derived.Test.YtcgbfkplhlngjaaE16
namespace Go.Proofs.Ytcgbfkplhlngjaa.PA
open Go.RowKit Go.Proofs.YtcgbfkplhlngjaaW.PrintWords Go.Proofs.YtcgbfkplhlngjaaW.PrintLast Go.Proofs.YtcgbfkplhlngjaaW.PrintMore
set_option linter.unusedVariables false
set_option linter.unusedSimpArgs false

theorem rjammed_l0 (l : List S42) (p : S25) (c asn : Int) (hl : l.length ≤ 1000) (d : Nat) : ∀ i : Nat, i + d = l.length → Ev (fun k => slotmeshref16_Jammed.l0 k l c asn (i : Int) p.f0 p.f1) ((l.drop i).any fun j => jamB j p c asn) := by
  induction d with
  | zero =>
    intro i hd
    refine Ev.step (f := fun _ => some _) (fun k => ?_) (Ev.now _)
    simp only [slotmeshref16_Jammed.l0]
    rw [if_neg (by omega), List.drop_of_length_le (by omega)]
    rfl
  | succ d ih =>
    intro i hd
    have hi : i < l.length := by omega
    rw [drop_at z42 hi, List.any_cons]
    have step : ∀ k, slotmeshref16_Jammed.l0 (k + 1) l c asn (i : Int) p.f0 p.f1 = if jamB (l.getD i z42) p c asn = true then some true else slotmeshref16_Jammed.l0 k l c asn ((i + 1 : Nat) : Int) p.f0 p.f1 := fun k => by
      simp only [slotmeshref16_Jammed.l0]
      rw [if_pos (by omega), if_pos (by omega), rd42, rnear_f, w64s (n := l.length) hi (by omega)]
      simp only [Option.bind_some]
      generalize l.getD i z42 = jj
      unfold jamB
      cases nearB jj.f0 p jj.f1 with
      | false => simp
      | true =>
        by_cases h1 : jj.f2 = c
        · by_cases h2 : asn < jj.f3
          · simp [h1, h2]
          · rw [if_pos rfl, if_pos h1, if_neg h2]; simp [h2]
        · rw [if_pos rfl, if_neg h1]; simp [h1]
    cases hj : jamB (l.getD i z42) p c asn with
    | true => exact Ev.step (f := fun _ => some true) (fun k => by rw [step, hj]; simp) (Ev.now true)
    | false => exact Ev.step (f := fun k => slotmeshref16_Jammed.l0 k l c asn ((i + 1 : Nat) : Int) p.f0 p.f1) (fun k => by rw [step, hj]; simp) (by simpa using ih (i + 1) (by omega))
theorem rjammedE (l : List S42) (p : S25) (c asn : Int) (hl : l.length ≤ 1000) : Ev (fun k => slotmeshref16_Jammed.f k l p.f0 p.f1 c asn) (l.any fun j => jamB j p c asn) := by
  unfold slotmeshref16_Jammed.f
  exact rjammed_l0 l p c asn hl l.length 0 (by omega)

theorem pure_PlaneMatchesReference (l : List S25) (r : Int) (js : List S42) (a b : S25) (c asn : Int) (_ : l.length * 16 ≤ 140737488351232) (_ : (Lit.int .i64 r).wf = true) (_ : js.length * 40 ≤ 140737488351232) (_ : (Lit.int .i64 c).wf = true) (_ : (Lit.int .i64 asn).wf = true) :
    ∃ k, slotmeshlaw16_PlaneMatchesReference.f k l r js a.f0 a.f1 b.f0 b.f1 c asn = some true := by
  have out : ∀ k, slotmeshlaw16_PlaneMatchesReference.j0 (k + 1) l r js c asn true true a.f0 a.f1 b.f0 b.f1 = some true := fun k => by simp [slotmeshlaw16_PlaneMatchesReference.j0]
  refine Ev.rounds ?_
  unfold slotmeshlaw16_PlaneMatchesReference.f slotmeshlaw16_head.f
  simp only [Option.bind_some]
  by_cases h1 : (l.length : Int) > 100
  · simp only [if_pos h1]
    exact Ev.step (f := fun _ => some true) out (Ev.now true)
  simp only [if_neg h1]
  by_cases h2 : (js.length : Int) > 100
  · simp only [decide_eq_true h2]
    exact Ev.step (f := fun _ => some true) out (Ev.now true)
  simp only [decide_eq_false h2]
  refine Ev.step (fun k => by simp only [slotmeshlaw16_PlaneMatchesReference.j0]; rfl) ?_
  simp only [Bool.false_eq_true, if_false]
  have hl : l.length ≤ 1000 := by omega
  obtain ⟨t, e, ht, hh⟩ : ∃ t e, (∀ k, plane_Hears.f k l r = some (t, e)) ∧ Ev (fun k => slotmeshref16_Hears.f k l r) (t, e) ∧ Ev (fun k => slotmeshref16_Same.f k t t) true := by
    have h := rhearsE l r hl
    by_cases hp : placesB l r = true
    · rw [if_pos hp] at h
      exact ⟨_, _, fun k => by unfold plane_Hears.f; rw [if_pos hp], h, sameE _ (by rw [hearsT_length]; omega) fun i hi => by rw [hearsT_length] at hi; rw [hearsT_row_length hi]; omega⟩
    · rw [if_neg hp] at h
      exact ⟨_, _, fun k => by unfold plane_Hears.f; rw [if_neg hp], h, sameE _ (by simp) fun i hi => by simp at hi⟩
  simp only [ht, Option.bind_some]
  refine Ev.bind hh.1 ?_
  simp only [if_true]
  refine Ev.bind hh.2 ?_
  simp only [if_true, near_f, rnear_f, Option.bind_some, beq_self_eq_true]
  unfold plane_Jammed.f
  simp only [Option.bind_some]
  refine Ev.bind (rjammedE js a c asn (by omega)) ?_
  simp only [beq_self_eq_true]
  exact Ev.now true
end Go.Proofs.Ytcgbfkplhlngjaa.PA
