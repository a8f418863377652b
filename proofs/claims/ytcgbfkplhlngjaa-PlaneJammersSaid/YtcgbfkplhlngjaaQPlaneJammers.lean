/- The plain law behind PlaneJammers. -/
import Derived.Test.YtcgbfkplhlngjaaG11
import Derived.Test.YtcgbfkplhlngjaaD
namespace Go.Proofs.Ytcgbfkplhlngjaa.PA
open Go.RowKit Go.Proofs.YtcgbfkplhlngjaaW.PrintWords Go.Proofs.YtcgbfkplhlngjaaW.PrintLast Go.Proofs.YtcgbfkplhlngjaaW.PrintMore
set_option linter.unusedVariables false
set_option linter.unusedSimpArgs false

theorem one_at {l : List S42} {i : Nat} (h : i < l.length) : (l.take (i + 1)).drop i = [l.getD i z42] := by
  have e : l.getD i z42 = l[i] := by simp [List.getD_eq_getElem?_getD, h]
  rw [e, List.take_succ_eq_append_getElem h, List.drop_left' (by simp; omega)]
theorem take_any {l : List S42} {i : Nat} (h : i < l.length) (f : S42 → Bool) : (l.take (i + 1)).any f = ((l.take i).any f || f (l.getD i z42)) := by
  have e : l.getD i z42 = l[i] := by simp [List.getD_eq_getElem?_getD, h]
  rw [e, List.take_succ_eq_append_getElem h, List.any_append]
  simp
theorem jam_l0 (l : List S42) (p : S25) (c a : Int) (hl : l.length ≤ 1000) (d : Nat) : ∀ i : Nat, i + d = l.length →
    Ev (fun k => slotmeshlaw16_PlaneJammers.l0 k l c a true ((l.take i).any fun j => jamB j p c a) (i : Int) p.f0 p.f1) true := by
  induction d with
  | zero =>
    intro i hd
    refine Ev.step (f := fun _ => some true) (fun k => ?_) (Ev.now _)
    simp only [slotmeshlaw16_PlaneJammers.l0]
    rw [if_neg (by omega), if_pos trivial, List.take_of_length_le (by omega)]
    unfold plane_Jammed.f
    simp
  | succ d ih =>
    intro i hd
    have hi : i < l.length := by omega
    refine Ev.step (f := fun k => slotmeshlaw16_PlaneJammers.l0 k l c a true ((l.take (i + 1)).any fun j => jamB j p c a) ((i + 1 : Nat) : Int) p.f0 p.f1) (fun k => ?_) (ih (i + 1) (by omega))
    have w : wrap64 ((i : Int) + 1) = ((i + 1 : Nat) : Int) := by rw [w64 (by omega) (by omega)]; omega
    have r42 : rd_T42 l (i : Int) = l.getD i z42 := by simp [rd_T42]
    simp only [slotmeshlaw16_PlaneJammers.l0, w, r42]
    rw [if_pos (by omega), if_pos (by omega), if_pos (by omega), if_pos (by omega)]
    unfold plane_Jammed.f
    simp only [Int.toNat_natCast, one_at hi, Option.bind_some, near_f, take_any hi, List.any_cons, List.any_nil, Bool.or_false, if_true]
    generalize l.getD i z42 = jj
    cases hs : (l.take i).any fun j => jamB j p c a
    all_goals
      cases hj : jamB jj p c a with
      | false => simp
      | true =>
        simp only [jamB, Bool.and_eq_true, decide_eq_true_eq] at hj
        simp [hj.1.1, hj.1.2, hj.2]
theorem pure_PlaneJammers (l : List S42) (p : S25) (c a : Int) (_ : l.length * 40 ≤ 140737488351232) (_ : (Lit.int .i64 c).wf = true) (_ : (Lit.int .i64 a).wf = true) : ∃ k, slotmeshlaw16_PlaneJammers.f k l p.f0 p.f1 c a = some true := by
  refine Ev.rounds ?_
  unfold slotmeshlaw16_PlaneJammers.f slotmeshlaw16_head.f
  simp only [Option.bind_some]
  by_cases h1 : (l.length : Int) > 30
  · simp only [if_pos h1]; exact Ev.now true
  simp only [if_neg h1]
  exact jam_l0 l p c a (by omega) l.length 0 (by omega)
end Go.Proofs.Ytcgbfkplhlngjaa.PA
