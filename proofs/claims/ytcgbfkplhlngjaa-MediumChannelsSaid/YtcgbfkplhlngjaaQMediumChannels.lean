/- The plain law behind MediumChannels. -/
import Derived.Test.YtcgbfkplhlngjaaF16
import Derived.Test.YtcgbfkplhlngjaaE17
namespace Go.Proofs.Ytcgbfkplhlngjaa.PA
open Go.RowKit Go.Proofs.YtcgbfkplhlngjaaW.PrintWords Go.Proofs.YtcgbfkplhlngjaaW.PrintLast Go.Proofs.YtcgbfkplhlngjaaW.PrintMore
set_option linter.unusedVariables false
set_option linter.unusedSimpArgs false

theorem getD_set50 {l : List S50} {j i : Nat} {v : S50} (hj : j < l.length) : (l.set j v).getD i z50 = if j = i then v else l.getD i z50 := by
  simp only [List.getD_eq_getElem?_getD, List.getElem?_set]
  split
  · rename_i h; subst h; simp [hj]
  · rfl
/-- A list of as many radios, of which some that do not matter for the radio c sleep. -/
structure Fewer (xs ys : List S50) (c : Nat) : Prop where
  len : ys.length = xs.length
  at_ : ∀ i, ys.getD i z50 = xs.getD i z50 ∨ (i ≠ c ∧ ys.getD i z50 = z50 ∧ ((xs.getD i z50).f0 = 1 ∨ (xs.getD i z50).f1 ≠ (xs.getD c z50).f1))
theorem Fewer.start (xs : List S50) (c : Nat) : Fewer xs xs c := ⟨rfl, fun _ => .inl rfl⟩
section
variable {xs ys : List S50} {c : Nat} {ps : List S25} {r asn : Int} {js : List S42}
theorem Fewer.self (h : Fewer xs ys c) : ys.getD c z50 = xs.getD c z50 := by
  rcases h.at_ c with h | ⟨h, _⟩
  · exact h
  · exact absurd rfl h
theorem Fewer.set (h : Fewer xs ys c) {i : Nat} (hi : i < xs.length) (hc : i ≠ c) (hv : (ys.getD i z50).f0 = 1 ∨ (ys.getD i z50).f1 ≠ (ys.getD c z50).f1) : Fewer xs (ys.set i z50) c := by
  refine ⟨by rw [List.length_set, h.len], fun j => ?_⟩
  rw [getD_set50 (by rw [h.len]; exact hi)]
  by_cases e : i = j
  · subst e
    rw [if_pos rfl]
    right
    refine ⟨hc, rfl, ?_⟩
    rw [h.self] at hv
    rcases h.at_ i with e | ⟨_, _, e⟩
    · rwa [e] at hv
    · exact e
  · rw [if_neg e]
    exact h.at_ j
theorem Fewer.hear (h : Fewer xs ys c) (m : Nat) : hearB ys ps r c m = hearB xs ps r c m := by
  unfold hearB
  rw [h.self]
  rcases h.at_ m with e | ⟨_, e, hv⟩
  · rw [e]
  · rw [e]
    rcases hv with hv | hv
    · rw [decide_eq_false (show ¬ z50.f0 = 2 by decide), decide_eq_false (show ¬ (xs.getD m z50).f0 = 2 by omega)]
      rfl
    · rw [decide_eq_false (show ¬ z50.f0 = 2 by decide), decide_eq_false hv, Bool.and_false]
      rfl
theorem Fewer.heard (h : Fewer xs ys c) : heardL ys ps r c = heardL xs ps r c := by
  unfold heardL
  rw [h.len]
  exact List.filter_congr fun m _ => h.hear m
theorem Fewer.one (h : Fewer xs ys c) : oneV ys ps r js asn c = oneV xs ps r js asn c := by
  have hk : ∀ k, k ∈ heardL xs ps r c → ys.getD k z50 = xs.getD k z50 := fun k hk => by
    have hh : hearB ys ps r c k = true := by
      rw [h.hear]
      simp only [heardL, List.mem_filter] at hk
      exact hk.2
    rcases h.at_ k with e | ⟨_, e, _⟩
    · exact e
    · unfold hearB at hh
      rw [e, decide_eq_false (show ¬ z50.f0 = 2 by decide)] at hh
      simp at hh
  unfold oneV catchV
  rw [h.self, h.heard]
  generalize heardL xs ps r c = U at hk
  match U with
  | [] => rfl
  | [k] =>
    simp only []
    rw [hk k (by simp)]
  | _ :: _ :: _ => rfl
theorem Fewer.radios (h : Fewer xs ys c) (hr : radiosB xs ps r asn = true) : radiosB ys ps r asn = true := by
  simp only [radiosB, Bool.and_eq_true, decide_eq_true_eq, List.all_eq_true, List.mem_range] at hr ⊢
  obtain ⟨⟨⟨⟨h1, h2⟩, h3⟩, h4⟩, h5⟩ := hr
  rw [h.len]
  refine ⟨⟨⟨⟨h1, h2⟩, h3⟩, h4⟩, fun i hi => ?_⟩
  have := h5 i hi
  rcases h.at_ i with e | ⟨_, e, _⟩
  · rw [e]; exact this
  · rw [e]
    unfold radioB at this ⊢
    rw [Bool.and_eq_true] at this
    rw [this.2]
    rfl
end
theorem rd_catch16 {xs : List S50} {ps : List S25} {r : Int} {js : List S42} {asn : Int} {i : Nat} (h : i < xs.length) : rd (catchL xs ps r js asn) (i : Int) = oneV xs ps r js asn i := by simp [rd, catchL, List.getD_eq_getElem?_getD, h]
theorem catchL_len16 (xs : List S50) (ps : List S25) (r : Int) (js : List S42) (asn : Int) : (catchL xs ps r js asn).length = xs.length := by simp [catchL]
theorem chan_l0 (xs : List S50) (ps : List S25) (r : Int) (js : List S42) (asn : Int) (c : Nat) (hr : radiosB xs ps r asn = true) (hm : xs.length ≤ 1000) (hc : c < xs.length) (d : Nat) : ∀ (i : Nat) (ys : List S50), i + d = xs.length → Fewer xs ys c →
    Ev (fun k => slotmeshlaw17_MediumChannels.l0 k xs ps r js asn true (c : Int) ys (xs.length : Int) (i : Int)) true := by
  induction d with
  | zero =>
    intro i ys hd hF
    have f1 : ∀ k, medium_Catch.f k xs ps r js asn = some (catchL xs ps r js asn, 0) := fun k => by unfold medium_Catch.f; rw [if_pos hr]
    have f2 : ∀ k, medium_Catch.f k ys ps r js asn = some (catchL ys ps r js asn, 0) := fun k => by unfold medium_Catch.f; rw [if_pos (hF.radios hr)]
    refine Ev.step (f := fun _ => some true) (fun k => ?_) (Ev.now _)
    simp only [slotmeshlaw17_MediumChannels.l0, f1, f2, Option.bind_some, if_true, catchL_len16, hF.len]
    rw [if_neg (by omega), if_pos (by omega), if_pos (by omega), rd_catch16 hc, rd_catch16 (by rw [hF.len]; exact hc), hF.one]
    simp [hc]
  | succ d ih =>
    intro i ys hd hF
    have hi : i < xs.length := by omega
    have hl : (ys.length : Int) = (xs.length : Int) := by rw [hF.len]
    have hw := w64n hi (show xs.length ≤ 9223372036854775807 by omega)
    have keep := ih (i + 1) ys (by omega) hF
    by_cases hic : i = c
    · subst hic
      refine Ev.step (fun k => ?_) keep
      simp only [slotmeshlaw17_MediumChannels.l0, if_true, hw]
      rw [if_pos (by omega)]
    · have hicz : ¬ (i : Int) = (c : Int) := by omega
      have cut : (ys.getD i z50).f0 = 1 ∨ (ys.getD i z50).f1 ≠ (ys.getD c z50).f1 → Ev (fun k => slotmeshlaw17_MediumChannels.l0 k xs ps r js asn true (c : Int) (ys.set i z50) (xs.length : Int) ((i + 1 : Nat) : Int)) true := fun hv => ih (i + 1) _ (by omega) (hF.set hi hic hv)
      by_cases h1 : (ys.getD i z50).f0 = 1
      · refine Ev.step (fun k => ?_) (cut (.inl h1))
        simp only [slotmeshlaw17_MediumChannels.l0, hw, hl, rdT50, Int.toNat_natCast]
        rw [if_pos (by omega), if_neg hicz, if_pos (by omega), if_pos (by omega), if_pos h1]
        rfl
      · by_cases h2 : (ys.getD i z50).f1 = (ys.getD c z50).f1
        · refine Ev.step (fun k => ?_) keep
          simp only [slotmeshlaw17_MediumChannels.l0, hw, hl, rdT50, Int.toNat_natCast]
          rw [if_pos (by omega), if_neg hicz, if_pos (by omega), if_pos (by omega), if_neg h1, if_pos (by omega), if_pos (by omega), if_pos h2]
        · refine Ev.step (fun k => ?_) (cut (.inr h2))
          simp only [slotmeshlaw17_MediumChannels.l0, hw, hl, rdT50, Int.toNat_natCast]
          rw [if_pos (by omega), if_neg hicz, if_pos (by omega), if_pos (by omega), if_neg h1, if_pos (by omega), if_pos (by omega), if_neg h2]
          rfl
theorem pure_MediumChannels (l0 : List S50) (l1 : List S25) (a2 : Int) (l3 : List S42) (a4 a5 : Int) (_ : l0.length * 40 ≤ 140737488351232) (_ : l1.length * 16 ≤ 140737488351232) (_ : (Lit.int .i64 a2).wf = true) (_ : l3.length * 40 ≤ 140737488351232) (_ : (Lit.int .i64 a4).wf = true) (h5 : (Lit.int .u8 a5).wf = true) :
    ∃ k, slotmeshlaw17_MediumChannels.f k l0 l1 a2 l3 a4 a5 = some true := by
  have out : ∀ k, slotmeshlaw17_MediumChannels.j0 (k + 1) l0 l1 a2 l3 a4 a5 true true = some true := fun k => by simp only [slotmeshlaw17_MediumChannels.j0, if_true]
  have hu : 0 ≤ a5 ∧ a5 ≤ 255 := by
    have := h5
    have e1 : IntKind.u8.min = 0 := by rfl
    have e2 : IntKind.u8.max = 255 := by rfl
    simp only [Lit.wf, Bool.and_eq_true, decide_eq_true_eq, e1, e2] at this
    exact this
  refine Ev.rounds ?_
  unfold slotmeshlaw17_MediumChannels.f slotmeshlaw17_head.f
  simp only [Option.bind_some]
  refine Ev.bind (validE l0 l1 a2 l3 a4) ?_
  cases hv : fewB l0.length l1.length l3.length && radiosB l0 l1 a2 a4
  · simp only [Bool.false_eq_true, if_false]
    exact Ev.step (f := fun _ => some true) (fun k => out k) (Ev.now true)
  simp only [if_true]
  rw [Bool.and_eq_true] at hv
  obtain ⟨_, hr⟩ := hv
  have hr' := hr
  simp only [radiosB, Bool.and_eq_true, decide_eq_true_eq] at hr'
  obtain ⟨⟨⟨⟨hl, hm⟩, _⟩, _⟩, _⟩ := hr'
  by_cases hn : l0.length = 0
  · have : ((l0.length : Int) == 0) = true := by simp [hn]
    rw [this]
    exact Ev.step (f := fun _ => some true) (fun k => out k) (Ev.now true)
  have hnb : ((l0.length : Int) == 0) = false := by simp; exact fun h => hn (by simp [h])
  rw [hnb]
  obtain ⟨s, hs, hsn⟩ : ∃ s : Nat, Int.tmod (wrap64 a5) (l0.length : Int) = (s : Int) ∧ s < l0.length := by
    refine ⟨a5.toNat % l0.length, ?_, Nat.mod_lt _ (by omega)⟩
    rw [w64 (by omega) (by omega), show a5 = ((a5.toNat : Nat) : Int) by omega, ← Int.ofNat_tmod]
    simp
  refine Ev.step (fun k => ?_) (chan_l0 l0 l1 a2 l3 a4 s hr (by omega) hsn l0.length 0 l0 (by omega) (Fewer.start l0 s))
  simp only [slotmeshlaw17_MediumChannels.j0, hs, Option.bind_some, List.nil_append, Bool.false_eq_true, if_false, List.length_nil]
  rw [if_neg (by omega), if_pos (by omega)]
  rfl
end Go.Proofs.Ytcgbfkplhlngjaa.PA
