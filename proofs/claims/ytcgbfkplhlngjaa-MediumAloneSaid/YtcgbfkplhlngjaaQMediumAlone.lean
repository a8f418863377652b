/- The plain law behind MediumAlone. -/
import Derived.Test.YtcgbfkplhlngjaaF14
import Derived.Test.YtcgbfkplhlngjaaE17
namespace Go.Proofs.Ytcgbfkplhlngjaa.PA
open Go.RowKit Go.Proofs.YtcgbfkplhlngjaaW.PrintWords Go.Proofs.YtcgbfkplhlngjaaW.PrintLast Go.Proofs.YtcgbfkplhlngjaaW.PrintMore
set_option linter.unusedVariables false
set_option linter.unusedSimpArgs false

theorem rd_catch14 {xs : List S50} {ps : List S25} {r : Int} {js : List S42} {asn : Int} {i : Nat} (h : i < xs.length) : rd (catchL xs ps r js asn) (i : Int) = oneV xs ps r js asn i := by simp [rd, catchL, List.getD_eq_getElem?_getD, h]
theorem catchL_len14 (xs : List S50) (ps : List S25) (r : Int) (js : List S42) (asn : Int) : (catchL xs ps r js asn).length = xs.length := by simp [catchL]
theorem getD_set14 {l : List S50} {j i : Nat} {v : S50} (hj : j < l.length) : (l.set j v).getD i z50 = if j = i then v else l.getD i z50 := by
  simp only [List.getD_eq_getElem?_getD, List.getElem?_set]
  split
  · rename_i h; subst h; simp [hj]
  · rfl
theorem near_comm14 (a b : S25) (r : Int) : nearB a b r = nearB b a r := by
  have e0 : b.f0 - a.f0 = -(a.f0 - b.f0) := by omega
  have e1 : b.f1 - a.f1 = -(a.f1 - b.f1) := by omega
  unfold nearB distB
  rw [e0, e1, Int.neg_mul_neg, Int.neg_mul_neg, Bool.and_comm (vldB a) (vldB b)]
/-- What a radio becomes: a listener, if it sends and is not the one. -/
def quiet (a : S50) (me : Bool) : S50 := if a.f0 = 2 ∧ me = false then ⟨1, a.f1, a.f2, ⟨a.f3.f0, a.f3.f1⟩⟩ else a
structure Quiets (xs ys : List S50) (c i : Nat) : Prop where
  len : ys.length = xs.length
  at_ : ∀ j, ys.getD j z50 = if j < i then quiet (xs.getD j z50) (decide (j = c)) else xs.getD j z50
theorem Quiets.start (xs : List S50) (c : Nat) : Quiets xs xs c 0 := ⟨rfl, fun j => by simp⟩
section
variable {xs ys : List S50} {c i : Nat} {ps : List S25} {r asn : Int}
theorem Quiets.keep (h : Quiets xs ys c i) (hv : ¬ (xs.getD i z50).f0 = 2 ∨ i = c) : Quiets xs ys c (i + 1) := by
  refine ⟨h.len, fun j => ?_⟩
  rw [h.at_ j]
  by_cases e : j < i
  · rw [if_pos e, if_pos (by omega)]
  · rw [if_neg e]
    by_cases e' : j < i + 1
    · obtain rfl : j = i := by omega
      rw [if_pos e']
      unfold quiet
      rw [if_neg]
      rintro ⟨h1, h2⟩
      rcases hv with hv | hv
      · exact hv h1
      · simp [hv] at h2
    · rw [if_neg e']
theorem Quiets.turn (h : Quiets xs ys c i) (hi : i < xs.length) (h2 : (xs.getD i z50).f0 = 2) (hc : ¬ i = c) : Quiets xs (ys.set i ⟨1, (ys.getD i z50).f1, (ys.getD i z50).f2, ⟨(ys.getD i z50).f3.f0, (ys.getD i z50).f3.f1⟩⟩) c (i + 1) := by
  refine ⟨by rw [List.length_set, h.len], fun j => ?_⟩
  rw [getD_set14 (by rw [h.len]; exact hi)]
  by_cases e : i = j
  · subst e
    rw [if_pos rfl, if_pos (by omega), h.at_ i, if_neg (by omega)]
    unfold quiet
    rw [if_pos ⟨h2, by simp [hc]⟩]
  · rw [if_neg e, h.at_ j]
    by_cases e' : j < i
    · rw [if_pos e', if_pos (by omega)]
    · rw [if_neg e', if_neg (by omega)]
theorem Quiets.here (h : Quiets xs ys c i) : ys.getD i z50 = xs.getD i z50 := by rw [h.at_ i, if_neg (by omega)]
theorem Quiets.only (h : Quiets xs ys c xs.length) {k : Nat} (hk : k < xs.length) (hc : ¬ k = c) : ¬ (ys.getD k z50).f0 = 2 := by
  rw [h.at_ k, if_pos hk]
  unfold quiet
  split
  · show ¬ (1 : Int) = 2
    decide
  · rename_i h2
    exact fun e => h2 ⟨e, by simp [hc]⟩
theorem Quiets.radios (h : Quiets xs ys c xs.length) (hr : radiosB xs ps r asn = true) : radiosB ys ps r asn = true := by
  simp only [radiosB, Bool.and_eq_true, decide_eq_true_eq, List.all_eq_true, List.mem_range] at hr ⊢
  obtain ⟨⟨⟨⟨h1, h2⟩, h3⟩, h4⟩, h5⟩ := hr
  rw [h.len]
  refine ⟨⟨⟨⟨h1, h2⟩, h3⟩, h4⟩, fun i hi => ?_⟩
  have := h5 i hi
  rw [h.at_ i, if_pos hi]
  unfold quiet
  split
  · rename_i e
    unfold radioB at this ⊢
    rw [e.1] at this
    unfold chanB at this ⊢
    simpa using this
  · exact this
/-- Who is heard where only one may send. -/
theorem heard_one (ho : ∀ k, k < ys.length → ¬ k = c → ¬ (ys.getD k z50).f0 = 2) (hc : c < ys.length) : heardL ys ps r i = if hearB ys ps r i c = true then [c] else [] := by
  have key : ∀ n, n ≤ ys.length → (List.range n).filter (hearB ys ps r i) = if c < n ∧ hearB ys ps r i c = true then [c] else [] := by
    intro n
    induction n with
    | zero => intro _; simp
    | succ n ih =>
      intro hn
      rw [List.range_succ, List.filter_append, ih (by omega)]
      by_cases e : n = c
      · subst e
        rw [if_neg (by omega)]
        cases hh : hearB ys ps r i n
        · simp [List.filter_cons, hh]
        · simp [List.filter_cons, hh]
      · have hh : hearB ys ps r i n = false := by
          unfold hearB
          rw [decide_eq_false (ho n (by omega) e), Bool.false_and, Bool.false_and]
        have e2 : (c < n + 1) ↔ c < n := by omega
        simp [List.filter_cons, hh, e2]
  unfold heardL
  rw [key ys.length (by omega)]
  simp [hc]
/-- What one catches where only one may send and nobody jams. -/
theorem one_one (ho : ∀ k, k < ys.length → ¬ k = c → ¬ (ys.getD k z50).f0 = 2) (hc : c < ys.length) : oneV ys ps r [] asn i =
    if (ys.getD c z50).f0 = 2 ∧ (ys.getD i z50).f0 = 1 ∧ (ys.getD i z50).f1 = (ys.getD c z50).f1 ∧ nearB (ps.getD i z25) (ps.getD c z25) r = true ∧ (ys.getD i z50).f3.f0 ≤ (ys.getD c z50).f2 ∧ (ys.getD c z50).f2 ≤ (ys.getD i z50).f3.f1 then (c : Int) else -1 := by
  unfold oneV
  by_cases h1 : (ys.getD i z50).f0 = 1
  · rw [if_pos h1]
    simp only [List.any_nil, Bool.false_eq_true, if_false]
    unfold catchV
    rw [heard_one ho hc]
    by_cases hh : hearB ys ps r i c = true
    · rw [if_pos hh]
      simp only [hearB, Bool.and_eq_true, decide_eq_true_eq] at hh
      obtain ⟨⟨e1, e2⟩, e3⟩ := hh
      rw [near_comm14] at e3
      simp only [opensB, Bool.and_eq_true, decide_eq_true_eq]
      by_cases ho' : (ys.getD i z50).f3.f0 ≤ (ys.getD c z50).f2 ∧ (ys.getD c z50).f2 ≤ (ys.getD i z50).f3.f1
      · rw [if_pos ho', if_pos ⟨e1, h1, e2.symm, e3, ho'.1, ho'.2⟩]
      · rw [if_neg ho', if_neg (fun h => ho' ⟨h.2.2.2.2.1, h.2.2.2.2.2⟩)]
    · rw [if_neg hh, if_neg]
      rintro ⟨e1, _, e2, e3, _⟩
      refine hh ?_
      simp only [hearB, Bool.and_eq_true, decide_eq_true_eq]
      exact ⟨⟨e1, e2.symm⟩, by rw [near_comm14]; exact e3⟩
  · rw [if_neg h1, if_neg (fun h => h1 h.2.1)]
end
theorem alone_l1 (ys : List S50) (ps : List S25) (r asn : Int) (c : Nat) (hl : ys.length = ps.length) (hm : ys.length ≤ 1000) (hc : c < ys.length) (ho : ∀ k, k < ys.length → ¬ k = c → ¬ (ys.getD k z50).f0 = 2) (d : Nat) : ∀ i : Nat, i + d = ys.length →
    Ev (fun k => slotmeshlaw17_MediumAlone.l1 k ps r true (c : Int) (catchL ys ps r [] asn) ys (ys.length : Int) (i : Int) (ys.getD c z50).f0 (ys.getD c z50).f1 (ys.getD c z50).f2 (ys.getD c z50).f3.f0 (ys.getD c z50).f3.f1) true := by
  induction d with
  | zero =>
    intro i hd
    refine Ev.step (f := fun _ => some true) (fun k => ?_) (Ev.now _)
    simp only [slotmeshlaw17_MediumAlone.l1]
    rw [if_neg (by omega)]
  | succ d ih =>
    intro i hd
    have hi : i < ys.length := by omega
    have hw := w64n hi (show ys.length ≤ 9223372036854775807 by omega)
    have ho1 := one_one (ps := ps) (r := r) (asn := asn) (i := i) ho hc
    refine Ev.step (fun k => ?_) (ih (i + 1) (by omega))
    simp only [slotmeshlaw17_MediumAlone.l1, rdT50, rdT25, near_f, Option.bind_some, rd_catch14 hi, catchL_len14, hw]
    simp only [if_pos (show (i : Int) < (ys.length : Int) by omega), if_pos (show (0 : Int) ≤ (i : Int) by omega), if_pos (show (0 : Int) ≤ (c : Int) by omega), if_pos (show (i : Int) < (ps.length : Int) by omega), if_pos (show (c : Int) < (ps.length : Int) by omega)]
    by_cases e1 : (ys.getD c z50).f0 = 2
    case neg => rw [if_neg (fun h => e1 h.1)] at ho1; rw [if_neg e1, ho1, if_pos rfl]
    rw [if_pos e1]
    by_cases e2 : (ys.getD i z50).f0 = 1
    case neg => rw [if_neg (fun h => e2 h.2.1)] at ho1; rw [if_neg e2, ho1, if_pos rfl]
    rw [if_pos e2]
    by_cases e3 : (ys.getD i z50).f1 = (ys.getD c z50).f1
    case neg => rw [if_neg (fun h => e3 h.2.2.1)] at ho1; rw [if_neg e3, ho1, if_pos rfl]
    rw [if_pos e3]
    by_cases e4 : nearB (ps.getD i z25) (ps.getD c z25) r = true
    case neg => rw [if_neg (fun h => e4 h.2.2.2.1)] at ho1; rw [if_neg e4, ho1, if_pos rfl]
    rw [if_pos e4]
    by_cases e5 : (ys.getD i z50).f3.f0 ≤ (ys.getD c z50).f2
    case neg => rw [if_neg (fun h => e5 h.2.2.2.2.1)] at ho1; rw [if_neg (show ¬ (ys.getD c z50).f2 ≥ (ys.getD i z50).f3.f0 from e5), ho1, if_pos rfl]
    rw [if_pos (show (ys.getD c z50).f2 ≥ (ys.getD i z50).f3.f0 from e5)]
    by_cases e6 : (ys.getD c z50).f2 ≤ (ys.getD i z50).f3.f1
    case neg => rw [if_neg (fun h => e6 h.2.2.2.2.2)] at ho1; simp only [if_neg e6, ho1, if_true]
    rw [if_pos ⟨e1, e2, e3, e4, e5, e6⟩] at ho1
    simp only [if_pos e6, ho1, if_true]
theorem alone_l0 (xs : List S50) (ps : List S25) (r asn : Int) (c : Nat) (hr : radiosB xs ps r asn = true) (hl : xs.length = ps.length) (hm : xs.length ≤ 1000) (hc : c < xs.length) (d : Nat) : ∀ (i : Nat) (ys : List S50), i + d = xs.length → Quiets xs ys c i →
    Ev (fun k => slotmeshlaw17_MediumAlone.l0 k ps r asn true (c : Int) ys (xs.length : Int) (i : Int)) true := by
  induction d with
  | zero =>
    intro i ys hd hQ
    obtain rfl : i = xs.length := by omega
    have f1 : ∀ k, medium_Catch.f k ys ps r [] asn = some (catchL ys ps r [] asn, 0) := fun k => by unfold medium_Catch.f; rw [if_pos (hQ.radios hr)]
    have hc' : c < ys.length := by rw [hQ.len]; exact hc
    have ho : ∀ k, k < ys.length → ¬ k = c → ¬ (ys.getD k z50).f0 = 2 := fun k hk hn => hQ.only (by rw [← hQ.len]; exact hk) hn
    refine Ev.step (f := fun k => slotmeshlaw17_MediumAlone.j2 k ps r true (c : Int) ys (catchL ys ps r [] asn) false) (fun k => ?_) ?_
    · simp only [slotmeshlaw17_MediumAlone.l0, f1, Option.bind_some, catchL_len14, if_true]
      rw [if_neg (by omega), bne_self_eq_false]
    · refine Ev.step (fun k => ?_) (alone_l1 ys ps r asn c (by rw [hQ.len]; exact hl) (by rw [hQ.len]; exact hm) hc' ho ys.length 0 (by omega))
      simp only [slotmeshlaw17_MediumAlone.j2, Bool.false_eq_true, if_false, rdT50]
      rw [if_pos (by omega), if_pos (by omega)]
      rfl
  | succ d ih =>
    intro i ys hd hQ
    have hi : i < xs.length := by omega
    have hl' : (ys.length : Int) = (xs.length : Int) := by rw [hQ.len]
    have hw := w64n hi (show xs.length ≤ 9223372036854775807 by omega)
    have hh := hQ.here
    by_cases h2 : (xs.getD i z50).f0 = 2
    · by_cases hic : i = c
      · refine Ev.step (fun k => ?_) (ih (i + 1) ys (by omega) (hQ.keep (.inr hic)))
        simp only [slotmeshlaw17_MediumAlone.l0, hw, hl', rdT50]
        rw [if_pos (by omega), if_pos (by omega), if_pos (by omega), if_pos (by rw [hh]; exact h2), if_pos (by omega)]
      · refine Ev.step (fun k => ?_) (ih (i + 1) _ (by omega) (hQ.turn hi h2 hic))
        simp only [slotmeshlaw17_MediumAlone.l0, hw, hl', rdT50, Int.toNat_natCast]
        rw [if_pos (by omega), if_pos (by omega), if_pos (by omega), if_pos (by rw [hh]; exact h2), if_neg (by omega)]
    · refine Ev.step (fun k => ?_) (ih (i + 1) ys (by omega) (hQ.keep (.inl h2)))
      simp only [slotmeshlaw17_MediumAlone.l0, hw, hl', rdT50]
      rw [if_pos (by omega), if_pos (by omega), if_pos (by omega), if_neg (by rw [hh]; exact h2)]
theorem pure_MediumAlone (l0 : List S50) (l1 : List S25) (a2 a3 a4 : Int) (_ : l0.length * 40 ≤ 140737488351232) (_ : l1.length * 16 ≤ 140737488351232) (_ : (Lit.int .i64 a2).wf = true) (_ : (Lit.int .i64 a3).wf = true) (h4 : (Lit.int .u8 a4).wf = true) :
    ∃ k, slotmeshlaw17_MediumAlone.f k l0 l1 a2 a3 a4 = some true := by
  have out : ∀ k, slotmeshlaw17_MediumAlone.j0 (k + 1) l0 l1 a2 a3 a4 true true = some true := fun k => by simp only [slotmeshlaw17_MediumAlone.j0, if_true]
  have hu : 0 ≤ a4 ∧ a4 ≤ 255 := by
    have := h4
    have e1 : IntKind.u8.min = 0 := by rfl
    have e2 : IntKind.u8.max = 255 := by rfl
    simp only [Lit.wf, Bool.and_eq_true, decide_eq_true_eq, e1, e2] at this
    exact this
  refine Ev.rounds ?_
  unfold slotmeshlaw17_MediumAlone.f slotmeshlaw17_head.f
  simp only [Option.bind_some]
  refine Ev.bind (validE l0 l1 a2 [] a3) ?_
  cases hv : fewB l0.length l1.length ([] : List S42).length && radiosB l0 l1 a2 a3
  · simp only [Bool.false_eq_true, if_false]
    exact Ev.step (f := fun _ => some true) (fun k => out k) (Ev.now true)
  simp only [if_true]
  rw [Bool.and_eq_true] at hv
  obtain ⟨_, hr⟩ := hv
  have hr' := hr
  simp only [radiosB, Bool.and_eq_true, decide_eq_true_eq] at hr'
  obtain ⟨⟨⟨⟨hl, hm⟩, _⟩, _⟩, _⟩ := hr'
  by_cases hn : l0.length = 0
  · have : ((l0.length : Int) == 0) = true := by simp [hn]
    rw [this]
    exact Ev.step (f := fun _ => some true) (fun k => out k) (Ev.now true)
  have hnb : ((l0.length : Int) == 0) = false := by simp; exact fun h => hn (by simp [h])
  rw [hnb]
  obtain ⟨s, hs, hsn⟩ : ∃ s : Nat, Int.tmod (wrap64 a4) (l0.length : Int) = (s : Int) ∧ s < l0.length := by
    refine ⟨a4.toNat % l0.length, ?_, Nat.mod_lt _ (by omega)⟩
    rw [w64 (by omega) (by omega), show a4 = ((a4.toNat : Nat) : Int) by omega, ← Int.ofNat_tmod]
    simp
  refine Ev.step (fun k => ?_) (alone_l0 l0 l1 a2 a3 s hr hl (by omega) hsn l0.length 0 l0 (by omega) (Quiets.start l0 s))
  simp only [slotmeshlaw17_MediumAlone.j0, hs, Option.bind_some, List.nil_append, Bool.false_eq_true, if_false, List.length_nil]
  rw [if_neg (by omega), if_pos (by omega)]
  rfl
end Go.Proofs.Ytcgbfkplhlngjaa.PA
