/- The plain law behind MediumOrder. -/
import Derived.Test.YtcgbfkplhlngjaaF7
import Derived.Test.YtcgbfkplhlngjaaE17
namespace Go.Proofs.Ytcgbfkplhlngjaa.PA
open Go.RowKit Go.Proofs.YtcgbfkplhlngjaaW.PrintWords Go.Proofs.YtcgbfkplhlngjaaW.PrintLast Go.Proofs.YtcgbfkplhlngjaaW.PrintMore
set_option linter.unusedVariables false
set_option linter.unusedSimpArgs false

/-- A list turned round by s places. -/
def turned {α : Type} (s : Nat) (l : List α) : List α := l.drop s ++ l.take s
theorem turned_len {α : Type} {s : Nat} {l : List α} (h : s ≤ l.length) : (turned s l).length = l.length := by simp [turned]; omega
theorem turned_lo {α : Type} {s m : Nat} {l : List α} {z : α} (h : s + m < l.length) : (turned s l).getD m z = l.getD (m + s) z := by
  simp only [turned, List.getD_eq_getElem?_getD]
  rw [List.getElem?_append_left (by simp; omega), List.getElem?_drop, Nat.add_comm]
theorem turned_hi {α : Type} {s m : Nat} {l : List α} {z : α} (h : m < s) (hs : s ≤ l.length) : (turned s l).getD (m + (l.length - s)) z = l.getD m z := by
  simp only [turned, List.getD_eq_getElem?_getD]
  rw [List.getElem?_append_right (by simp), List.length_drop, Nat.add_sub_cancel, List.getElem?_take_of_lt h]
/-- Where the place m of the turned list lies in the list. -/
def un (n s m : Nat) : Nat := if s + m < n then m + s else m - (n - s)
theorem turned_un {α : Type} {s m : Nat} {l : List α} {z : α} (hs : s ≤ l.length) (hm : m < l.length) : (turned s l).getD m z = l.getD (un l.length s m) z := by
  unfold un
  split
  · rename_i h; exact turned_lo h
  · rename_i h
    have := turned_hi (l := l) (s := s) (m := m - (l.length - s)) (z := z) (by omega) hs
    rwa [Nat.sub_add_cancel (by omega)] at this
theorem un_lt {n s m : Nat} (hs : s ≤ n) (hm : m < n) : un n s m < n := by unfold un; split <;> omega

section
variable {xs : List S50} {ps : List S25} {r : Int} {s : Nat}
theorem hear_turned (hl : xs.length = ps.length) (hs : s ≤ xs.length) {i m : Nat} (hi : i < xs.length) (hm : m < xs.length) :
    hearB (turned s xs) (turned s ps) r i m = hearB xs ps r (un xs.length s i) (un xs.length s m) := by
  unfold hearB
  rw [turned_un hs hm, turned_un hs hi, turned_un (by omega) (by omega), turned_un (by omega) (by omega), hl]
def loL (xs : List S50) (ps : List S25) (r : Int) (s i : Nat) : List Nat := (List.range s).filter (hearB xs ps r i)
def hiL (xs : List S50) (ps : List S25) (r : Int) (s i : Nat) : List Nat := (List.range (xs.length - s)).filter fun m => hearB xs ps r i (m + s)
theorem heard_parts (hs : s ≤ xs.length) (i : Nat) : heardL xs ps r i = loL xs ps r s i ++ (hiL xs ps r s i).map (· + s) := by
  unfold heardL loL hiL
  have : List.range xs.length = List.range s ++ (List.range (xs.length - s)).map (· + s) := by
    conv => lhs; rw [show xs.length = s + (xs.length - s) by omega, List.range_add]
    simp [Nat.add_comm]
  rw [this, List.filter_append, List.filter_map]
  rfl
theorem heard_turned (hl : xs.length = ps.length) (hs : s ≤ xs.length) {i : Nat} (hi : i < xs.length) :
    heardL (turned s xs) (turned s ps) r i = hiL xs ps r s (un xs.length s i) ++ (loL xs ps r s (un xs.length s i)).map (· + (xs.length - s)) := by
  unfold heardL loL hiL
  rw [turned_len hs]
  have : List.range xs.length = List.range (xs.length - s) ++ (List.range s).map (· + (xs.length - s)) := by
    conv => lhs; rw [show xs.length = (xs.length - s) + s by omega, List.range_add]
    simp [Nat.add_comm]
  rw [this, List.filter_append, List.filter_map]
  congr 1
  · refine List.filter_congr fun m hm => ?_
    have hm := List.mem_range.1 hm
    rw [hear_turned hl hs hi (by omega)]
    unfold un
    rw [if_pos (show s + m < xs.length by omega)]
  · congr 1
    refine List.filter_congr fun m hm => ?_
    have hm := List.mem_range.1 hm
    simp only [Function.comp]
    rw [hear_turned hl hs hi (by omega)]
    congr 1
    unfold un
    rw [if_neg (by omega)]
    omega
theorem heardL_lt {i k : Nat} (h : k ∈ heardL xs ps r i) : k < xs.length := by
  simp only [heardL, List.mem_filter, List.mem_range] at h
  exact h.1
/-- What the turned radio catches: the index turned back. -/
def back (n s : Nat) (x : Int) : Int := if x ≥ 0 then Int.tmod (x - s + n) n else x
theorem catch_turned (hl : xs.length = ps.length) (hs : s < xs.length) {i : Nat} (hi : i < xs.length) :
    catchV (turned s xs) (turned s ps) r i = back xs.length s (catchV xs ps r (un xs.length s i)) := by
  have hmem : ∀ k, k ∈ heardL (turned s xs) (turned s ps) r i → k < xs.length := fun k hk => by have := heardL_lt hk; rwa [turned_len (by omega)] at this
  have hp := heard_parts (xs := xs) (ps := ps) (r := r) (s := s) (by omega) (un xs.length s i)
  have ht := heard_turned (xs := xs) (ps := ps) (r := r) (s := s) hl (by omega) hi
  have hU : ∀ k, k ∈ loL xs ps r s (un xs.length s i) → k < s := fun k hk => by simp only [loL, List.mem_filter, List.mem_range] at hk; exact hk.1
  have hV : ∀ k, k ∈ hiL xs ps r s (un xs.length s i) → k < xs.length - s := fun k hk => by simp only [hiL, List.mem_filter, List.mem_range] at hk; exact hk.1
  unfold catchV
  rw [hp, ht]
  generalize loL xs ps r s (un xs.length s i) = U at hU
  generalize hiL xs ps r s (un xs.length s i) = V at hV
  match U, V with
  | [], [] => simp [back]
  | [u], [] =>
    have hu := hU u (by simp)
    simp only [List.map_nil, List.append_nil, List.map_cons, List.nil_append]
    rw [turned_hi hu (by omega), turned_un (by omega) hi]
    split
    · unfold back
      rw [if_pos (by omega), show ((u : Int) - (s : Int) + (xs.length : Int)) = ((u + (xs.length - s) : Nat) : Int) by omega, ← Int.ofNat_tmod, Nat.mod_eq_of_lt (by omega)]
    · simp [back]
  | [], [v] =>
    have hv := hV v (by simp)
    simp only [List.map_nil, List.append_nil, List.map_cons, List.nil_append]
    rw [turned_lo (by omega), turned_un (by omega) hi]
    split
    · unfold back
      rw [if_pos (by omega), show (((v + s : Nat) : Int) - (s : Int) + (xs.length : Int)) = ((v + xs.length : Nat) : Int) by omega, ← Int.ofNat_tmod, Nat.add_mod_right, Nat.mod_eq_of_lt (by omega)]
    · simp [back]
  | [u], v :: V => simp [back]
  | u :: u' :: U, V => cases V <;> simp [back]
  | [], v :: v' :: V => simp [back]
theorem one_turned (js : List S42) (asn : Int) (hl : xs.length = ps.length) (hs : s < xs.length) {i : Nat} (hi : i < xs.length) :
    oneV (turned s xs) (turned s ps) r js asn i = back xs.length s (oneV xs ps r js asn (un xs.length s i)) := by
  unfold oneV
  rw [turned_un (by omega) hi, turned_un (by omega) (by omega), catch_turned hl hs hi, hl]
  split
  · split
    · simp [back]
    · rfl
  · simp [back]
theorem oneV_bounds (js : List S42) (asn : Int) (i : Nat) : -2 ≤ oneV xs ps r js asn i ∧ oneV xs ps r js asn i ≤ xs.length := by
  unfold oneV
  split
  · split
    · omega
    · unfold catchV
      split
      · omega
      · rename_i k hk
        have : k < xs.length := heardL_lt (ps := ps) (r := r) (i := i) (by rw [hk]; simp)
        split <;> omega
      · omega
  · omega
theorem radios_turned {asn : Int} (hs : s ≤ xs.length) (h : radiosB xs ps r asn = true) : radiosB (turned s xs) (turned s ps) r asn = true := by
  simp only [radiosB, Bool.and_eq_true, decide_eq_true_eq, List.all_eq_true, List.mem_range] at h ⊢
  obtain ⟨⟨⟨⟨h1, h2⟩, h3⟩, h4⟩, h5⟩ := h
  rw [turned_len hs, turned_len (by omega)]
  refine ⟨⟨⟨⟨h1, h2⟩, h3⟩, h4⟩, fun i hi => ?_⟩
  rw [turned_un hs hi, turned_un (by omega) (by omega), ← h1]
  exact h5 _ (un_lt hs hi)
end
theorem rd_catch {xs : List S50} {ps : List S25} {r : Int} {js : List S42} {asn : Int} {i : Nat} (h : i < xs.length) : rd (catchL xs ps r js asn) (i : Int) = oneV xs ps r js asn i := by simp [rd, catchL, List.getD_eq_getElem?_getD, h]
theorem catchL_len (xs : List S50) (ps : List S25) (r : Int) (js : List S42) (asn : Int) : (catchL xs ps r js asn).length = xs.length := by simp [catchL]
theorem order_l0 (xs : List S50) (ps : List S25) (r : Int) (js : List S42) (asn : Int) (s : Nat) (hl : xs.length = ps.length) (hm : xs.length ≤ 1000) (hs : s < xs.length) (d : Nat) : ∀ i : Nat, i + d = xs.length →
    Ev (fun k => slotmeshlaw17_MediumOrder.l0 k true (xs.length : Int) (s : Int) (catchL xs ps r js asn) (catchL (turned s xs) (turned s ps) r js asn) (xs.length : Int) (i : Int)) true := by
  induction d with
  | zero =>
    intro i hd
    refine Ev.step (f := fun _ => some true) (fun k => ?_) (Ev.now _)
    simp only [slotmeshlaw17_MediumOrder.l0]
    rw [if_neg (by omega)]
  | succ d ih =>
    intro i hd
    have hi : i < xs.length := by omega
    refine Ev.step (fun k => ?_) (ih (i + 1) (by omega))
    have b := oneV_bounds (xs := xs) (ps := ps) (r := r) js asn i
    -- where the radio i lies in the turned list
    obtain ⟨m, hm', hmn, hun⟩ : ∃ m : Nat, Int.tmod (wrap64 (wrap64 ((i : Int) - s) + xs.length)) xs.length = (m : Int) ∧ m < xs.length ∧ un xs.length s m = i := by
      rw [w64 (x := (i : Int) - s) (by omega) (by omega), w64 (by omega) (by omega)]
      by_cases h : s ≤ i
      · refine ⟨i - s, ?_, by omega, ?_⟩
        · rw [show (i : Int) - s + xs.length = ((i - s + xs.length : Nat) : Int) by omega, ← Int.ofNat_tmod, Nat.add_mod_right, Nat.mod_eq_of_lt (by omega)]
        · unfold un; rw [if_pos (by omega)]; omega
      · refine ⟨i + (xs.length - s), ?_, by omega, ?_⟩
        · rw [show (i : Int) - s + xs.length = ((i + (xs.length - s) : Nat) : Int) by omega, ← Int.ofNat_tmod, Nat.mod_eq_of_lt (by omega)]
        · unfold un; rw [if_neg (by omega)]; omega
    have one := one_turned (xs := xs) (ps := ps) (r := r) (s := s) js asn hl hs hmn
    rw [hun] at one
    have r2 : rd (catchL (turned s xs) (turned s ps) r js asn) (m : Int) = back xs.length s (oneV xs ps r js asn i) := by rw [rd_catch (by rw [turned_len (by omega)]; exact hmn), one]
    have c2 : ((catchL (turned s xs) (turned s ps) r js asn).length : Int) = xs.length := by rw [catchL_len, turned_len (by omega)]
    have c1 : ((catchL xs ps r js asn).length : Int) = xs.length := by rw [catchL_len]
    simp only [slotmeshlaw17_MediumOrder.l0, hm', r2, rd_catch hi, c1, c2, w64n hi (show xs.length ≤ 9223372036854775807 by omega)]
    rw [if_pos (by omega), if_pos (by omega), if_pos (by omega)]
    generalize oneV xs ps r js asn i = v at b
    by_cases hv : v ≥ 0
    · rw [if_pos hv, if_neg (by omega), if_pos (by omega), if_pos (by omega), w64 (x := v - s) (by omega) (by omega), w64 (by omega) (by omega), back, if_pos hv, if_pos rfl]
    · rw [if_neg hv, if_neg (by omega), if_pos (by omega), if_pos (by omega), back, if_neg hv, if_pos rfl]
theorem pure_MediumOrder (l0 : List S50) (l1 : List S25) (a2 : Int) (l3 : List S42) (a4 a5 : Int) (_ : l0.length * 40 ≤ 140737488351232) (_ : l1.length * 16 ≤ 140737488351232) (_ : (Lit.int .i64 a2).wf = true) (_ : l3.length * 40 ≤ 140737488351232) (_ : (Lit.int .i64 a4).wf = true) (h5 : (Lit.int .u8 a5).wf = true) :
    ∃ k, slotmeshlaw17_MediumOrder.f k l0 l1 a2 l3 a4 a5 = some true := by
  have out : ∀ k x, slotmeshlaw17_MediumOrder.j0 (k + 1) l0 l1 a2 l3 a4 a5 true x true = some true := fun k x => by simp only [slotmeshlaw17_MediumOrder.j0, if_true]
  have hu : 0 ≤ a5 ∧ a5 ≤ 255 := by
    have := h5
    have e1 : IntKind.u8.min = 0 := by rfl
    have e2 : IntKind.u8.max = 255 := by rfl
    simp only [Lit.wf, Bool.and_eq_true, decide_eq_true_eq, e1, e2] at this
    exact this
  refine Ev.rounds ?_
  unfold slotmeshlaw17_MediumOrder.f slotmeshlaw17_head.f
  simp only [Option.bind_some]
  refine Ev.bind (validE l0 l1 a2 l3 a4) ?_
  cases hv : fewB l0.length l1.length l3.length && radiosB l0 l1 a2 a4
  · simp only [Bool.false_eq_true, if_false]
    exact Ev.step (f := fun _ => some true) (fun k => out k _) (Ev.now true)
  simp only [if_true]
  rw [Bool.and_eq_true] at hv
  obtain ⟨_, hr⟩ := hv
  have hr' := hr
  simp only [radiosB, Bool.and_eq_true, decide_eq_true_eq] at hr'
  obtain ⟨⟨⟨⟨hl, hm⟩, _⟩, _⟩, _⟩ := hr'
  by_cases hn : l0.length = 0
  · have : ((l0.length : Int) == 0) = true := by simp [hn]
    rw [this]
    exact Ev.step (f := fun _ => some true) (fun k => out k _) (Ev.now true)
  have hnb : ((l0.length : Int) == 0) = false := by simp; exact fun h => hn (by simp [h])
  rw [hnb]
  obtain ⟨s, hs, hsn⟩ : ∃ s : Nat, Int.tmod (wrap64 a5) (l0.length : Int) = (s : Int) ∧ s < l0.length := by
    refine ⟨a5.toNat % l0.length, ?_, Nat.mod_lt _ (by omega)⟩
    rw [w64 (by omega) (by omega), show a5 = ((a5.toNat : Nat) : Int) by omega, ← Int.ofNat_tmod]
    simp
  have ht := radios_turned (s := s) (by omega) hr
  have f1 : ∀ k, medium_Catch.f k l0 l1 a2 l3 a4 = some (catchL l0 l1 a2 l3 a4, 0) := fun k => by unfold medium_Catch.f; rw [if_pos hr]
  have f2 : ∀ k, medium_Catch.f k (turned s l0) (turned s l1) a2 l3 a4 = some (catchL (turned s l0) (turned s l1) a2 l3 a4, 0) := fun k => by unfold medium_Catch.f; rw [if_pos ht]
  have t0 : l0.drop s ++ l0.take s = turned s l0 := rfl
  have t1 : l1.drop s ++ l1.take s = turned s l1 := rfl
  refine Ev.step (f := fun k => slotmeshlaw17_MediumOrder.j1 k true (l0.length : Int) (s : Int) (catchL l0 l1 a2 l3 a4) (catchL (turned s l0) (turned s l1) a2 l3 a4) false) (fun k => ?_) ?_
  · simp only [slotmeshlaw17_MediumOrder.j0, hs, Option.bind_some, Int.toNat_natCast, List.nil_append, t0, t1, f1, f2, Bool.false_eq_true, if_false, if_true, catchL_len, List.length_nil, List.length_drop, List.length_take]
    rw [if_neg (by omega), if_pos (by omega), if_pos (by omega), if_pos (by omega), if_pos (by omega), if_pos (by omega), if_pos (by omega), if_pos (by omega)]
    rw [turned_len (by omega)]
    simp
  · refine Ev.step (fun k => ?_) (order_l0 l0 l1 a2 l3 a4 s hl (by omega) hsn l0.length 0 (by omega))
    simp only [slotmeshlaw17_MediumOrder.j1, Bool.false_eq_true, if_false]
    rfl
end Go.Proofs.Ytcgbfkplhlngjaa.PA
