/- What the functions of the reference of package plane come to, in closed form. -/
import Derived.Test.YtcgbfkplhlngjaaF19
import Derived.Test.YtcgbfkplhlngjaaF20
import Derived.Test.YtcgbfkplhlngjaaF30
import Derived.Test.YtcgbfkplhlngjaaD
namespace Go.Proofs.Ytcgbfkplhlngjaa.PA
open Go.RowKit Go.Proofs.YtcgbfkplhlngjaaW.PrintWords Go.Proofs.YtcgbfkplhlngjaaW.PrintLast Go.Proofs.YtcgbfkplhlngjaaW.PrintMore
set_option linter.unusedVariables false
set_option linter.unusedSimpArgs false

theorem w64s {i n : Nat} (h : i < n) (hn : n ≤ 9223372036854775807) : wrap64 ((i : Int) + 1) = ((i + 1 : Nat) : Int) := by rw [w64 (by omega) (by omega)]; omega
theorem rd25 (l : List S25) (i : Nat) : rd_T25 l (i : Int) = l.getD i z25 := by simp [rd_T25]
theorem rd42 (l : List S42) (i : Nat) : rd_T42 l (i : Int) = l.getD i z42 := by simp [rd_T42]
theorem getD_at {α : Type} {l : List α} {i : Nat} {d : α} (h : i < l.length) : l.getD i d = l[i] := by simp [List.getD_eq_getElem?_getD, h]
theorem drop_at {α : Type} {l : List α} {i : Nat} (d : α) (h : i < l.length) : l.drop i = l.getD i d :: l.drop (i + 1) := by rw [getD_at h, List.drop_eq_getElem_cons h]

/-! ### Places -/
theorem places_l0 (l : List S25) (r : Int) (hl : l.length ≤ 9223372036854775807) (d : Nat) : ∀ (k i : Nat), i + d = l.length → d < k →
    slotmeshref16_Places.l0 k l r (i : Int) = some ((l.drop i).all vldB && decide (l.length ≤ 60) && radB r) := by
  induction d with
  | zero =>
    intro k i hd hk
    obtain ⟨k, rfl⟩ : ∃ m, k = m + 1 := ⟨k - 1, by omega⟩
    simp only [slotmeshref16_Places.l0]
    rw [if_neg (by omega), List.drop_of_length_le (by omega)]
    unfold radB
    by_cases h1 : l.length ≤ 60
    · rw [if_pos (by omega)]
      by_cases h2 : 0 ≤ r
      · rw [if_pos (by omega)]; simp [h1, h2]
      · rw [if_neg (by omega)]; simp [h2]
    · rw [if_neg (by omega)]; simp [h1]
  | succ d ih =>
    intro k i hd hk
    obtain ⟨k, rfl⟩ : ∃ m, k = m + 1 := ⟨k - 1, by omega⟩
    simp only [slotmeshref16_Places.l0]
    rw [if_pos (by omega), if_pos (by omega), rvalid_f, rd25, drop_at z25 (by omega)]
    simp only [Option.bind_some, List.all_cons]
    cases vldB (l.getD i z25) with
    | false => simp
    | true => rw [if_pos rfl, w64s (n := l.length) (by omega) hl, ih k (i + 1) (by omega) (by omega)]; simp
theorem places_f (l : List S25) (r : Int) (hl : l.length ≤ 9223372036854775807) : ∀ k, l.length < k → slotmeshref16_Places.f k l r = some (placesB l r) := fun k hk => by
  unfold slotmeshref16_Places.f
  have := places_l0 l r hl l.length k 0 (by omega) hk
  rw [show ((0 : Nat) : Int) = 0 from rfl] at this
  rw [this, List.drop_zero]
  unfold placesB
  cases l.all vldB <;> simp
theorem placesE (l : List S25) (r : Int) (hl : l.length ≤ 9223372036854775807) : Ev (fun k => slotmeshref16_Places.f k l r) (placesB l r) := ⟨l.length + 1, fun k hk => places_f l r hl k (by omega)⟩

/-! ### Same -/
theorem rdL3 (t : List (List Bool)) (i : Nat) : rd_L3 t (i : Int) = t.getD i [] := by simp [rd_L3]
theorem same_l1 (t : List (List Bool)) (i : Nat) (hi : i < t.length) (hb : (t.getD i []).length ≤ 9223372036854775807) (hnext : Ev (fun k => slotmeshref16_Same.l0 k t t (wrap64 ((i : Int) + 1))) true) (d : Nat) :
    ∀ j : Nat, j + d = (t.getD i []).length → Ev (fun k => slotmeshref16_Same.l1 k t t (i : Int) (j : Int)) true := by
  induction d with
  | zero =>
    intro j hd
    refine Ev.step (f := fun k => slotmeshref16_Same.l0 k t t (wrap64 ((i : Int) + 1))) (fun k => ?_) hnext
    simp only [slotmeshref16_Same.l1, rdL3]
    rw [if_pos (by omega), if_pos (by omega), if_neg (by omega)]
  | succ d ih =>
    intro j hd
    refine Ev.step (f := fun k => slotmeshref16_Same.l1 k t t (i : Int) ((j + 1 : Nat) : Int)) (fun k => ?_) (ih (j + 1) (by omega))
    simp only [slotmeshref16_Same.l1, rdL3]
    rw [if_pos (by omega), if_pos (by omega), if_pos (by omega), if_pos (by omega), if_pos (by omega), if_pos (by omega), if_neg (by simp), w64s (n := (t.getD i []).length) (by omega) hb]
theorem same_l0 (t : List (List Bool)) (hl : t.length ≤ 9223372036854775807) (hb : ∀ i, i < t.length → (t.getD i []).length ≤ 9223372036854775807) (d : Nat) : ∀ i : Nat, i + d = t.length → Ev (fun k => slotmeshref16_Same.l0 k t t (i : Int)) true := by
  induction d with
  | zero =>
    intro i hd
    refine Ev.step (f := fun _ => some true) (fun k => ?_) (Ev.now true)
    simp only [slotmeshref16_Same.l0]
    rw [if_neg (by omega)]
  | succ d ih =>
    intro i hd
    refine Ev.step (f := fun k => slotmeshref16_Same.l1 k t t (i : Int) ((0 : Nat) : Int)) (fun k => ?_) (same_l1 t i (by omega) (hb i (by omega)) ?_ (t.getD i []).length 0 (by omega))
    · simp only [slotmeshref16_Same.l0, rdL3]
      rw [if_pos (by omega), if_pos (by omega), if_pos (by omega), if_pos trivial]
      rfl
    · rw [w64s (n := t.length) (by omega) hl]
      exact ih (i + 1) (by omega)
theorem sameE (t : List (List Bool)) (hl : t.length ≤ 9223372036854775807) (hb : ∀ i, i < t.length → (t.getD i []).length ≤ 9223372036854775807) : Ev (fun k => slotmeshref16_Same.f k t t) true := by
  refine Ev.congr (f := fun k => slotmeshref16_Same.l0 k t t ((0 : Nat) : Int)) (fun k => ?_) (same_l0 t hl hb t.length 0 (by omega))
  unfold slotmeshref16_Same.f
  rw [if_pos rfl]
  rfl

/-! ### Hears -/
theorem hearsT_length (l : List S25) (r : Int) : (hearsT l r).length = l.length := by simp [hearsT]
theorem hearsT_row {l : List S25} {r : Int} {i : Nat} (h : i < l.length) : (hearsT l r).getD i [] = (List.range l.length).map fun k => (i != k) && nearB (l.getD i z25) (l.getD k z25) r := by
  rw [getD_at (by rw [hearsT_length]; exact h)]
  simp [hearsT]
theorem hearsT_row_length {l : List S25} {r : Int} {i : Nat} (h : i < l.length) : ((hearsT l r).getD i []).length = l.length := by rw [hearsT_row h]; simp
theorem take_snoc {α : Type} {l : List α} {i : Nat} (d : α) (h : i < l.length) : l.take (i + 1) = l.take i ++ [l.getD i d] := by rw [getD_at h, List.take_succ_eq_append_getElem h]
theorem hearsT_at {l : List S25} {r : Int} {i k : Nat} (hi : i < l.length) (hk : k < l.length) : ((hearsT l r).getD i []).getD k false = ((i != k) && nearB (l.getD i z25) (l.getD k z25) r) := by
  rw [hearsT_row hi, getD_at (by simpa using hk)]
  simp
theorem rhears_l1 (l : List S25) (r : Int) (hl : l.length ≤ 1000) (i : Nat) (hi : i < l.length) {res : List (List Bool) × Int} (hnext : Ev (fun k => slotmeshref16_Hears.l0 k l r ((hearsT l r).take (i + 1)) ((i + 1 : Nat) : Int)) res) (d : Nat) :
    ∀ j : Nat, j + d = l.length → Ev (fun k => slotmeshref16_Hears.l1 k l r ((hearsT l r).take i) (i : Int) (((hearsT l r).getD i []).take j) (j : Int)) res := by
  induction d with
  | zero =>
    intro j hd
    refine Ev.step (f := fun k => slotmeshref16_Hears.l0 k l r ((hearsT l r).take (i + 1)) ((i + 1 : Nat) : Int)) (fun k => ?_) hnext
    simp only [slotmeshref16_Hears.l1]
    rw [if_neg (by omega), if_pos (by have := List.length_take_le i (hearsT l r); omega), w64s (n := l.length) hi (by omega), List.take_of_length_le (i := j) (by rw [hearsT_row_length hi]; omega), take_snoc [] (by rw [hearsT_length]; exact hi)]
  | succ d ih =>
    intro j hd
    refine Ev.step (f := fun k => slotmeshref16_Hears.l1 k l r ((hearsT l r).take i) (i : Int) (((hearsT l r).getD i []).take (j + 1)) ((j + 1 : Nat) : Int)) (fun k => ?_) (ih (j + 1) (by omega))
    have hj : j < l.length := by omega
    have hlt : (((hearsT l r).getD i []).take j).length < 140737488355328 := by have := List.length_take_le j ((hearsT l r).getD i []); omega
    simp only [slotmeshref16_Hears.l1]
    rw [if_pos (by omega), if_pos (by omega), if_pos (by omega), if_pos (by omega), rnear_f, rd25, rd25, w64s (n := l.length) hj (by omega), take_snoc false (by rw [hearsT_row_length hi]; exact hj), hearsT_at hi hj]
    simp only [Option.bind_some]
    have e : ((i : Int) != (j : Int)) = (i != j) := by rw [Bool.eq_iff_iff]; simp; omega
    cases nearB (l.getD i z25) (l.getD j z25) r with
    | true => rw [if_pos rfl, if_pos hlt, e, Bool.and_true]
    | false => rw [if_neg (by simp), if_pos hlt, Bool.and_false]
theorem rhears_l0 (l : List S25) (r : Int) (hl : l.length ≤ 1000) (d : Nat) : ∀ i : Nat, i + d = l.length → Ev (fun k => slotmeshref16_Hears.l0 k l r ((hearsT l r).take i) (i : Int)) (hearsT l r, 0) := by
  induction d with
  | zero =>
    intro i hd
    refine Ev.step (f := fun _ => some (hearsT l r, 0)) (fun k => ?_) (Ev.now _)
    simp only [slotmeshref16_Hears.l0]
    rw [if_neg (by omega), List.take_of_length_le (by rw [hearsT_length]; omega)]
  | succ d ih =>
    intro i hd
    refine Ev.step (f := fun k => slotmeshref16_Hears.l1 k l r ((hearsT l r).take i) (i : Int) (((hearsT l r).getD i []).take 0) ((0 : Nat) : Int)) (fun k => ?_) (rhears_l1 l r hl i (by omega) (ih (i + 1) (by omega)) l.length 0 (by omega))
    simp only [slotmeshref16_Hears.l0]
    rw [if_pos (by omega)]
    rfl
theorem rhearsE (l : List S25) (r : Int) (hl : l.length ≤ 1000) : Ev (fun k => slotmeshref16_Hears.f k l r) (if placesB l r = true then (hearsT l r, 0) else ([], 1)) := by
  unfold slotmeshref16_Hears.f
  refine Ev.bind (f := fun k t => if t = true then slotmeshref16_Hears.l0 k l r [] 0 else some ([], 1)) (placesE l r (by omega)) ?_
  cases placesB l r with
  | true => exact Ev.congr (f := fun k => slotmeshref16_Hears.l0 k l r ((hearsT l r).take 0) ((0 : Nat) : Int)) (fun k => by simp) (rhears_l0 l r hl l.length 0 (by omega))
  | false => exact Ev.congr (f := fun _ => some ([], 1)) (fun k => by simp) (Ev.now _)
end Go.Proofs.Ytcgbfkplhlngjaa.PA
