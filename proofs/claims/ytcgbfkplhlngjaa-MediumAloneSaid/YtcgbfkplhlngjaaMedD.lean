/- The plain functions of the medium: which radio hears which, what it catches; and that the calls of medium's small functions come to them. -/
import Derived.Test.YtcgbfkplhlngjaaJam
import Derived.Test.YtcgbfkplhlngjaaHel2
namespace Go.Proofs.Ytcgbfkplhlngjaa.PA
open Go.RowKit Go.Shelf Go.Proofs.YtcgbfkplhlngjaaW.PrintWords Go.Proofs.YtcgbfkplhlngjaaW.PrintLast Go.Proofs.YtcgbfkplhlngjaaW.PrintMore
set_option linter.unusedVariables false
set_option linter.unusedSimpArgs false

def chanB (a : S50) : Bool := decide (0 ≤ a.f1) && decide (a.f1 < 16)
def radioB (a : S50) (p : S25) : Bool := (decide (a.f0 = 0) || ((decide (a.f0 = 1) || decide (a.f0 = 2)) && chanB a)) && vldB p
def opensB (s : Int) (o : S48) : Bool := decide (o.f0 ≤ s) && decide (s ≤ o.f1)
/-- Whether the radio k, which sends, is heard by one on its channel at its place. -/
def hearB (xs : List S50) (ps : List S25) (r : Int) (i k : Nat) : Bool := decide ((xs.getD k z50).f0 = 2) && decide ((xs.getD k z50).f1 = (xs.getD i z50).f1) && nearB (ps.getD k z25) (ps.getD i z25) r
def heardL (xs : List S50) (ps : List S25) (r : Int) (i : Nat) : List Nat := (List.range xs.length).filter (hearB xs ps r i)
def catchV (xs : List S50) (ps : List S25) (r : Int) (i : Nat) : Int :=
  match heardL xs ps r i with
  | [] => -1
  | [k] => if opensB (xs.getD k z50).f2 (xs.getD i z50).f3 = true then (k : Int) else -1
  | _ => -2
def oneV (xs : List S50) (ps : List S25) (r : Int) (js : List S42) (asn : Int) (i : Nat) : Int :=
  if (xs.getD i z50).f0 = 1 then (if (js.any fun j => jamB j (ps.getD i z25) (xs.getD i z50).f1 asn) = true then -2 else catchV xs ps r i) else -1
def asnB (asn : Int) : Bool := decide (0 ≤ asn) && decide (asn ≤ 1000000000)
def radiosB (xs : List S50) (ps : List S25) (r asn : Int) : Bool := decide (xs.length = ps.length) && decide (xs.length ≤ 200) && radB r && asnB asn && (List.range xs.length).all fun i => radioB (xs.getD i z50) (ps.getD i z25)
def catchL (xs : List S50) (ps : List S25) (r : Int) (js : List S42) (asn : Int) : List Int := (List.range xs.length).map (oneV xs ps r js asn)

abbrev actV (a : S50) : Value := .agg #[.int .i64 a.f0, .int .i64 a.f1, .int .i64 a.f2, .int .i64 a.f3.f0, .int .i64 a.f3.f1]
abbrev rangeV (o : S48) : Value := .agg #[.int .i64 o.f0, .int .i64 o.f1]

theorem near_self0 (p : S25) : nearB p p 0 = vldB p := by
  unfold nearB distB radB
  simp

set_option maxHeartbeats 1000000 in
theorem isRadio_any (a : S50) (p : S25) (w : World) : Calls Try.prog 45 #[actV a, .agg #[.int .i64 p.f0, .int .i64 p.f1]] w fun e w' => e = .returned (.bool (radioB a p)) ∧ Below w.heap.size w w' := by
  have H := fun w => near_any p p 0 w
  rw [near_self0] at H
  have fin : ∀ {b : Bool} {W : World}, Below ((w.alloc (.cells #[.int .i64 a.f0, .int .i64 a.f1, .int .i64 a.f2, .int .i64 a.f3.f0, .int .i64 a.f3.f1] 50)).alloc (.cells #[.int .i64 p.f0, .int .i64 p.f1] 25)).heap.size ((w.alloc (.cells #[.int .i64 a.f0, .int .i64 a.f1, .int .i64 a.f2, .int .i64 a.f3.f0, .int .i64 a.f3.f1] 50)).alloc (.cells #[.int .i64 p.f0, .int .i64 p.f1] 25)) W → Below w.heap.size w W := fun h => below_step (below_alloc (below_alloc (Below.refl _ _) _) _) h
  by_cases h0 : a.f0 = 0
  · have e : radioB a p = vldB p := by simp [radioB, h0]
    rw [e]
    have H0 : (a.f0 == 0) = true := by simp [h0]
    clear h0 e
    generalize vldB p = b at H ⊢
    go_enter Try.func45, Try.ntmps45
    go_wp2_with (first | (go_at_call 21; refine (H _).mono ?_; rintro e w' ⟨rfl, hb⟩))
    go_ret
    exact ⟨rfl, fin (b := b) hb⟩
  have H0 : (a.f0 == 0) = false := by simp [h0]
  by_cases h12 : a.f0 = 1 ∨ a.f0 = 2
  · by_cases hc : chanB a = true
    · have e : radioB a p = vldB p := by rcases h12 with h | h <;> simp [radioB, h, hc]
      rw [e]
      simp only [chanB, Bool.and_eq_true, decide_eq_true_eq] at hc
      obtain ⟨hc1, hc2⟩ := hc
      have hc1' : ¬ a.f1 < 0 := by omega
      have hc2' : ¬ a.f1 ≥ 16 := by omega
      clear e h0 hc1 hc2
      generalize vldB p = b at H ⊢
      rcases h12 with h | h
      · have H1 : (a.f0 == 1) = true := by simp [h]
        clear h
        go_enter Try.func45, Try.ntmps45
        go_wp2_with (first | (go_at_call 21; refine (H _).mono ?_; rintro e w' ⟨rfl, hb⟩))
        go_ret
        exact ⟨rfl, fin (b := b) hb⟩
      · have H1 : (a.f0 == 1) = false := by simp [h]
        have H2 : (a.f0 == 2) = true := by simp [h]
        clear h
        go_enter Try.func45, Try.ntmps45
        go_wp2_with (first | (go_at_call 21; refine (H _).mono ?_; rintro e w' ⟨rfl, hb⟩))
        go_ret
        exact ⟨rfl, fin (b := b) hb⟩
    · have e : radioB a p = false := by rw [Bool.not_eq_true] at hc; simp [radioB, h0, hc]
      rw [e]
      clear e h0
      rcases h12 with h | h
      · have H1 : (a.f0 == 1) = true := by simp [h]
        clear h
        by_cases hc1 : a.f1 < 0
        · clear hc
          go_enter Try.func45, Try.ntmps45
          go_wp2
          go_ret
          exact ⟨rfl, fin (b := true) (Below.refl _ _)⟩
        · have hc2 : a.f1 ≥ 16 := by simp only [chanB, Bool.and_eq_true, decide_eq_true_eq] at hc; omega
          clear hc
          go_enter Try.func45, Try.ntmps45
          go_wp2
          go_ret
          exact ⟨rfl, fin (b := true) (Below.refl _ _)⟩
      · have H1 : (a.f0 == 1) = false := by simp [h]
        have H2 : (a.f0 == 2) = true := by simp [h]
        clear h
        by_cases hc1 : a.f1 < 0
        · clear hc
          go_enter Try.func45, Try.ntmps45
          go_wp2
          go_ret
          exact ⟨rfl, fin (b := true) (Below.refl _ _)⟩
        · have hc2 : a.f1 ≥ 16 := by simp only [chanB, Bool.and_eq_true, decide_eq_true_eq] at hc; omega
          clear hc
          go_enter Try.func45, Try.ntmps45
          go_wp2
          go_ret
          exact ⟨rfl, fin (b := true) (Below.refl _ _)⟩
  · have e : radioB a p = false := by simp only [not_or] at h12; simp [radioB, h0, h12.1, h12.2]
    rw [e]
    have H1 : (a.f0 == 1) = false := by simp; exact fun h => h12 (.inl h)
    have H2 : (a.f0 == 2) = false := by simp; exact fun h => h12 (.inr h)
    clear e h0 h12
    go_enter Try.func45, Try.ntmps45
    go_wp2
    go_ret
    exact ⟨rfl, fin (b := true) (Below.refl _ _)⟩

set_option maxHeartbeats 1000000 in
theorem opens_any (s : Int) (o : S48) (w : World) : Calls Try.prog 52 #[.int .i64 s, rangeV o] w fun e w' => e = .returned (.bool (opensB s o)) ∧ Below w.heap.size w w' := by
  unfold opensB
  by_cases h1 : o.f0 ≤ s
  · rw [decide_eq_true h1, Bool.true_and]
    go_enter Try.func52, Try.ntmps52
    go_wp2
    go_ret
    exact ⟨rfl, below_alloc (Below.refl _ _) _⟩
  · rw [decide_eq_false h1, Bool.false_and]
    go_enter Try.func52, Try.ntmps52
    go_wp2
    go_ret
    exact ⟨rfl, below_alloc (Below.refl _ _) _⟩

abbrev airV (A0 : Option Addr) (n c0 : Nat) (A1 : Option Addr) (m c1 : Nat) (r : Int) : Value := .agg #[.slice A0 n c0, .slice A1 m c1, .int .i64 r]
set_option maxHeartbeats 1000000 in
/-- The maker of the iterator over those that are heard. -/
theorem heardM_any (A0 : Option Addr) (n c0 : Nat) (A1 : Option Addr) (m c1 : Nat) (r i : Int) (w : World) : Calls Try.prog 51 #[airV A0 n c0 A1 m c1 r, .int .i64 i] w fun e w' =>
    e = .returned (.func (.func 55) #[] #[.pointer (some ⟨w.heap.size, 0, none⟩), .pointer (some ⟨w.heap.size + 1, 0, none⟩)]) ∧ w' = (w.alloc (.cells #[.slice A0 n c0, .slice A1 m c1, .int .i64 r] 74)).alloc (.cells #[.int .i64 i] 3) := by
  go_enter Try.func51, Try.ntmps51
  go_wp2
  go_ret
  exact ⟨rfl, rfl⟩
end Go.Proofs.Ytcgbfkplhlngjaa.PA
