/- That the library's search in plane.Hears tells whether one of the places is not valid. -/
import Derived.Test.YtcgbfkplhlngjaaJam
namespace Go.Proofs.Ytcgbfkplhlngjaa.PA
open Go.RowKit Go.Shelf Go.Proofs.YtcgbfkplhlngjaaW.PrintWords Go.Proofs.YtcgbfkplhlngjaaW.PrintLast Go.Proofs.YtcgbfkplhlngjaaW.PrintMore
set_option linter.unusedVariables false
set_option linter.unusedSimpArgs false

abbrev placeV (p : S25) : Value := .agg #[.int .i64 p.f0, .int .i64 p.f1]
def badB (p : S25) : Bool := !vldB p

set_option maxHeartbeats 1000000 in
/-- The closure of plane.Hears. -/
theorem badPlace_any (p : S25) (w : World) : Calls Try.prog 37 #[placeV p] w fun e w' => e = .returned (.bool (badB p)) ∧ Below w.heap.size w w' := by
  have H := fun w => isPlace_any p w
  unfold badB
  generalize vldB p = b at H ⊢
  go_enter Try.func37, Try.ntmps37
  go_wp2_with (first | (go_at_call 38; refine (H _).mono ?_; rintro e w' ⟨rfl, hb⟩))
  go_ret
  exact ⟨rfl, below_step (below_alloc (Below.refl _ _) _) hb⟩

def badAt (l : List S25) (i : Nat) : Bool := badB (l.getD i z25)
theorem anyP_of_at {l : List S25} {k : Nat} (hk : k < l.length) (h : badAt l k = true) : (l.any badB) = true := by
  rw [List.any_eq_true]
  refine ⟨l[k], List.getElem_mem hk, ?_⟩
  simpa [badAt, List.getD_eq_getElem?_getD, hk] using h
theorem anyP_none {l : List S25} (h : ∀ k, k < l.length → badAt l k = false) : (l.any badB) = false := by
  rw [List.any_eq_false]
  intro x hx
  obtain ⟨k, hk, rfl⟩ := List.getElem_of_mem hx
  have := h k hk
  simpa [badAt, List.getD_eq_getElem?_getD, hk] using this
abbrev badF : Value := .func (.func 37) #[] #[]

set_option maxHeartbeats 2000000 in
/-- slices.IndexFunc over places: 0 or more just where one of them is not valid. -/
theorem indexP_any (A : Option Addr) (cp : Nat) (l : List S25) (w : World) (hr : Kd.C k25 w A l.length l) (hc : l.length ≤ cp) :
    Calls Try.prog 48 #[.slice A l.length cp, badF] w fun e w' => IdxP (l.any badB) e ∧ Below w.heap.size w w' := by
  have eg := enters_of (P := Try.prog) Try.func37 (by kernel_rfl) rfl
  have HR := Aside0.mk hr
  have HC := Aside0.mk hc
  clear hr hc
  go_enter Try.func48, Try.ntmps48
  go_wp2
  go_loopg [5, 8] l.length (fun gg _ s8 wr => ∃ kk : Nat, kk ≤ l.length ∧ l.length - kk ≤ gg ∧ s8 = .int .i64 kk ∧ Aside0 (Below w.heap.size w wr) ∧ Aside0 (∀ j, j < kk → badAt l j = false))
  case atStart => exact ⟨0, Nat.zero_le _, by omega, rfl, ⟨Below.refl _ w⟩, ⟨fun j hj => absurd hj (Nat.not_lt_zero _)⟩⟩
  case round =>
    obtain ⟨kk, hkk, hg, rfl, BW, A0⟩ := hrel
    by_cases hlt : kk < l.length
    · have hltz : (kk : Int) < (l.length : Int) := by omega
      have hk0 : (0 : Int) ≤ (kk : Int) := by omega
      obtain ⟨ad, e, c0, c1⟩ := at_T25 (Kd.C_below HR.out BW.out) (kk : Int) hk0 hltz
      subst e
      have hbig := HR.out.2.1
      have hcall := badPlace_any (rd_T25 l kk) wr
      have B : Aside0 (badAt l kk = badB (rd_T25 l kk)) := ⟨by simp [badAt, rd_T25]⟩
      simp only [Int.toNat_natCast] at c0 c1
      generalize rd_T25 l kk = y at c0 c1 hcall B
      cases hq : badB y with
      | true =>
        rw [hq] at hcall
        rw [hq] at B
        clear hq
        go_wp2_with (go_at_call 37; refine hcall.mono ?_; rintro e w' ⟨rfl, hb'⟩)
        go_ret
        exact ⟨⟨(kk : Int), rfl, fun _ => anyP_of_at hlt B.out, fun _ => by omega⟩, below_step BW.out hb'⟩
      | false =>
        rw [hq] at hcall
        rw [hq] at B
        clear hq
        go_wp2_with (go_at_call 37; refine hcall.mono ?_; rintro e w' ⟨rfl, hb'⟩)
        go_roundg (l.length - (kk + 1))
        case measure => omega
        case rel =>
          refine ⟨kk + 1, by omega, by omega, by go_num, ⟨below_step BW.out hb'⟩, ⟨fun j hj => ?_⟩⟩
          by_cases e : j = kk
          · subst e
            exact B.out
          · exact A0.out j (by omega)
    · have hltz : ¬ (kk : Int) < (l.length : Int) := by omega
      obtain rfl : kk = l.length := by omega
      go_wp2
      go_ret
      exact ⟨⟨-1, rfl, fun h => by omega, fun h => by rw [anyP_none A0.out] at h; cases h⟩, BW.out⟩

set_option maxHeartbeats 1000000 in
/-- slices.ContainsFunc over places. -/
theorem containsP_any (A : Option Addr) (cp : Nat) (l : List S25) (w : World) (hr : Kd.C k25 w A l.length l) (hc : l.length ≤ cp) :
    Calls Try.prog 36 #[.slice A l.length cp, badF] w fun e w' => e = .returned (.bool (l.any badB)) ∧ Below w.heap.size w w' := by
  have H := indexP_any A cp l w hr hc
  clear hr hc
  generalize hb : (l.any badB) = b at H ⊢
  clear hb
  go_enter Try.func36, Try.ntmps36
  go_wp2_with (go_at_call 48; refine H.mono ?_; rintro e w' ⟨⟨i, rfl, hi⟩, hb'⟩; have HI := Aside0.mk hi; clear hi)
  go_ret
  refine ⟨ret_bool ?_, hb'⟩
  have := HI.out
  rw [Bool.eq_iff_iff, ← this]
  simp

/-- The maker of the pairs' iterator. -/
theorem pairs_any (n : Int) (w : World) : Calls Try.prog 39 #[.int .i64 n] w fun e w' => e = .returned (.func (.func 49) #[] #[.pointer (some ⟨w.heap.size, 0, none⟩)]) ∧ w' = w.alloc (.cells #[.int .i64 n] 3) := by
  go_enter Try.func39, Try.ntmps39
  go_wp2
  go_ret
  exact ⟨rfl, rfl⟩
end Go.Proofs.Ytcgbfkplhlngjaa.PA
