/- That a call of plane.Jammed tells whether one of the jammers disturbs the place: the method value is walked once, the library's search once. -/
import Derived.Test.YtcgbfkplhlngjaaD
import Derived.Shelf.Abstract
namespace Go.Proofs.Ytcgbfkplhlngjaa.PA
open Go.RowKit Go.Shelf Go.Proofs.YtcgbfkplhlngjaaW.PrintWords Go.Proofs.YtcgbfkplhlngjaaW.PrintLast Go.Proofs.YtcgbfkplhlngjaaW.PrintMore
set_option linter.unusedVariables false
set_option linter.unusedSimpArgs false

theorem ret_bool {a b : Bool} (h : a = b) : Ending.returned (.bool a) = .returned (.bool b) := by rw [h]
abbrev spotV (p : S25) (c asn : Int) : Value := .agg #[.int .i64 p.f0, .int .i64 p.f1, .int .i64 c, .int .i64 asn]
abbrev jamV (j : S42) : Value := .agg #[.int .i64 j.f0.f0, .int .i64 j.f0.f1, .int .i64 j.f1, .int .i64 j.f2, .int .i64 j.f3]
theorem jamB_no1 {j : S42} {p : S25} {c asn : Int} (h : ¬ j.f2 = c) : jamB j p c asn = false := by simp [jamB, h]
theorem jamB_no2 {j : S42} {p : S25} {c asn : Int} (h : ¬ asn < j.f3) : jamB j p c asn = false := by simp [jamB, h]
theorem jamB_yes {j : S42} {p : S25} {c asn : Int} (h : j.f2 = c) (h' : asn < j.f3) : jamB j p c asn = nearB j.f0 p j.f1 := by simp [jamB, h, h']

set_option maxHeartbeats 1000000 in
/-- The jammer's own test. -/
theorem isJam_any (j : S42) (p : S25) (c asn : Int) (w : World) :
    Calls Try.prog 41 #[spotV p c asn, jamV j] w fun e w' => e = .returned (.bool (jamB j p c asn)) ∧ Below w.heap.size w w' := by
  by_cases h1 : j.f2 = c
  · by_cases h2 : asn < j.f3
    · rw [jamB_yes h1 h2]
      have H1 : (j.f2 == c) = true := by simp [h1]
      clear h1
      go_enter Try.func41, Try.ntmps41
      go_wp2_with (first | (go_at_call 21; refine (near_any j.f0 p j.f1 _).mono ?_; rintro e w' ⟨rfl, hb⟩))
      go_ret
      exact ⟨rfl, below_step (below_alloc (below_alloc (Below.refl _ _) _) _) hb⟩
    · rw [jamB_no2 h2]
      have H1 : (j.f2 == c) = true := by simp [h1]
      clear h1
      go_enter Try.func41, Try.ntmps41
      go_wp2
      go_ret
      exact ⟨rfl, below_alloc (below_alloc (Below.refl _ _) _) _⟩
  · rw [jamB_no1 h1]
    have H1 : (j.f2 == c) = false := by simp [h1]
    clear h1
    go_enter Try.func41, Try.ntmps41
    go_wp2
    go_ret
    exact ⟨rfl, below_alloc (below_alloc (Below.refl _ _) _) _⟩

def jamAt (l : List S42) (p : S25) (c asn : Int) (i : Nat) : Bool := jamB (l.getD i z42) p c asn
theorem any_of_at {l : List S42} {p : S25} {c asn : Int} {k : Nat} (hk : k < l.length) (h : jamAt l p c asn k = true) : (l.any fun j => jamB j p c asn) = true := by
  rw [List.any_eq_true]
  refine ⟨l[k], List.getElem_mem hk, ?_⟩
  simpa [jamAt, List.getD_eq_getElem?_getD, hk] using h
theorem any_none {l : List S42} {p : S25} {c asn : Int} (h : ∀ k, k < l.length → jamAt l p c asn k = false) : (l.any fun j => jamB j p c asn) = false := by
  rw [List.any_eq_false]
  intro x hx
  obtain ⟨k, hk, rfl⟩ := List.getElem_of_mem hx
  have := h k hk
  simpa [jamAt, List.getD_eq_getElem?_getD, hk] using this
abbrev jamF (p : S25) (c asn : Int) : Value := .func (.func 41) #[spotV p c asn] #[]

/-- A number is handed back that is 0 or more just where b. -/
def IdxP (b : Bool) (e : Ending) : Prop := ∃ i : Int, e = .returned (.int .i64 i) ∧ ((0 ≤ i) ↔ b = true)

set_option maxHeartbeats 2000000 in
/-- slices.IndexFunc over jammers: 0 or more just where one of them disturbs. -/
theorem indexJ_any (A : Option Addr) (cp : Nat) (l : List S42) (p : S25) (c asn : Int) (w : World) (hr : Kd.C k42 w A l.length l) (hc : l.length ≤ cp) :
    Calls Try.prog 50 #[.slice A l.length cp, jamF p c asn] w fun e w' => IdxP (l.any fun j => jamB j p c asn) e ∧ Below w.heap.size w w' := by
  have eg := enters_of (P := Try.prog) Try.func41 (by kernel_rfl) rfl
  have HR := Aside0.mk hr
  have HC := Aside0.mk hc
  clear hr hc
  go_enter Try.func50, Try.ntmps50
  go_wp2
  go_loopg [5, 8] l.length (fun gg _ s8 wr => ∃ kk : Nat, kk ≤ l.length ∧ l.length - kk ≤ gg ∧ s8 = .int .i64 kk ∧ Aside0 (Below w.heap.size w wr) ∧ Aside0 (∀ j, j < kk → jamAt l p c asn j = false))
  case atStart => exact ⟨0, Nat.zero_le _, by omega, rfl, ⟨Below.refl _ w⟩, ⟨fun j hj => absurd hj (Nat.not_lt_zero _)⟩⟩
  case round =>
    obtain ⟨kk, hkk, hg, rfl, BW, A0⟩ := hrel
    by_cases hlt : kk < l.length
    · have hltz : (kk : Int) < (l.length : Int) := by omega
      have hk0 : (0 : Int) ≤ (kk : Int) := by omega
      obtain ⟨ad, e, c0, c1, c2, c3, c4⟩ := at_T42 (Kd.C_below HR.out BW.out) (kk : Int) hk0 hltz
      subst e
      have hbig := HR.out.2.1
      have hcall := isJam_any (rd_T42 l kk) p c asn wr
      have B : Aside0 (jamAt l p c asn kk = jamB (rd_T42 l kk) p c asn) := ⟨by simp [jamAt, rd_T42]⟩
      simp only [Int.toNat_natCast] at c0 c1 c2 c3 c4
      generalize rd_T42 l kk = y at c0 c1 c2 c3 c4 hcall B
      cases hq : jamB y p c asn with
      | true =>
        rw [hq] at hcall
        rw [hq] at B
        clear hq
        go_wp2_with (go_at_call 41; refine hcall.mono ?_; rintro e w' ⟨rfl, hb'⟩)
        go_ret
        exact ⟨⟨(kk : Int), rfl, fun _ => any_of_at hlt B.out, fun _ => by omega⟩, below_step BW.out hb'⟩
      | false =>
        rw [hq] at hcall
        rw [hq] at B
        clear hq
        go_wp2_with (go_at_call 41; refine hcall.mono ?_; rintro e w' ⟨rfl, hb'⟩)
        go_roundg (l.length - (kk + 1))
        case measure => omega
        case rel =>
          refine ⟨kk + 1, by omega, by omega, by go_num, ⟨below_step BW.out hb'⟩, ⟨fun j hj => ?_⟩⟩
          by_cases e : j = kk
          · subst e
            exact B.out
          · exact A0.out j (by omega)
    · have hltz : ¬ (kk : Int) < (l.length : Int) := by omega
      obtain rfl : kk = l.length := by omega
      go_wp2
      go_ret
      exact ⟨⟨-1, rfl, fun h => by omega, fun h => by rw [any_none A0.out] at h; cases h⟩, BW.out⟩

set_option maxHeartbeats 1000000 in
/-- slices.ContainsFunc over jammers. -/
theorem containsJ_any (A : Option Addr) (cp : Nat) (l : List S42) (p : S25) (c asn : Int) (w : World) (hr : Kd.C k42 w A l.length l) (hc : l.length ≤ cp) :
    Calls Try.prog 40 #[.slice A l.length cp, jamF p c asn] w fun e w' => e = .returned (.bool (l.any fun j => jamB j p c asn)) ∧ Below w.heap.size w w' := by
  have H := indexJ_any A cp l p c asn w hr hc
  clear hr hc
  generalize hb : (l.any fun j => jamB j p c asn) = b at H ⊢
  clear hb
  go_enter Try.func40, Try.ntmps40
  go_wp2_with (go_at_call 50; refine H.mono ?_; rintro e w' ⟨⟨i, rfl, hi⟩, hb'⟩; have HI := Aside0.mk hi; clear hi)
  go_ret
  refine ⟨ret_bool ?_, hb'⟩
  have := HI.out
  rw [Bool.eq_iff_iff, ← this]
  simp

/-- What plane.Jammed computes. -/
def plane_Jammed.f (l0 : List (S42)) (a1_0 : Int) (a1_1 : Int) (a2 : Int) (a3 : Int) : Option (Bool) := some (l0.any fun j => jamB j ⟨a1_0, a1_1⟩ a2 a3)
set_option maxHeartbeats 1000000 in
theorem plane_Jammed.calls (A0 : Option Addr) (c0 : Nat) (l0 : List (S42)) (a1_0 : Int) (a1_1 : Int) (a2 : Int) (a3 : Int) (r : Bool) (w : World) (hr0 : Kd.C k42 w A0 l0.length l0) (hc0 : l0.length ≤ c0) (h : plane_Jammed.f l0 a1_0 a1_1 a2 a3 = some r) :
    Calls Try.prog 23 #[.slice A0 l0.length c0, .agg #[.int .i64 a1_0, .int .i64 a1_1], .int .i64 a2, .int .i64 a3] w fun e w' => e = .returned (.bool r) ∧ Below w.heap.size w w' := by
  obtain rfl := Option.some.inj h
  clear h
  have H := fun w (hr : Kd.C k42 w A0 l0.length l0) => containsJ_any A0 c0 l0 ⟨a1_0, a1_1⟩ a2 a3 w hr hc0
  have HR := Aside0.mk hr0
  clear hr0 hc0
  generalize hb : (l0.any fun j => jamB j ⟨a1_0, a1_1⟩ a2 a3) = b at H ⊢
  clear hb
  go_enter Try.func23, Try.ntmps23
  go_wp2_with (go_at_call 40; refine (H _ (Kd.C_alloc HR.out _)).mono ?_; rintro e w' ⟨rfl, hb'⟩)
  go_ret
  exact ⟨rfl, below_step (below_alloc (Below.refl _ _) _) hb'⟩
end Go.Proofs.Ytcgbfkplhlngjaa.PA
