/- What PlaneJammers computes, as Lean functions (made in the manner of the print); and once false, always false. -/
import Derived.Test.YtcgbfkplhlngjaaT0
import Derived.Test.YtcgbfkplhlngjaaF21
import Derived.Test.YtcgbfkplhlngjaaHd16
import Derived.Test.YtcgbfkplhlngjaaJam
namespace Go.Proofs.Ytcgbfkplhlngjaa.PA
open Go.RowKit Go.Proofs.YtcgbfkplhlngjaaW.PrintWords Go.Proofs.YtcgbfkplhlngjaaW.PrintLast Go.Proofs.YtcgbfkplhlngjaaW.PrintMore
attribute [local go_sem] max2_int min2_int max_two min_two max_three min_three max_four min_four   -- for this text's walks alone
set_option linter.unusedVariables false
set_option linter.unusedSimpArgs false

/-! ### slotmeshlaw16_PlaneJammers: function 11 -/
def slotmeshlaw16_PlaneJammers.l0 : Nat → List (S42) → Int → Int → Bool → Bool → Int → Int → Int → Option (Bool)
  | 0, _, _, _, _, _, _, _, _ => none
  | k + 1, x0, x2, x3, x9, x10, x11, x368000, x368001 => if x11 < (x0.length : Int) then (if 0 ≤ x11 then (if x11 ≤ (wrap64 (x11 + 1)) then (if (wrap64 (x11 + 1)) ≤ (x0.length : Int) then ((plane_Jammed.f ((x0.take ((wrap64 (x11 + 1)) : Int).toNat).drop (x11 : Int).toNat) x368000 x368001 x2 x3).bind fun t373 => (if x10 = true then (if x9 = true then (if t373 = true then (if ((rd_T42 x0 x11).f2) = x2 then (if x3 < ((rd_T42 x0 x11).f3) then ((plane_Near.f ((rd_T42 x0 x11).f0.f0) ((rd_T42 x0 x11).f0.f1) x368000 x368001 ((rd_T42 x0 x11).f1)).bind fun t378 => (slotmeshlaw16_PlaneJammers.l0 k x0 x2 x3 t378 true (wrap64 (x11 + 1)) x368000 x368001)) else (slotmeshlaw16_PlaneJammers.l0 k x0 x2 x3 false true (wrap64 (x11 + 1)) x368000 x368001)) else (slotmeshlaw16_PlaneJammers.l0 k x0 x2 x3 false true (wrap64 (x11 + 1)) x368000 x368001)) else (slotmeshlaw16_PlaneJammers.l0 k x0 x2 x3 true true (wrap64 (x11 + 1)) x368000 x368001)) else (slotmeshlaw16_PlaneJammers.l0 k x0 x2 x3 false true (wrap64 (x11 + 1)) x368000 x368001)) else (if x9 = true then (if t373 = true then (if ((rd_T42 x0 x11).f2) = x2 then (if x3 < ((rd_T42 x0 x11).f3) then ((plane_Near.f ((rd_T42 x0 x11).f0.f0) ((rd_T42 x0 x11).f0.f1) x368000 x368001 ((rd_T42 x0 x11).f1)).bind fun t383 => (slotmeshlaw16_PlaneJammers.l0 k x0 x2 x3 t383 t373 (wrap64 (x11 + 1)) x368000 x368001)) else (slotmeshlaw16_PlaneJammers.l0 k x0 x2 x3 false t373 (wrap64 (x11 + 1)) x368000 x368001)) else (slotmeshlaw16_PlaneJammers.l0 k x0 x2 x3 false t373 (wrap64 (x11 + 1)) x368000 x368001)) else (slotmeshlaw16_PlaneJammers.l0 k x0 x2 x3 true t373 (wrap64 (x11 + 1)) x368000 x368001)) else (slotmeshlaw16_PlaneJammers.l0 k x0 x2 x3 false t373 (wrap64 (x11 + 1)) x368000 x368001)))) else (none)) else (none)) else (none)) else (if x9 = true then ((plane_Jammed.f x0 x368000 x368001 x2 x3).bind fun t384 => (some (t384 == x10))) else (some false))
def slotmeshlaw16_PlaneJammers.f (k : Nat) (l0 : List (S42)) (a1_0 : Int) (a1_1 : Int) (a2 : Int) (a3 : Int) : Option (Bool) := (slotmeshlaw16_head.f).bind fun t368 => (if (l0.length : Int) > 30 then (some t368) else (slotmeshlaw16_PlaneJammers.l0 k l0 a2 a3 t368 false 0 a1_0 a1_1))
theorem jam_dead : ∀ k l c a s i x y b, slotmeshlaw16_PlaneJammers.l0 k l c a false s i x y = some b → b = false
  | 0, _, _, _, _, _, _, _, _, h => by simp [slotmeshlaw16_PlaneJammers.l0] at h
  | k + 1, l, c, a, s, i, x, y, b, h => by
    simp only [slotmeshlaw16_PlaneJammers.l0, Bool.false_eq_true, if_false] at h
    split at h
    · split at h
      · split at h
        · split at h
          · obtain ⟨t, _, h⟩ := Option.bind_eq_some_iff.1 h
            split at h
            · exact jam_dead k _ _ _ _ _ _ _ _ h
            · exact jam_dead k _ _ _ _ _ _ _ _ h
          · cases h
        · cases h
      · cases h
    · exact (Option.some.inj h).symm
theorem jam_dead_l {G : Prop} {k : Nat} {l : List S42} {c a i x y : Int} {s b : Bool} (h : slotmeshlaw16_PlaneJammers.l0 k l c a false s i x y = some b) (hr : Aside0 (b = true)) : G := by
  have := jam_dead _ _ _ _ _ _ _ _ _ h
  rw [hr.out] at this
  cases this
end Go.Proofs.Ytcgbfkplhlngjaa.PA
