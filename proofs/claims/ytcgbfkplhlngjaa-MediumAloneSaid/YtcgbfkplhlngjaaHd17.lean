/- The head of the statements of package medium: a fixed example, true. -/
import Derived.Test.YtcgbfkplhlngjaaF27P
namespace Go.Proofs.Ytcgbfkplhlngjaa.PA
open Go.RowKit Go.Proofs.YtcgbfkplhlngjaaW.PrintWords Go.Proofs.YtcgbfkplhlngjaaW.PrintLast Go.Proofs.YtcgbfkplhlngjaaW.PrintMore

def slotmeshlaw17_head.f : Option Bool := some true
theorem head17_true : slotmeshlaw17_headP.f 20 = some true := by decide +kernel
theorem slotmeshlaw17_head.calls (r : Bool) (w : World) (h : slotmeshlaw17_head.f = some r) :
    Calls Try.prog 27 #[] w fun e w' => e = .returned (.bool r) ∧ Below w.heap.size w w' :=
  slotmeshlaw17_headP.calls 20 r w (head17_true.trans h) (Option.some.inj h).symm
end Go.Proofs.Ytcgbfkplhlngjaa.PA
