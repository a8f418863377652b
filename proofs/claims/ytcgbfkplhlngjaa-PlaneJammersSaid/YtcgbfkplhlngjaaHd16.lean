/- The head of the statements of package plane: a fixed example, true. -/
import Derived.Test.YtcgbfkplhlngjaaF17P
namespace Go.Proofs.Ytcgbfkplhlngjaa.PA
open Go.RowKit Go.Proofs.YtcgbfkplhlngjaaW.PrintWords Go.Proofs.YtcgbfkplhlngjaaW.PrintLast Go.Proofs.YtcgbfkplhlngjaaW.PrintMore

def slotmeshlaw16_head.f : Option Bool := some true
theorem head16_true : slotmeshlaw16_headP.f 20 = some true := by decide +kernel
theorem slotmeshlaw16_head.calls (r : Bool) (w : World) (h : slotmeshlaw16_head.f = some r) :
    Calls Try.prog 17 #[] w fun e w' => e = .returned (.bool r) ∧ Below w.heap.size w w' :=
  slotmeshlaw16_headP.calls 20 r w (head16_true.trans h)
end Go.Proofs.Ytcgbfkplhlngjaa.PA
