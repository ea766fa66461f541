/- One disk: does; conditions: those in each theorem. -/
import Derived.Test.YtfholpajdkjbbaaQeLh
namespace Go.Proofs.Ytfholpajdkjbbaa.DK
open Go.Proofs.Ytfholpajdkjbbaa.PD
open Go.RowKit Go.Proofs.YtfholpajdkjbbaaW.PrintWords Go.Proofs.YtfholpajdkjbbaaW.PrintLast Go.Proofs.YtfholpajdkjbbaaW.PrintMore Go.Proofs.Ytfholpajdkjbbaa.Mo
set_option linter.unusedVariables false
set_option linter.unusedSimpArgs false
theorem PStep.early {w w1 w' : World} {p : Nat} {X : Nat → Prop} {s s' : St} (h : Prog w p X s) (hb : Below w.heap.size w w1) (hs : PStep p X w1 w' s') : PStep p X w w' s' := (PStep.below h hb).trans (hs.more_ hb.size)
end Go.Proofs.Ytfholpajdkjbbaa.DK
