/- What each Go function named in this text computes, as a Lean function, and that the Go code comes to it; conditions: those in each theorem. (Lines written by this session's program.) -/
import Derived.Test.YtfholpajdkjbbaaQcPDx0
import Derived.Test.YtfholpajdkjbbaaQcPDx2
import Derived.Test.YtfholpajdkjbbaaQcPDx10
namespace Go.Proofs.Ytfholpajdkjbbaa.PD
open Go.RowKit Go.Proofs.YtfholpajdkjbbaaW.PrintWords Go.Proofs.YtfholpajdkjbbaaW.PrintLast Go.Proofs.YtfholpajdkjbbaaW.PrintMore
attribute [local go_sem] max2_int min2_int max_two min_two max_three min_three max_four min_four   -- for this text's walks alone
set_option linter.unusedVariables false
set_option linter.unusedSimpArgs false
/-! ### eddylaw10_named: function 35 -/
end Go.Proofs.Ytfholpajdkjbbaa.PD
