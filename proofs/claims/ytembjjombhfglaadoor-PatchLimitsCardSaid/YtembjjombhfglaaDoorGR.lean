import Derived.Test.YtembjjombhfglaaDoorGR0
import Derived.Test.YtembjjombhfglaaDoorGR1
import Derived.Test.YtembjjombhfglaaDoorGR2
namespace Go.Proofs.YtembjjombhfglaaDoor.GR
open Go.RowKit Go.Proofs.YtembjjombhfglaaDoorW.PrintWords Go.Proofs.YtembjjombhfglaaDoorW.PrintLast Go.Proofs.YtembjjombhfglaaDoorW.PrintMore
attribute [local go_sem] max2_int min2_int max_two min_two max_three min_three max_four min_four
set_option linter.unusedVariables false
set_option linter.unusedSimpArgs false
end Go.Proofs.YtembjjombhfglaaDoor.GR
