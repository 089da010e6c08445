-- Written by a program of this session (wip/myprint in its repo: the kit's print with additions of its own).
import Derived.Test.YtgoefoilghjfhaaMEvalExprTellsx0
import Derived.Test.YtgoefoilghjfhaaMEvalExprTellsx1
import Derived.Test.YtgoefoilghjfhaaMEvalExprTellsx2
import Derived.Test.YtgoefoilghjfhaaMEvalExprTellsx3
import Derived.Test.YtgoefoilghjfhaaMEvalExprTellsx4
import Derived.Test.YtgoefoilghjfhaaMEvalExprTellsx5
namespace Go.Proofs.Ytgoefoilghjfhaa.MEvalExprTells
open Go.RowKit Go.Proofs.YtgoefoilghjfhaaW.PrintWords Go.Proofs.YtgoefoilghjfhaaW.PrintLast Go.Proofs.YtgoefoilghjfhaaW.PrintMore
attribute [local go_sem] max2_int min2_int max_two min_two max_three min_three max_four min_four   -- for this text's walks alone
set_option linter.unusedVariables false
set_option linter.unusedSimpArgs false

end Go.Proofs.Ytgoefoilghjfhaa.MEvalExprTells
