-- Written by a program of this session (wip/myprint in its repo: the kit's print with additions of its own).
import Derived.Test.YtgoefoilghjfhaaMEvalSubstitutesx0
import Derived.Test.YtgoefoilghjfhaaMEvalSubstitutesx1
import Derived.Test.YtgoefoilghjfhaaMEvalSubstitutesx2
import Derived.Test.YtgoefoilghjfhaaMEvalSubstitutesx3
import Derived.Test.YtgoefoilghjfhaaMEvalSubstitutesx4
import Derived.Test.YtgoefoilghjfhaaMEvalSubstitutesx5
import Derived.Test.YtgoefoilghjfhaaMEvalSubstitutesx6
namespace Go.Proofs.Ytgoefoilghjfhaa.MEvalSubstitutes
open Go.RowKit Go.Proofs.YtgoefoilghjfhaaW.PrintWords Go.Proofs.YtgoefoilghjfhaaW.PrintLast Go.Proofs.YtgoefoilghjfhaaW.PrintMore
attribute [local go_sem] max2_int min2_int max_two min_two max_three min_three max_four min_four   -- for this text's walks alone
set_option linter.unusedVariables false
set_option linter.unusedSimpArgs false

end Go.Proofs.Ytgoefoilghjfhaa.MEvalSubstitutes
