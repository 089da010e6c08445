-- Written by a program of this session (wip/myprint in its repo: the kit's print with additions of its own).
import Derived.Test.YtolfnlamknmeaaaMDiffSystemsx0
import Derived.Test.YtolfnlamknmeaaaMDiffSystemsx1
import Derived.Test.YtolfnlamknmeaaaMDiffSystemsx2
import Derived.Test.YtolfnlamknmeaaaMDiffSystemsx3
import Derived.Test.YtolfnlamknmeaaaMDiffSystemsx4
import Derived.Test.YtolfnlamknmeaaaMDiffSystemsx5
import Derived.Test.YtolfnlamknmeaaaMDiffSystemsx6
import Derived.Test.YtolfnlamknmeaaaMDiffSystemsx7
namespace Go.Proofs.Ytolfnlamknmeaaa.MDiffSystems
open Go.RowKit Go.Proofs.YtolfnlamknmeaaaW.PrintWords Go.Proofs.YtolfnlamknmeaaaW.PrintLast Go.Proofs.YtolfnlamknmeaaaW.PrintMore
attribute [local go_sem] max2_int min2_int max_two min_two max_three min_three max_four min_four   -- for this text's walks alone
set_option linter.unusedVariables false
set_option linter.unusedSimpArgs false

end Go.Proofs.Ytolfnlamknmeaaa.MDiffSystems
