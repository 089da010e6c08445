-- Written by a program of this session (wip/myprint in its repo: the kit's print with additions of its own).
import Derived.Test.YtolfnlamknmeaaaMDiffGreatestx0
import Derived.Test.YtolfnlamknmeaaaMDiffGreatestx1
import Derived.Test.YtolfnlamknmeaaaMDiffGreatestx2
import Derived.Test.YtolfnlamknmeaaaMDiffGreatestx3
import Derived.Test.YtolfnlamknmeaaaMDiffGreatestx4
import Derived.Test.YtolfnlamknmeaaaMDiffGreatestx5
import Derived.Test.YtolfnlamknmeaaaMDiffGreatestx6
namespace Go.Proofs.Ytolfnlamknmeaaa.MDiffGreatest
open Go.RowKit Go.Proofs.YtolfnlamknmeaaaW.PrintWords Go.Proofs.YtolfnlamknmeaaaW.PrintLast Go.Proofs.YtolfnlamknmeaaaW.PrintMore
attribute [local go_sem] max2_int min2_int max_two min_two max_three min_three max_four min_four   -- for this text's walks alone
set_option linter.unusedVariables false
set_option linter.unusedSimpArgs false

end Go.Proofs.Ytolfnlamknmeaaa.MDiffGreatest
