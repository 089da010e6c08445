-- Written by a program of this session (wip/myprint in its repo: the kit's print with additions of its own).
import Derived.Test.YtolfnlamknmeaaaMDiffFollowsx0
import Derived.Test.YtolfnlamknmeaaaMDiffFollowsx1
import Derived.Test.YtolfnlamknmeaaaMDiffFollowsx2
import Derived.Test.YtolfnlamknmeaaaMDiffFollowsx3
import Derived.Test.YtolfnlamknmeaaaMDiffFollowsx4
import Derived.Test.YtolfnlamknmeaaaMDiffFollowsx5
namespace Go.Proofs.Ytolfnlamknmeaaa.MDiffFollows
open Go.RowKit Go.Proofs.YtolfnlamknmeaaaW.PrintWords Go.Proofs.YtolfnlamknmeaaaW.PrintLast Go.Proofs.YtolfnlamknmeaaaW.PrintMore
attribute [local go_sem] max2_int min2_int max_two min_two max_three min_three max_four min_four   -- for this text's walks alone
set_option linter.unusedVariables false
set_option linter.unusedSimpArgs false

end Go.Proofs.Ytolfnlamknmeaaa.MDiffFollows
