-- Written by a program of this session (wip/tools/ext.py, over the kit's printer); not trusted: Lean checks it.
import Derived.Test.YtlfagipdhdcjlaaPGlobx0
import Derived.Test.YtlfagipdhdcjlaaPGlobx1
import Derived.Test.YtlfagipdhdcjlaaPGlobx2
import Derived.Test.YtlfagipdhdcjlaaPGlobx3
import Derived.Test.YtlfagipdhdcjlaaPGlobx4
import Derived.Test.YtlfagipdhdcjlaaPGlobx5
import Derived.Test.YtlfagipdhdcjlaaPGlobx6
namespace Go.Proofs.Ytlfagipdhdcjlaa.PGlob
open Go.RowKit Go.Proofs.YtlfagipdhdcjlaaW.PrintWords Go.Proofs.YtlfagipdhdcjlaaW.PrintLast Go.Proofs.YtlfagipdhdcjlaaW.PrintMore
attribute [local go_sem] max2_int min2_int max_two min_two max_three min_three max_four min_four   -- for this text's walks alone
set_option linter.unusedVariables false
set_option linter.unusedSimpArgs false

end Go.Proofs.Ytlfagipdhdcjlaa.PGlob
