-- Made by wip/hp/hp.py (the kit's print, with functions proved by hand put in).
import Derived.Test.YtnanhempikhknaaDx0
import Derived.Test.YtnanhempikhknaaDx1
import Derived.Test.YtnanhempikhknaaDx2
import Derived.Test.YtnanhempikhknaaDx3
import Derived.Test.YtnanhempikhknaaDx4
import Derived.Test.YtnanhempikhknaaDx5
import Derived.Test.YtnanhempikhknaaDx6
import Derived.Test.YtnanhempikhknaaDx7
import Derived.Test.YtnanhempikhknaaDx8
namespace Go.Proofs.Ytnanhempikhknaa.D
open Go.RowKit Go.Proofs.YtnanhempikhknaaW.PrintWords Go.Proofs.YtnanhempikhknaaW.PrintLast Go.Proofs.YtnanhempikhknaaW.PrintMore
attribute [local go_sem] max2_int min2_int max_two min_two max_three min_three max_four min_four   -- for this text's walks alone
set_option linter.unusedVariables false
set_option linter.unusedSimpArgs false

end Go.Proofs.Ytnanhempikhknaa.D
