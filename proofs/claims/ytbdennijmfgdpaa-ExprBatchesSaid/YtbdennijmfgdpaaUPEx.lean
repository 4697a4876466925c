-- Out of a text that print.sh wrote for this seat: what this claim does not use is left out.
import Derived.Test.YtbdennijmfgdpaaUPEx0
import Derived.Test.YtbdennijmfgdpaaUPEx1
import Derived.Test.YtbdennijmfgdpaaUPEx2
import Derived.Test.YtbdennijmfgdpaaUPEx3
import Derived.Test.YtbdennijmfgdpaaUPEx4
import Derived.Test.YtbdennijmfgdpaaUPEx5
import Derived.Test.YtbdennijmfgdpaaUPEx6
import Derived.Test.YtbdennijmfgdpaaUPEx7
import Derived.Test.YtbdennijmfgdpaaUPEx8
import Derived.Test.YtbdennijmfgdpaaUPEx9
import Derived.Test.YtbdennijmfgdpaaUPEx10
import Derived.Test.YtbdennijmfgdpaaUPEx11
import Derived.Test.YtbdennijmfgdpaaUPEx12
namespace Go.Proofs.Ytbdennijmfgdpaa.PE
open Go.RowKit Go.Proofs.YtbdennijmfgdpaaW.PrintWords Go.Proofs.YtbdennijmfgdpaaW.PrintLast Go.Proofs.YtbdennijmfgdpaaW.PrintMore
attribute [local go_sem] max2_int min2_int max_two min_two max_three min_three max_four min_four   -- for this text's walks alone
set_option linter.unusedVariables false
set_option linter.unusedSimpArgs false
end Go.Proofs.Ytbdennijmfgdpaa.PE
