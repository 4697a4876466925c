-- Out of a text that print.sh wrote for this seat: what this claim does not use is left out.
import Derived.Test.YtbdennijmfgdpaaYPEx0
import Derived.Test.YtbdennijmfgdpaaYPEx1
import Derived.Test.YtbdennijmfgdpaaYPEx2
import Derived.Test.YtbdennijmfgdpaaYPEx3
import Derived.Test.YtbdennijmfgdpaaYPEx4
import Derived.Test.YtbdennijmfgdpaaYPEx5
import Derived.Test.YtbdennijmfgdpaaYPEx6
import Derived.Test.YtbdennijmfgdpaaYPEx7
import Derived.Test.YtbdennijmfgdpaaYPEx8
import Derived.Test.YtbdennijmfgdpaaYPEx9
import Derived.Test.YtbdennijmfgdpaaYPEx10
import Derived.Test.YtbdennijmfgdpaaYPEx11
import Derived.Test.YtbdennijmfgdpaaYPEx12
namespace Go.Proofs.Ytbdennijmfgdpaa.PE
open Go.RowKit Go.Proofs.YtbdennijmfgdpaaW.PrintWords Go.Proofs.YtbdennijmfgdpaaW.PrintLast Go.Proofs.YtbdennijmfgdpaaW.PrintMore
attribute [local go_sem] max2_int min2_int max_two min_two max_three min_three max_four min_four   -- for this text's walks alone
set_option linter.unusedVariables false
set_option linter.unusedSimpArgs false
end Go.Proofs.Ytbdennijmfgdpaa.PE
