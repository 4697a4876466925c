-- Out of a text that print.sh wrote for this seat: what this claim does not use is left out.
import Derived.Test.YtbdennijmfgdpaaVPEx0
import Derived.Test.YtbdennijmfgdpaaVPEx1
import Derived.Test.YtbdennijmfgdpaaVPEx2
import Derived.Test.YtbdennijmfgdpaaVPEx3
import Derived.Test.YtbdennijmfgdpaaVPEx4
import Derived.Test.YtbdennijmfgdpaaVPEx5
import Derived.Test.YtbdennijmfgdpaaVPEx6
import Derived.Test.YtbdennijmfgdpaaVPEx7
import Derived.Test.YtbdennijmfgdpaaVPEx8
import Derived.Test.YtbdennijmfgdpaaVPEx9
import Derived.Test.YtbdennijmfgdpaaVPEx10
import Derived.Test.YtbdennijmfgdpaaVPEx11
import Derived.Test.YtbdennijmfgdpaaVPEx12
namespace Go.Proofs.Ytbdennijmfgdpaa.PE
open Go.RowKit Go.Proofs.YtbdennijmfgdpaaW.PrintWords Go.Proofs.YtbdennijmfgdpaaW.PrintLast Go.Proofs.YtbdennijmfgdpaaW.PrintMore
attribute [local go_sem] max2_int min2_int max_two min_two max_three min_three max_four min_four   -- for this text's walks alone
set_option linter.unusedVariables false
set_option linter.unusedSimpArgs false
end Go.Proofs.Ytbdennijmfgdpaa.PE
