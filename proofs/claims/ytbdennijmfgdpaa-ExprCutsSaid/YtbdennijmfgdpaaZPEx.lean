-- Out of a text that print.sh wrote for this seat: what this claim does not use is left out.
import Derived.Test.YtbdennijmfgdpaaZPEx0
import Derived.Test.YtbdennijmfgdpaaZPEx1
import Derived.Test.YtbdennijmfgdpaaZPEx2
import Derived.Test.YtbdennijmfgdpaaZPEx3
import Derived.Test.YtbdennijmfgdpaaZPEx4
import Derived.Test.YtbdennijmfgdpaaZPEx5
import Derived.Test.YtbdennijmfgdpaaZPEx6
import Derived.Test.YtbdennijmfgdpaaZPEx7
import Derived.Test.YtbdennijmfgdpaaZPEx8
import Derived.Test.YtbdennijmfgdpaaZPEx9
import Derived.Test.YtbdennijmfgdpaaZPEx10
import Derived.Test.YtbdennijmfgdpaaZPEx11
import Derived.Test.YtbdennijmfgdpaaZPEx12
namespace Go.Proofs.Ytbdennijmfgdpaa.PE
open Go.RowKit Go.Proofs.YtbdennijmfgdpaaW.PrintWords Go.Proofs.YtbdennijmfgdpaaW.PrintLast Go.Proofs.YtbdennijmfgdpaaW.PrintMore
attribute [local go_sem] max2_int min2_int max_two min_two max_three min_three max_four min_four   -- for this text's walks alone
set_option linter.unusedVariables false
set_option linter.unusedSimpArgs false
end Go.Proofs.Ytbdennijmfgdpaa.PE
