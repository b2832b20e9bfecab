-- Printed by a program of this session (wip/tools) over the kit's print: not trusted, Lean checks it.
import Derived.Test.YtfcenlhaepckoaaDoorProg
import Derived.Test.YtfcenlhaepckoaaDoorWWordsn5
import Derived.Test.YtfcenlhaepckoaaDoorWLastn5
import Derived.Test.YtfcenlhaepckoaaDoorWTabn5
import Derived.Test.YtfcenlhaepckoaaDoorWApartn5
import Derived.Test.YtfcenlhaepckoaaDoorWFootn5
import Derived.Test.YtfcenlhaepckoaaDoorWKeptn5
import Derived.Test.YtfcenlhaepckoaaDoorWSharen5
import Derived.Test.YtfcenlhaepckoaaDoorWNn5
import Derived.Test.YtfcenlhaepckoaaDoorWAtn5
import Derived.Test.YtfcenlhaepckoaaDoorWRepsOnen5
import Derived.Test.YtfcenlhaepckoaaDoorWGuardn5
import Derived.Test.YtfcenlhaepckoaaDoorWNEvn5
import Derived.Test.YtfcenlhaepckoaaDoorWMoren5
import Derived.Test.YtfcenlhaepckoaaDoorQ0n5
import Derived.Test.YtfcenlhaepckoaaDoorP0n5
import Derived.Test.YtfcenlhaepckoaaDoorElibn5
import Derived.Test.YtfcenlhaepckoaaDoorLibsn5
import Derived.Lib.Strings
import Derived.Lib.Repeat
import Derived.Lib.SlTrimSet
import Derived.Lib.Bytealg
import Derived.Laws.MathBits
import Derived.Lib.Atoi
import Derived.Lib.ItoaNum
namespace Go.Proofs.YtfcenlhaepckoaaDoor.LNatRings
set_option linter.all false
open Go.Proofs.YtfcenlhaepckoaaDoor.P Go.Proofs.YtfcenlhaepckoaaDoor.Q
open Go.RowKit Go.Proofs.YtfcenlhaepckoaaDoorW.PrintWords Go.Proofs.YtfcenlhaepckoaaDoorW.PrintLast Go.Proofs.YtfcenlhaepckoaaDoorW.PrintMore
attribute [local go_sem] max2_int min2_int max_two min_two max_three min_three max_four min_four   -- for this text's walks alone
attribute [local go_sem] cell_after
set_option linter.unusedVariables false
set_option linter.unusedSimpArgs false

def errW : Option Int → Value
 | none => .nilIface
 | some c => .iface 0 (.int .i64 c)
theorem errW_none : errW none = .nilIface := rfl
theorem errW_some (c : Int) : errW (some c) = .iface 0 (.int .i64 c) := rfl

-- the values' own types

end Go.Proofs.YtfcenlhaepckoaaDoor.LNatRings
