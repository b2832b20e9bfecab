-- Printed by a program of this session (wip/tools) over the kit's print: not trusted, Lean checks it.
import Derived.Test.YtfcenlhaepckoaaGreatDoorProg
import Derived.Test.YtfcenlhaepckoaaGreatDoorWWordsn4
import Derived.Test.YtfcenlhaepckoaaGreatDoorWLastn4
import Derived.Test.YtfcenlhaepckoaaGreatDoorWTabn4
import Derived.Test.YtfcenlhaepckoaaGreatDoorWApartn4
import Derived.Test.YtfcenlhaepckoaaGreatDoorWFootn4
import Derived.Test.YtfcenlhaepckoaaGreatDoorWKeptn4
import Derived.Test.YtfcenlhaepckoaaGreatDoorWSharen4
import Derived.Test.YtfcenlhaepckoaaGreatDoorWNn4
import Derived.Test.YtfcenlhaepckoaaGreatDoorWAtn4
import Derived.Test.YtfcenlhaepckoaaGreatDoorWRepsOnen4
import Derived.Test.YtfcenlhaepckoaaGreatDoorWGuardn4
import Derived.Test.YtfcenlhaepckoaaGreatDoorWNEvn4
import Derived.Test.YtfcenlhaepckoaaGreatDoorWMoren4
import Derived.Test.YtfcenlhaepckoaaGreatDoorQ0n4
import Derived.Test.YtfcenlhaepckoaaGreatDoorP0n4
import Derived.Test.YtfcenlhaepckoaaGreatDoorElibn4
import Derived.Test.YtfcenlhaepckoaaGreatDoorLibsn4
import Derived.Lib.Strings
import Derived.Lib.Repeat
import Derived.Lib.SlTrimSet
import Derived.Lib.Bytealg
import Derived.Laws.MathBits
import Derived.Lib.Atoi
import Derived.Lib.ItoaNum
namespace Go.Proofs.YtfcenlhaepckoaaGreatDoor.LNatDigits
set_option linter.all false
open Go.Proofs.YtfcenlhaepckoaaGreatDoor.P Go.Proofs.YtfcenlhaepckoaaGreatDoor.Q
open Go.RowKit Go.Proofs.YtfcenlhaepckoaaGreatDoorW.PrintWords Go.Proofs.YtfcenlhaepckoaaGreatDoorW.PrintLast Go.Proofs.YtfcenlhaepckoaaGreatDoorW.PrintMore
attribute [local go_sem] max2_int min2_int max_two min_two max_three min_three max_four min_four   -- for this text's walks alone
attribute [local go_sem] cell_after
set_option linter.unusedVariables false
set_option linter.unusedSimpArgs false

def errW : Option Int → Value
 | none => .nilIface
 | some c => .iface 0 (.int .i64 c)
theorem errW_none : errW none = .nilIface := rfl
theorem errW_some (c : Int) : errW (some c) = .iface 0 (.int .i64 c) := rfl

-- the values' own types

end Go.Proofs.YtfcenlhaepckoaaGreatDoor.LNatDigits
