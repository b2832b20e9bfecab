-- Printed by a program of this session (wip/tools) over the kit's print: not trusted, Lean checks it.
import Derived.Test.YtfcenlhaepckoaaGreatDoorProg
import Derived.Test.YtfcenlhaepckoaaGreatDoorWWordsn1
import Derived.Test.YtfcenlhaepckoaaGreatDoorWLastn1
import Derived.Test.YtfcenlhaepckoaaGreatDoorWTabn1
import Derived.Test.YtfcenlhaepckoaaGreatDoorWApartn1
import Derived.Test.YtfcenlhaepckoaaGreatDoorWFootn1
import Derived.Test.YtfcenlhaepckoaaGreatDoorWKeptn1
import Derived.Test.YtfcenlhaepckoaaGreatDoorWSharen1
import Derived.Test.YtfcenlhaepckoaaGreatDoorWNn1
import Derived.Test.YtfcenlhaepckoaaGreatDoorWAtn1
import Derived.Test.YtfcenlhaepckoaaGreatDoorWRepsOnen1
import Derived.Test.YtfcenlhaepckoaaGreatDoorWGuardn1
import Derived.Test.YtfcenlhaepckoaaGreatDoorWNEvn1
import Derived.Test.YtfcenlhaepckoaaGreatDoorWMoren1
import Derived.Test.YtfcenlhaepckoaaGreatDoorQ0n1
import Derived.Test.YtfcenlhaepckoaaGreatDoorP0n1
import Derived.Test.YtfcenlhaepckoaaGreatDoorElibn1
import Derived.Test.YtfcenlhaepckoaaGreatDoorLibsn1
import Derived.Lib.Strings
import Derived.Lib.Repeat
import Derived.Lib.SlTrimSet
import Derived.Lib.Bytealg
import Derived.Laws.MathBits
import Derived.Lib.Atoi
import Derived.Lib.ItoaNum
namespace Go.Proofs.YtfcenlhaepckoaaGreatDoor.LNatWords
set_option linter.all false
open Go.Proofs.YtfcenlhaepckoaaGreatDoor.P Go.Proofs.YtfcenlhaepckoaaGreatDoor.Q
open Go.RowKit Go.Proofs.YtfcenlhaepckoaaGreatDoorW.PrintWords Go.Proofs.YtfcenlhaepckoaaGreatDoorW.PrintLast Go.Proofs.YtfcenlhaepckoaaGreatDoorW.PrintMore
attribute [local go_sem] max2_int min2_int max_two min_two max_three min_three max_four min_four   -- for this text's walks alone
attribute [local go_sem] cell_after
set_option linter.unusedVariables false
set_option linter.unusedSimpArgs false

def errW : Option Int → Value
  | none => .nilIface
  | some c => .iface 0 (.int .i64 c)
theorem errW_none : errW none = .nilIface := rfl
theorem errW_some (c : Int) : errW (some c) = .iface 0 (.int .i64 c) := rfl

-- the values' own types

end Go.Proofs.YtfcenlhaepckoaaGreatDoor.LNatWords
