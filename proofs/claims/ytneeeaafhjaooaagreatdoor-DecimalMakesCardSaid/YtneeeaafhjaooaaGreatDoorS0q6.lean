-- Printed by a program of this session (wip/tools) over the kit's print: not trusted, Lean checks it.
import Derived.Test.YtneeeaafhjaooaaGreatDoorProg
import Derived.Test.YtneeeaafhjaooaaGreatDoorWWordsq6
import Derived.Test.YtneeeaafhjaooaaGreatDoorWLastq6
import Derived.Test.YtneeeaafhjaooaaGreatDoorWTabq6
import Derived.Test.YtneeeaafhjaooaaGreatDoorWApartq6
import Derived.Test.YtneeeaafhjaooaaGreatDoorWFootq6
import Derived.Test.YtneeeaafhjaooaaGreatDoorWKeptq6
import Derived.Test.YtneeeaafhjaooaaGreatDoorWShareq6
import Derived.Test.YtneeeaafhjaooaaGreatDoorWNq6
import Derived.Test.YtneeeaafhjaooaaGreatDoorWEqStructq6
import Derived.Test.YtneeeaafhjaooaaGreatDoorWRepsOneq6
import Derived.Test.YtneeeaafhjaooaaGreatDoorWGuardq6
import Derived.Test.YtneeeaafhjaooaaGreatDoorWMoreq6
import Derived.Test.YtneeeaafhjaooaaGreatDoorP0q6
import Derived.Test.YtneeeaafhjaooaaGreatDoorElibq6
import Derived.Test.YtneeeaafhjaooaaGreatDoorP10q6
import Derived.Test.YtneeeaafhjaooaaGreatDoorLibsq6
namespace Go.Proofs.YtneeeaafhjaooaaGreatDoor.S
set_option linter.all false
open Go.Proofs.YtneeeaafhjaooaaGreatDoor.P
open Go.RowKit Go.Proofs.YtneeeaafhjaooaaGreatDoorW.PrintWords Go.Proofs.YtneeeaafhjaooaaGreatDoorW.PrintLast Go.Proofs.YtneeeaafhjaooaaGreatDoorW.PrintMore
attribute [local go_sem] max2_int min2_int max_two min_two max_three min_three max_four min_four   -- for this text's walks alone
attribute [local go_sem] cell_after
set_option linter.unusedVariables false
set_option linter.unusedSimpArgs false

def errW : Option Int → Value
 | none => .nilIface
 | some c => .iface 0 (.int .i64 c)
theorem errW_none : errW none = .nilIface := rfl
theorem errW_some (c : Int) : errW (some c) = .iface 0 (.int .i64 c) := rfl

-- the values' own types

end Go.Proofs.YtneeeaafhjaooaaGreatDoor.S
