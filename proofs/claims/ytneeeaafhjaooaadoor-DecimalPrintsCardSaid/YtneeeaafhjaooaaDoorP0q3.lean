-- Printed by a program of this session (wip/tools) over the kit's print: not trusted, Lean checks it.
import Derived.Test.YtneeeaafhjaooaaDoorProg
import Derived.Test.YtneeeaafhjaooaaDoorWWordsq3
import Derived.Test.YtneeeaafhjaooaaDoorWLastq3
import Derived.Test.YtneeeaafhjaooaaDoorWTabq3
import Derived.Test.YtneeeaafhjaooaaDoorWApartq3
import Derived.Test.YtneeeaafhjaooaaDoorWFootq3
import Derived.Test.YtneeeaafhjaooaaDoorWKeptq3
import Derived.Test.YtneeeaafhjaooaaDoorWShareq3
import Derived.Test.YtneeeaafhjaooaaDoorWNq3
import Derived.Test.YtneeeaafhjaooaaDoorWEqStructq3
import Derived.Test.YtneeeaafhjaooaaDoorWRepsOneq3
import Derived.Test.YtneeeaafhjaooaaDoorWGuardq3
import Derived.Test.YtneeeaafhjaooaaDoorWMoreq3
import Derived.Test.YtneeeaafhjaooaaDoorElibq3
import Derived.Test.YtneeeaafhjaooaaDoorLibsq3
namespace Go.Proofs.YtneeeaafhjaooaaDoor.P
set_option linter.all false
open Go.RowKit Go.Proofs.YtneeeaafhjaooaaDoorW.PrintWords Go.Proofs.YtneeeaafhjaooaaDoorW.PrintLast Go.Proofs.YtneeeaafhjaooaaDoorW.PrintMore
attribute [local go_sem] max2_int min2_int max_two min_two max_three min_three max_four min_four   -- for this text's walks alone
attribute [local go_sem] cell_after
set_option linter.unusedVariables false
set_option linter.unusedSimpArgs false

def errW : Option Int → Value
  | none => .nilIface
  | some c => .iface 0 (.int .i64 c)
theorem errW_none : errW none = .nilIface := rfl
theorem errW_some (c : Int) : errW (some c) = .iface 0 (.int .i64 c) := rfl

-- the values' own types

end Go.Proofs.YtneeeaafhjaooaaDoor.P
