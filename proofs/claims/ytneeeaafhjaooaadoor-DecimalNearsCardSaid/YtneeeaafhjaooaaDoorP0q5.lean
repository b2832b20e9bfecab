-- Printed by a program of this session (wip/tools) over the kit's print: not trusted, Lean checks it.
import Derived.Test.YtneeeaafhjaooaaDoorProg
import Derived.Test.YtneeeaafhjaooaaDoorWWordsq5
import Derived.Test.YtneeeaafhjaooaaDoorWLastq5
import Derived.Test.YtneeeaafhjaooaaDoorWTabq5
import Derived.Test.YtneeeaafhjaooaaDoorWApartq5
import Derived.Test.YtneeeaafhjaooaaDoorWFootq5
import Derived.Test.YtneeeaafhjaooaaDoorWKeptq5
import Derived.Test.YtneeeaafhjaooaaDoorWShareq5
import Derived.Test.YtneeeaafhjaooaaDoorWNq5
import Derived.Test.YtneeeaafhjaooaaDoorWEqStructq5
import Derived.Test.YtneeeaafhjaooaaDoorWRepsOneq5
import Derived.Test.YtneeeaafhjaooaaDoorWGuardq5
import Derived.Test.YtneeeaafhjaooaaDoorWMoreq5
import Derived.Test.YtneeeaafhjaooaaDoorElibq5
import Derived.Test.YtneeeaafhjaooaaDoorLibsq5
namespace Go.Proofs.YtneeeaafhjaooaaDoor.P
set_option linter.all false
open Go.RowKit Go.Proofs.YtneeeaafhjaooaaDoorW.PrintWords Go.Proofs.YtneeeaafhjaooaaDoorW.PrintLast Go.Proofs.YtneeeaafhjaooaaDoorW.PrintMore
attribute [local go_sem] max2_int min2_int max_two min_two max_three min_three max_four min_four   -- for this text's walks alone
attribute [local go_sem] cell_after
set_option linter.unusedVariables false
set_option linter.unusedSimpArgs false

def errW : Option Int → Value
  | none => .nilIface
  | some c => .iface 0 (.int .i64 c)
theorem errW_none : errW none = .nilIface := rfl
theorem errW_some (c : Int) : errW (some c) = .iface 0 (.int .i64 c) := rfl

-- the values' own types

end Go.Proofs.YtneeeaafhjaooaaDoor.P
