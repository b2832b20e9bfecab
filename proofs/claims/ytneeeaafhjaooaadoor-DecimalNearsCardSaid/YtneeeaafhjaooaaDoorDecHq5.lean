import Derived.Test.YtneeeaafhjaooaaDoorP0q5
import Derived.Test.YtneeeaafhjaooaaDoorProg
import Derived.Test.YtneeeaafhjaooaaDoorTrimq5
import Derived.Test.YtneeeaafhjaooaaDoorLibsq5
import Derived.Lib.Atoi
import Derived.Lib.ItoaLen
import Derived.Lib.ItoaMem
set_option linter.unusedSimpArgs false
set_option linter.unusedVariables false
namespace Go.Proofs.YtneeeaafhjaooaaDoor.P
set_option linter.all false
open Go.RowKit Go.Proofs.YtneeeaafhjaooaaDoorW.PrintWords Go.Proofs.YtneeeaafhjaooaaDoorW.PrintLast Go.Proofs.YtneeeaafhjaooaaDoorW.PrintMore

theorem trimR_zeros (b : Nat) (l : List UInt8) : trimR (l ++ List.replicate b 48) = trimR l := by
  induction b with
  | zero => simp
  | succ b ih => rw [List.replicate_succ', ← List.append_assoc, trimR_snoc, ih]
end Go.Proofs.YtneeeaafhjaooaaDoor.P
