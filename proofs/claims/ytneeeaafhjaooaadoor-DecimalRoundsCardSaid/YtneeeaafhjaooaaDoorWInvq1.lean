-- What a claim needs of the words that the kit's print.sh laid for this seat, sifted by a program of this session (wip/tools/prune.py): not this session's own work.
import Derived.Test.YtneeeaafhjaooaaDoorWTabq1
namespace Go.Proofs.YtneeeaafhjaooaaDoorW.PrintLast
set_option linter.all false
/-- Number i is listed too. -/
def up (b : Nat → Bool) (i : Nat) : Nat → Bool := fun j => if j = i then true else b j
section
variable {P : Program} {ops : Array Oper} {Q : Exit → Act → World → Prop} {md : Region.Mode} {T : Bool × List (List Nat × List Nat)} {B : List Nat} {O : List Nat} {b : Nat → Bool} {i j n : Nat}
end
end Go.Proofs.YtneeeaafhjaooaaDoorW.PrintLast
