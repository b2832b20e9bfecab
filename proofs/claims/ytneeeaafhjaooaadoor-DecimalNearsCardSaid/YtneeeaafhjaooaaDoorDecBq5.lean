import Derived.Test.YtneeeaafhjaooaaDoorDecAq5
import Derived.Test.YtneeeaafhjaooaaDoorP0q5
import Derived.Test.YtneeeaafhjaooaaDoorProg
import Derived.Test.YtneeeaafhjaooaaDoorTrimq5
import Derived.Test.YtneeeaafhjaooaaDoorLibsq5
namespace Go.Proofs.YtneeeaafhjaooaaDoor.P
set_option linter.all false
open Go.RowKit Go.Proofs.YtneeeaafhjaooaaDoorW.PrintWords Go.Proofs.YtneeeaafhjaooaaDoorW.PrintLast Go.Proofs.YtneeeaafhjaooaaDoorW.PrintMore

/-- What is trimmed is right, if it isn't too long or too far. -/
theorem right_trim (l : List UInt8) (e : Int) (hd : l.all isDig = true) (hs : trimR (trimL l) ≠ []) :
    rightL (trimR (trimL l)) e = (decide ((trimR (trimL l)).length ≤ 1100) && decide (-100000 ≤ e) && decide (e ≤ 100000)) := by
  have h1 := all_trimR _ (all_trimL l hd)
  have h2 : ((trimR (trimL l)).getD 0 0 == 48) = false := beq_eq_false_iff_ne.2 (trim_head l hs)
  have h3 : ((trimR (trimL l)).getD ((trimR (trimL l)).length - 1) 0 == 48) = false := beq_eq_false_iff_ne.2 (trimR_last _ hs)
  unfold rightL
  rw [if_neg hs, h1, h2, h3]
  simp

section
variable (neg : Bool) (l : List UInt8) (e : Int) (hl : l.length ≤ 10000) (he0 : -9223372036854775808 ≤ e) (he1 : e ≤ 9223372036854775807)
include hl he0 he1

end
end Go.Proofs.YtneeeaafhjaooaaDoor.P
