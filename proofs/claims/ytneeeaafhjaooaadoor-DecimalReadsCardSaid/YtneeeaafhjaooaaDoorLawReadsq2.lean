import Derived.Test.YtneeeaafhjaooaaDoorLDecimalReads2q2
import Derived.Test.YtneeeaafhjaooaaDoorProg
import Derived.Test.YtneeeaafhjaooaaDoorShownq2
import Derived.Test.YtneeeaafhjaooaaDoorP0q2
import Derived.Test.YtneeeaafhjaooaaDoorElibq2
import Derived.Test.YtneeeaafhjaooaaDoorDecEq2
import Derived.Test.YtneeeaafhjaooaaDoorDecFq2
import Derived.Test.YtneeeaafhjaooaaDoorLibsq2
import Derived.Lib.Atoi
import Derived.Lib.ItoaLen
import Derived.Lib.ItoaMem
set_option linter.unusedSimpArgs false
set_option linter.unusedVariables false
namespace Go.Proofs.YtneeeaafhjaooaaDoor.P
set_option linter.all false
open Go.RowKit Go.Proofs.YtneeeaafhjaooaaDoorW.PrintWords Go.Proofs.YtneeeaafhjaooaaDoorW.PrintLast Go.Proofs.YtneeeaafhjaooaaDoorW.PrintMore Go.Proofs.YtneeeaafhjaooaaDoor.LDecimalReads

theorem pure_DecimalReads (s : ByteArray) : ∃ k, tabardlaw7_DecimalReads.f k s = some true := by
  obtain ⟨l, rfl⟩ := B_ex s
  have key : Ev (fun k => tabardlaw7_DecimalReads.f k (B l)) true := by
    unfold tabardlaw7_DecimalReads.f
    simp only [tabardlaw7_shown.f, Option.bind_some, if_true, B_size]
    refine Ev.step (fun k => by rw [tabardlaw7_DecimalReads.j0]) ?_
    by_cases hl : (l.length : Int) > 3000
    · simp only [decide_eq_true hl, if_true]; exact Ev.now _
    · simp only [decide_eq_false hl, Bool.false_eq_true, if_false]
      refine Ev.bind (Parse_eq l (by omega)) ?_
      refine Ev.bind (refParse l (by omega)) ?_
      simp only [beq_self_eq_true, Bool.and_self, if_true]
      exact Ev.now _
  exact Ev.rounds key

theorem law_DecimalReads (s : ByteArray) (w : World) (hT : Tabs w) (_ : s.size ≤ maxLen) :
    Calls Tryd.prog 4 #[.string s] w fun e w' => e = .returned (.bool true) ∧ Below w.heap.size w w' := by
  obtain ⟨k, h⟩ := pure_DecimalReads s
  exact tabardlaw7_DecimalReads.calls k s true w hT h
end Go.Proofs.YtneeeaafhjaooaaDoor.P
