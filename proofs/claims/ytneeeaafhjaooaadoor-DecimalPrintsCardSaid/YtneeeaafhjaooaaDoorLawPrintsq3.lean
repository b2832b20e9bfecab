import Derived.Test.YtneeeaafhjaooaaDoorLDecimalPrints2q3
import Derived.Test.YtneeeaafhjaooaaDoorProg
import Derived.Test.YtneeeaafhjaooaaDoorShownq3
import Derived.Test.YtneeeaafhjaooaaDoorP0q3
import Derived.Test.YtneeeaafhjaooaaDoorElibq3
import Derived.Test.YtneeeaafhjaooaaDoorDecEq3
import Derived.Test.YtneeeaafhjaooaaDoorDecAq3
import Derived.Test.YtneeeaafhjaooaaDoorDecGq3
import Derived.Test.YtneeeaafhjaooaaDoorDecHq3
import Derived.Test.YtneeeaafhjaooaaDoorLibsq3
import Derived.Lib.Atoi
import Derived.Lib.ItoaLen
import Derived.Lib.ItoaMem
set_option linter.unusedSimpArgs false
set_option linter.unusedVariables false
namespace Go.Proofs.YtneeeaafhjaooaaDoor.P
set_option linter.all false
open Go.RowKit Go.Proofs.YtneeeaafhjaooaaDoorW.PrintWords Go.Proofs.YtneeeaafhjaooaaDoorW.PrintLast Go.Proofs.YtneeeaafhjaooaaDoorW.PrintMore Go.Proofs.YtneeeaafhjaooaaDoor.LDecimalPrints

theorem pure_DecimalPrints (neg : Bool) (s : ByteArray) (e : Int) : ∃ k, tabardlaw7_DecimalPrints.f k neg s e = some true := by
  obtain ⟨l, rfl⟩ := B_ex s
  have key : Ev (fun k => tabardlaw7_DecimalPrints.f k neg (B l) e) true := by
    unfold tabardlaw7_DecimalPrints.f
    simp only [tabardlaw7_shown.f, Option.bind_some, if_true, B_size]
    refine Ev.step (fun k => by rw [tabardlaw7_DecimalPrints.j0]) ?_
    by_cases hl : (l.length : Int) > 2000
    · simp only [decide_eq_true hl, if_true]; exact Ev.now _
    · simp only [decide_eq_false hl, Bool.false_eq_true, if_false]
      refine Ev.bind (Print_eq neg l e (by omega)) ?_
      refine Ev.bind (refPrint neg l e (by omega)) ?_
      simp only [if_true, Right_eq neg l e (by omega), Option.bind_some]
      by_cases hr : rightL l e = true
      · simp only [if_pos hr]
        have := print_len neg l e
        refine Ev.bind (Parse_eq (printL neg l e) (by omega)) ?_
        rw [parse_print neg l e hr]
        simp only [BQ, beq_self_eq_true, Bool.and_self, if_true]
        exact Ev.now _
      · simp only [if_neg hr]
        have : printL neg l e = [] := if_neg hr
        rw [this]
        simp only [B_toList, beq_self_eq_true]
        exact Ev.now _
  exact Ev.rounds key

theorem law_DecimalPrints (neg : Bool) (s : ByteArray) (e : Int) (w : World) (hT : Tabs w) (_ : s.size ≤ maxLen) (_ : (Lit.int .i64 e).wf = true) :
    Calls Tryd.prog 5 #[.agg #[.bool neg, .string s, .int .i64 e]] w fun e w' => e = .returned (.bool true) ∧ Below w.heap.size w w' := by
  obtain ⟨k, h⟩ := pure_DecimalPrints neg s e
  exact tabardlaw7_DecimalPrints.calls k neg s e true w hT h
end Go.Proofs.YtneeeaafhjaooaaDoor.P
