import Derived.Test.YtneeeaafhjaooaaDoorLDecimalRounds2q1
import Derived.Test.YtneeeaafhjaooaaDoorProg
import Derived.Test.YtneeeaafhjaooaaDoorShownq1
import Derived.Test.YtneeeaafhjaooaaDoorP0q1
import Derived.Test.YtneeeaafhjaooaaDoorElibq1
import Derived.Test.YtneeeaafhjaooaaDoorDecDq1
import Derived.Test.YtneeeaafhjaooaaDoorLibsq1
import Derived.Lib.Atoi
import Derived.Lib.ItoaLen
import Derived.Lib.ItoaMem
set_option linter.unusedSimpArgs false
set_option linter.unusedVariables false
namespace Go.Proofs.YtneeeaafhjaooaaDoor.P
set_option linter.all false
open Go.RowKit Go.Proofs.YtneeeaafhjaooaaDoorW.PrintWords Go.Proofs.YtneeeaafhjaooaaDoorW.PrintLast Go.Proofs.YtneeeaafhjaooaaDoorW.PrintMore Go.Proofs.YtneeeaafhjaooaaDoor.LDecimalRounds

theorem pure_DecimalRounds (neg : Bool) (s : ByteArray) (e n way : Int) : ∃ k, tabardlaw7_DecimalRounds.f k neg s e n way = some true := by
  obtain ⟨l, rfl⟩ := B_ex s
  have key : Ev (fun k => tabardlaw7_DecimalRounds.f k neg (B l) e n way) true := by
    unfold tabardlaw7_DecimalRounds.f
    simp only [tabardlaw7_shown.f, Option.bind_some, if_true, B_size]
    refine Ev.step (fun k => by rw [tabardlaw7_DecimalRounds.j0]) ?_
    by_cases hl : (l.length : Int) > 2000
    · simp only [decide_eq_true hl, if_true]; exact Ev.now _
    · simp only [decide_eq_false hl, Bool.false_eq_true, if_false]
      have hl2 : l.length ≤ 9223372036854775806 := by omega
      refine Ev.bind (Sig_eq neg l e n way hl2) ?_
      refine Ev.bind (refSig_eq neg l e n way hl2) ?_
      refine Ev.bind (Place_eq neg l e n way hl2) ?_
      refine Ev.bind (refPlace_eq neg l e n way hl2) ?_
      simp only [beq_self_eq_true, Bool.and_self, if_true]
      exact Ev.now _
  exact Ev.rounds key

theorem law_DecimalRounds (neg : Bool) (s : ByteArray) (e n way : Int) (w : World) (hT : Tabs w) (_ : s.size ≤ maxLen) (_ : (Lit.int .i64 e).wf = true) (_ : (Lit.int .i64 n).wf = true) (_ : (Lit.int .i64 way).wf = true) :
    Calls Tryd.prog 3 #[.agg #[.bool neg, .string s, .int .i64 e], .int .i64 n, .int .i64 way] w fun e w' => e = .returned (.bool true) ∧ Below w.heap.size w w' := by
  obtain ⟨k, h⟩ := pure_DecimalRounds neg s e n way
  exact tabardlaw7_DecimalRounds.calls k neg s e n way true w hT h
end Go.Proofs.YtneeeaafhjaooaaDoor.P
