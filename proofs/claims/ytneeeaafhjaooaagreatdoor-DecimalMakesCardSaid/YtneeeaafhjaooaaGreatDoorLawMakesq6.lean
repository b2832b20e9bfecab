import Derived.Test.YtneeeaafhjaooaaGreatDoorLDecimalMakes2q6
import Derived.Test.YtneeeaafhjaooaaGreatDoorProg
import Derived.Test.YtneeeaafhjaooaaGreatDoorShownq6
import Derived.Test.YtneeeaafhjaooaaGreatDoorP0q6
import Derived.Test.YtneeeaafhjaooaaGreatDoorElibq6
import Derived.Test.YtneeeaafhjaooaaGreatDoorDecDq6
import Derived.Test.YtneeeaafhjaooaaGreatDoorDecBq6
import Derived.Test.YtneeeaafhjaooaaGreatDoorDecAq6
import Derived.Test.YtneeeaafhjaooaaGreatDoorDecJq6
import Derived.Test.YtneeeaafhjaooaaGreatDoorDecIq6
import Derived.Test.YtneeeaafhjaooaaGreatDoorLibsq6
import Derived.Lib.Atoi
import Derived.Lib.ItoaLen
import Derived.Lib.ItoaMem
set_option linter.unusedSimpArgs false
set_option linter.unusedVariables false
namespace Go.Proofs.YtneeeaafhjaooaaGreatDoor.P
set_option linter.all false
open Go.RowKit Go.Proofs.YtneeeaafhjaooaaGreatDoorW.PrintWords Go.Proofs.YtneeeaafhjaooaaGreatDoorW.PrintLast Go.Proofs.YtneeeaafhjaooaaGreatDoorW.PrintMore Go.Proofs.YtneeeaafhjaooaaGreatDoor.LDecimalMakes

theorem pure_DecimalMakes (n1 : Bool) (s1 : ByteArray) (e1 : Int) (n2 : Bool) (s2 : ByteArray) (e2 : Int) (neg : Bool) (s : ByteArray) (e : Int) (he0 : -9223372036854775808 ≤ e) (he1 : e ≤ 9223372036854775807) :
    ∃ k, tabardlaw7_DecimalMakes.f k n1 s1 e1 n2 s2 e2 neg s e = some true := by
  obtain ⟨l1, rfl⟩ := B_ex s1
  obtain ⟨l2, rfl⟩ := B_ex s2
  obtain ⟨l, rfl⟩ := B_ex s
  have key : Ev (fun k => tabardlaw7_DecimalMakes.f k n1 (B l1) e1 n2 (B l2) e2 neg (B l) e) true := by
    unfold tabardlaw7_DecimalMakes.f
    simp only [tabardlaw7_shown.f, Option.bind_some, if_true, B_size]
    have hhead : Ev (fun k => tabardlaw7_DecimalMakes.j0 k neg (B l) e true true n1 (B l1) e1 n2 (B l2) e2) true := by
      refine Ev.step (fun k => by rw [tabardlaw7_DecimalMakes.j0]) ?_
      simp only [if_true]; exact Ev.now _
    by_cases hl1 : (l1.length : Int) > 2000
    · simp only [if_pos hl1]; exact hhead
    · simp only [if_neg hl1]
      by_cases hl2 : (l2.length : Int) > 2000
      · simp only [if_pos hl2]; exact hhead
      · simp only [if_neg hl2]
        by_cases hl : (l.length : Int) > 2000
        · simp only [decide_eq_true hl]; exact hhead
        · simp only [decide_eq_false hl]
          refine Ev.step (fun k => by rw [tabardlaw7_DecimalMakes.j0]) ?_
          simp only [Bool.false_eq_true, if_false, Make_eq neg l e (by omega) he0 he1, Right_eq n1 l1 e1 (by omega), Point_eq n1 l1 e1 (by omega), Option.bind_some]
          refine Ev.bind (refMake neg l e (by omega) he0 he1) ?_
          refine Ev.bind (refRight n1 l1 e1 (by omega)) ?_
          simp only [beq_self_eq_true, if_true]
          refine Ev.bind (refPoint_eq n1 l1 e1 (by omega)) ?_
          simp only [if_true]
          refine Ev.bind (Cmp_eq n1 l1 e1 n2 l2 e2 (by omega) (by omega)) ?_
          refine Ev.bind (refCmp n1 l1 e1 n2 l2 e2 (by omega) (by omega)) ?_
          simp only [beq_self_eq_true, Bool.and_self, if_true]
          exact Ev.now _
  exact Ev.rounds key

theorem law_DecimalMakes (n1 : Bool) (s1 : ByteArray) (e1 : Int) (n2 : Bool) (s2 : ByteArray) (e2 : Int) (neg : Bool) (s : ByteArray) (e : Int) (w : World) (hT : Tabs w) (_ : s1.size ≤ maxLen) (_ : (Lit.int .i64 e1).wf = true) (_ : s2.size ≤ maxLen) (_ : (Lit.int .i64 e2).wf = true) (_ : s.size ≤ maxLen) (he : (Lit.int .i64 e).wf = true) :
    Calls Tryz.prog 3 #[.agg #[.bool n1, .string s1, .int .i64 e1], .agg #[.bool n2, .string s2, .int .i64 e2], .bool neg, .string s, .int .i64 e] w fun e w' => e = .returned (.bool true) ∧ Below w.heap.size w w' := by
  have hb : -9223372036854775808 ≤ e ∧ e ≤ 9223372036854775807 := by
    simp [Lit.wf, IntKind.min, IntKind.max, IntKind.signed, IntKind.bits] at he
    omega
  obtain ⟨k, h⟩ := pure_DecimalMakes n1 s1 e1 n2 s2 e2 neg s e hb.1 hb.2
  exact tabardlaw7_DecimalMakes.calls k n1 s1 e1 n2 s2 e2 neg s e true w hT h
end Go.Proofs.YtneeeaafhjaooaaGreatDoor.P
