import Derived.Test.YtneeeaafhjaooaaDoorLDecimalOrders2q4
import Derived.Test.YtneeeaafhjaooaaDoorProg
import Derived.Test.YtneeeaafhjaooaaDoorShownq4
import Derived.Test.YtneeeaafhjaooaaDoorP0q4
import Derived.Test.YtneeeaafhjaooaaDoorElibq4
import Derived.Test.YtneeeaafhjaooaaDoorDecDq4
import Derived.Test.YtneeeaafhjaooaaDoorDecAq4
import Derived.Test.YtneeeaafhjaooaaDoorDecXq4
import Derived.Test.YtneeeaafhjaooaaDoorDecIq4
import Derived.Test.YtneeeaafhjaooaaDoorLibsq4
import Derived.Lib.Atoi
import Derived.Lib.ItoaLen
import Derived.Lib.ItoaMem
set_option linter.unusedSimpArgs false
set_option linter.unusedVariables false
namespace Go.Proofs.YtneeeaafhjaooaaDoor.P
set_option linter.all false
open Go.RowKit Go.Proofs.YtneeeaafhjaooaaDoorW.PrintWords Go.Proofs.YtneeeaafhjaooaaDoorW.PrintLast Go.Proofs.YtneeeaafhjaooaaDoorW.PrintMore Go.Proofs.YtneeeaafhjaooaaDoor.LDecimalOrders

section
variable (n1 : Bool) (l1 : List UInt8) (e1 : Int) (n2 : Bool) (l2 : List UInt8) (e2 : Int) (n3 : Bool) (l3 : List UInt8) (e3 : Int) (n way : Int)
  (hl1 : l1.length ≤ 1200) (hl2 : l2.length ≤ 1200) (hl3 : l3.length ≤ 1200)
include hl1 hl2

theorem orders_j3 : Ev (fun k => tabardlaw7_DecimalOrders.j3 k n way (cmpL n1 l1 e1 n2 l2 e2) false n1 (B l1) e1 n2 (B l2) e2) true := by
  refine Ev.step (fun k => by rw [tabardlaw7_DecimalOrders.j3]) ?_
  simp only [Bool.false_eq_true, if_false]
  refine Ev.bind (Place_eq n1 l1 e1 n way (by omega)) ?_
  refine Ev.bind (Place_eq n2 l2 e2 n way (by omega)) ?_
  obtain ⟨xn, xl, xe, xr, hx⟩ : ∃ a b c d, placeL n1 l1 e1 n way = (a, b, c, d) := ⟨_, _, _, _, rfl⟩
  obtain ⟨yn, yl, ye, yr, hy⟩ : ∃ a b c d, placeL n2 l2 e2 n way = (a, b, c, d) := ⟨_, _, _, _, rfl⟩
  rw [hx, hy]
  simp only [BQ]
  by_cases h1 : xr = 0
  · subst h1
    simp only [eq_self, if_true]
    by_cases h2 : yr = 0
    · subst h2
      simp only [eq_self, if_true]
      by_cases h3 : cmpL n1 l1 e1 n2 l2 e2 > 0
      · simp only [h3, if_true]; exact Ev.now _
      · simp only [h3, if_false]
        obtain ⟨_, rx, _⟩ := place_val _ _ _ _ _ _ _ _ hx
        obtain ⟨_, ry, _⟩ := place_val _ _ _ _ _ _ _ _ hy
        have q1 := (right_facts rx).2.1
        have q2 := (right_facts ry).2.1
        refine Ev.bind (Cmp_eq xn xl xe yn yl ye (by omega) (by omega)) ?_
        rw [decide_eq_true (place_mono n1 l1 e1 n2 l2 e2 n way xn xl xe yn yl ye hx hy (by omega))]
        exact Ev.now _
    · simp only [h2, if_false]; exact Ev.now _
  · simp only [h1, if_false]; exact Ev.now _

theorem orders_same (r1 : rightL l1 e1 = true) (r2 : rightL l2 e2 = true) :
    Ev (fun k => if cmpL n1 l1 e1 n2 l2 e2 = 0 then (if (!(n1 == n2) || (!((B l1).toList == (B l2).toList) || (!(e1 == e2)))) = true then (tabardlaw7_DecimalOrders.j3 k n way (cmpL n1 l1 e1 n2 l2 e2) (decide ((wrap64 (((B l1).size : Int) + ((B l2).size : Int))) > 0)) n1 (B l1) e1 n2 (B l2) e2) else (tabardlaw7_DecimalOrders.j3 k n way (cmpL n1 l1 e1 n2 l2 e2) false n1 (B l1) e1 n2 (B l2) e2)) else (tabardlaw7_DecimalOrders.j3 k n way (cmpL n1 l1 e1 n2 l2 e2) false n1 (B l1) e1 n2 (B l2) e2)) true := by
  have key := orders_j3 n1 l1 e1 n2 l2 e2 n way hl1 hl2
  by_cases hz : cmpL n1 l1 e1 n2 l2 e2 = 0
  · simp only [if_pos hz]
    rw [hz] at key
    rcases cmp_zero n1 l1 e1 n2 l2 e2 r1 r2 hz with ⟨rfl, rfl⟩ | ⟨rfl, rfl, rfl⟩
    · rw [hz]
      have hd : decide ((wrap64 (((B []).size : Int) + ((B []).size : Int))) > 0) = false := by
        rw [B_size]; exact decide_eq_false (by rw [w64 (by simp) (by simp)]; simp)
      rw [hd]
      split
      · exact key
      · exact key
    · rw [hz]
      simp only [beq_self_eq_true, Bool.not_true, Bool.or_self, Bool.false_eq_true, if_false]
      exact key
  · simp only [if_neg hz]; exact key

include hl3
theorem orders_j2 (r1 : rightL l1 e1 = true) (r2 : rightL l2 e2 = true) (r3 : rightL l3 e3 = true) :
    Ev (fun k => tabardlaw7_DecimalOrders.j2 k n way (cmpL n1 l1 e1 n2 l2 e2) false n1 (B l1) e1 n2 (B l2) e2 n3 (B l3) e3) true := by
  have key := orders_same n1 l1 e1 n2 l2 e2 n way hl1 hl2 r1 r2
  refine Ev.step (fun k => by rw [tabardlaw7_DecimalOrders.j2]) ?_
  simp only [Bool.false_eq_true, if_false]
  by_cases ha : cmpL n1 l1 e1 n2 l2 e2 ≤ 0
  · simp only [if_pos ha]
    refine Ev.bind (Cmp_eq n2 l2 e2 n3 l3 e3 (by omega) (by omega)) ?_
    by_cases hb : cmpL n2 l2 e2 n3 l3 e3 ≤ 0
    · simp only [if_pos hb]
      refine Ev.bind (Cmp_eq n1 l1 e1 n3 l3 e3 (by omega) (by omega)) ?_
      have hc := cmp_trans n1 l1 e1 n2 l2 e2 n3 l3 e3 r1 r2 r3 ha hb
      simp only [if_neg (show ¬ (cmpL n1 l1 e1 n3 l3 e3 > 0) by omega)]
      exact key
    · simp only [if_neg hb]
      exact key
  · simp only [if_neg ha]
    exact key

theorem orders_j0 : Ev (fun k => tabardlaw7_DecimalOrders.j0 k n way true false n1 (B l1) e1 n2 (B l2) e2 n3 (B l3) e3) true := by
  refine Ev.step (fun k => by rw [tabardlaw7_DecimalOrders.j0]) ?_
  simp only [Bool.false_eq_true, if_false, Right_eq n1 l1 e1 (by omega), Right_eq n2 l2 e2 (by omega), Right_eq n3 l3 e3 (by omega), Option.bind_some]
  refine Ev.bind (Cmp_eq n1 l1 e1 n2 l2 e2 (by omega) (by omega)) ?_
  refine Ev.bind (Cmp_eq n2 l2 e2 n1 l1 e1 (by omega) (by omega)) ?_
  have hw : wrap64 (-(cmpL n2 l2 e2 n1 l1 e1)) = -(cmpL n2 l2 e2 n1 l1 e1) := by
    rcases cmp_vals n2 l2 e2 n1 l1 e1 with q | q | q <;> rw [q] <;> exact w64 (by omega) (by omega)
  rw [hw]
  simp only [if_pos (cmp_swap n1 l1 e1 n2 l2 e2)]
  refine Ev.bind (Cmp_eq n1 l1 e1 n1 l1 e1 (by omega) (by omega)) ?_
  rw [cmp_self]
  refine Ev.step (fun k => by rw [tabardlaw7_DecimalOrders.j1]) ?_
  simp only [bne_self_eq_false, Bool.false_eq_true, if_false]
  have hbad : Ev (fun k => tabardlaw7_DecimalOrders.j2 k n way (cmpL n1 l1 e1 n2 l2 e2) true n1 (B l1) e1 n2 (B l2) e2 n3 (B l3) e3) true := by
    refine Ev.step (fun k => by rw [tabardlaw7_DecimalOrders.j2]) ?_
    simp only [if_true]; exact Ev.now _
  by_cases r1 : rightL l1 e1 = true
  · simp only [if_pos r1]
    by_cases r2 : rightL l2 e2 = true
    · simp only [if_pos r2]
      by_cases r3 : rightL l3 e3 = true
      · rw [show (!rightL l3 e3) = false from by rw [r3]; rfl]
        exact orders_j2 n1 l1 e1 n2 l2 e2 n3 l3 e3 n way hl1 hl2 hl3 r1 r2 r3
      · rw [show (!rightL l3 e3) = true from by rw [Bool.eq_false_iff.2 r3]; rfl]
        exact hbad
    · simp only [if_neg r2]; exact hbad
  · simp only [if_neg r1]; exact hbad
end

theorem pure_DecimalOrders (n1 : Bool) (s1 : ByteArray) (e1 : Int) (n2 : Bool) (s2 : ByteArray) (e2 : Int) (n3 : Bool) (s3 : ByteArray) (e3 : Int) (n way : Int) :
    ∃ k, tabardlaw7_DecimalOrders.f k n1 s1 e1 n2 s2 e2 n3 s3 e3 n way = some true := by
  obtain ⟨l1, rfl⟩ := B_ex s1
  obtain ⟨l2, rfl⟩ := B_ex s2
  obtain ⟨l3, rfl⟩ := B_ex s3
  have key : Ev (fun k => tabardlaw7_DecimalOrders.f k n1 (B l1) e1 n2 (B l2) e2 n3 (B l3) e3 n way) true := by
    unfold tabardlaw7_DecimalOrders.f
    simp only [tabardlaw7_shown.f, Option.bind_some, if_true, B_size]
    have hhead : Ev (fun k => tabardlaw7_DecimalOrders.j0 k n way true true n1 (B l1) e1 n2 (B l2) e2 n3 (B l3) e3) true := by
      refine Ev.step (fun k => by rw [tabardlaw7_DecimalOrders.j0]) ?_
      simp only [if_true]; exact Ev.now _
    by_cases hl1 : (l1.length : Int) > 1200
    · simp only [if_pos hl1]; exact hhead
    · simp only [if_neg hl1]
      by_cases hl2 : (l2.length : Int) > 1200
      · simp only [if_pos hl2]; exact hhead
      · simp only [if_neg hl2]
        by_cases hl3 : (l3.length : Int) > 1200
        · simp only [decide_eq_true hl3]; exact hhead
        · simp only [decide_eq_false hl3]
          exact orders_j0 n1 l1 e1 n2 l2 e2 n3 l3 e3 n way (by omega) (by omega) (by omega)
  exact Ev.rounds key

theorem law_DecimalOrders (n1 : Bool) (s1 : ByteArray) (e1 : Int) (n2 : Bool) (s2 : ByteArray) (e2 : Int) (n3 : Bool) (s3 : ByteArray) (e3 : Int) (n way : Int) (w : World) (hT : Tabs w) (_ : s1.size ≤ maxLen) (_ : (Lit.int .i64 e1).wf = true) (_ : s2.size ≤ maxLen) (_ : (Lit.int .i64 e2).wf = true) (_ : s3.size ≤ maxLen) (_ : (Lit.int .i64 e3).wf = true) (_ : (Lit.int .i64 n).wf = true) (_ : (Lit.int .i64 way).wf = true) :
    Calls Tryd.prog 6 #[.agg #[.bool n1, .string s1, .int .i64 e1], .agg #[.bool n2, .string s2, .int .i64 e2], .agg #[.bool n3, .string s3, .int .i64 e3], .int .i64 n, .int .i64 way] w fun e w' => e = .returned (.bool true) ∧ Below w.heap.size w w' := by
  obtain ⟨k, h⟩ := pure_DecimalOrders n1 s1 e1 n2 s2 e2 n3 s3 e3 n way
  exact tabardlaw7_DecimalOrders.calls k n1 s1 e1 n2 s2 e2 n3 s3 e3 n way true w hT h
end Go.Proofs.YtneeeaafhjaooaaDoor.P
