import Derived.Test.YtneeeaafhjaooaaDoorLDecimalNears2q5
import Derived.Test.YtneeeaafhjaooaaDoorProg
import Derived.Test.YtneeeaafhjaooaaDoorShownq5
import Derived.Test.YtneeeaafhjaooaaDoorP0q5
import Derived.Test.YtneeeaafhjaooaaDoorElibq5
import Derived.Test.YtneeeaafhjaooaaDoorDecDq5
import Derived.Test.YtneeeaafhjaooaaDoorDecAq5
import Derived.Test.YtneeeaafhjaooaaDoorDecYq5
import Derived.Test.YtneeeaafhjaooaaDoorDecXq5
import Derived.Test.YtneeeaafhjaooaaDoorDecIq5
import Derived.Test.YtneeeaafhjaooaaDoorLibsq5
import Derived.Lib.Atoi
import Derived.Lib.ItoaLen
import Derived.Lib.ItoaMem
set_option linter.unusedSimpArgs false
set_option linter.unusedVariables false
namespace Go.Proofs.YtneeeaafhjaooaaDoor.P
set_option linter.all false
open Go.RowKit Go.Proofs.YtneeeaafhjaooaaDoorW.PrintWords Go.Proofs.YtneeeaafhjaooaaDoorW.PrintLast Go.Proofs.YtneeeaafhjaooaaDoorW.PrintMore Go.Proofs.YtneeeaafhjaooaaDoor.LDecimalNears

section
variable (neg : Bool) (l : List UInt8) (e n : Int) (ll : List UInt8) (le : Int) (hl : List UInt8) (he : Int) (hr : rightL l e = true) (hn0 : -90000 ≤ n) (hn1 : n ≤ 90000)
  (h4 : placeL neg l e n 4 = (neg, ll, le, 0)) (h5 : placeL neg l e n 5 = (neg, hl, he, 0))
include hr hn0 hn1 h4 h5

theorem nears_l0 (d : Nat) : ∀ i : Nat, i ≤ 6 → 6 - i = d → Ev (fun k => tabardlaw7_DecimalNears.l0 k n (i : Int) neg (B l) e neg (B ll) le neg (B hl) he) true := by
  obtain ⟨hd, hlen, he0, he1, hz⟩ := right_facts hr
  induction d with
  | zero =>
    intro i hi hd2
    refine Ev.step (fun k => by rw [tabardlaw7_DecimalNears.l0]) ?_
    simp only [if_neg (show ¬ ((i : Int) < 6) by omega), B_size]
    rw [show wrap64 (1 + wrap64 ((l.length : Int) / 2)) = ((1 + l.length / 2 : Nat) : Int) by rw [w64 (x := (l.length : Int) / 2) (by omega) (by omega), w64 (by omega) (by omega)]; omega]
    refine Ev.bind (Sig_eq neg l e _ 0 (by omega)) ?_
    obtain ⟨zn, zl, ze, zr, hs⟩ : ∃ a b c d, sigL neg l e ((1 + l.length / 2 : Nat) : Int) 0 = (a, b, c, d) := ⟨_, _, _, _, rfl⟩
    rw [hs]
    simp only [BQ, B_size]
    by_cases h1 : zr = 0
    · subst h1
      obtain ⟨rfl, h2⟩ := sig_len neg l e (1 + l.length / 2) (by omega) 0 zn zl ze hs
      simp only [eq_self, if_true, if_pos (show (zl.length : Int) ≤ ((1 + l.length / 2 : Nat) : Int) by omega), beq_self_eq_true]
      exact Ev.now _
    · simp only [h1, if_false]; exact Ev.now _
  | succ d ih =>
    intro i hi hd2
    obtain ⟨xl, xe, hx⟩ := place_ok neg l e n i hr (by omega) (by omega) hn0 hn1
    have hy := place_twice neg l e n i neg xl xe hx (5 - (i : Int)) (by omega) (by omega)
    obtain ⟨_, rx, _, hxe, _⟩ := place_val neg l e n i neg xl xe hx
    have q1 := (right_facts rx).2.1
    have htwo := place_two neg l e n i (by omega) (by omega)
    rw [hx, h4, h5] at htwo
    have hj4 : Ev (fun k => tabardlaw7_DecimalNears.j4 k n (i : Int) false neg (B l) e neg (B ll) le neg (B hl) he) true := by
      refine Ev.step (fun k => by rw [tabardlaw7_DecimalNears.j4]) ?_
      simp only [Bool.false_eq_true, if_false]
      rw [show wrap64 ((i : Int) + 1) = ((i + 1 : Nat) : Int) by rw [w64 (by omega) (by omega)]; rfl]
      exact ih (i + 1) (by omega) (by omega)
    have htail : ∀ b : Bool, Ev (fun k => if (xl.length : Int) > 0 then (if xe < wrap64 (-n) then tabardlaw7_DecimalNears.j4 k n (i : Int) b neg (B l) e neg (B ll) le neg (B hl) he else tabardlaw7_DecimalNears.j4 k n (i : Int) false neg (B l) e neg (B ll) le neg (B hl) he) else tabardlaw7_DecimalNears.j4 k n (i : Int) false neg (B l) e neg (B ll) le neg (B hl) he) true := by
      intro b
      rw [w64 (x := -n) (by omega) (by omega)]
      rcases hxe with rfl | q
      · simp only [List.length_nil, Int.natCast_zero, gt_iff_lt, Int.lt_irrefl, if_false]; exact hj4
      · have : ¬ (xe < -n) := by omega
        simp only [this, if_false]
        split
        · exact hj4
        · exact hj4
    refine Ev.step (fun k => by rw [tabardlaw7_DecimalNears.l0]) ?_
    simp only [if_pos (show ((i : Int) < 6) by omega)]
    refine Ev.bind (Place_eq neg l e n i (by omega)) ?_
    rw [hx]
    simp only [BQ]
    rw [show wrap64 (5 - (i : Int)) = 5 - (i : Int) by exact w64 (by omega) (by omega)]
    refine Ev.bind (Place_eq neg xl xe n (5 - (i : Int)) (by omega)) ?_
    rw [hy]
    simp only [BQ, Right_eq neg xl xe (by omega), Option.bind_some, eq_self, if_true, rx, B_toList, B_size, beq_self_eq_true, Bool.not_true, Bool.or_self, Bool.false_or, Bool.false_eq_true, if_false]
    rcases htwo with hq | hq
    · simp only [Prod.mk.injEq] at hq
      obtain ⟨_, rfl, rfl, _⟩ := hq
      simp only [beq_self_eq_true, Bool.not_true, Bool.or_self, Bool.false_eq_true, if_false]
      exact htail _
    · simp only [Prod.mk.injEq] at hq
      obtain ⟨_, rfl, rfl, _⟩ := hq
      simp only [beq_self_eq_true, Bool.not_true, Bool.or_self, Bool.false_eq_true, if_false]
      split
      · exact htail _
      · exact htail _

theorem nears_j0 : Ev (fun k => tabardlaw7_DecimalNears.j0 k n true false neg (B l) e) true := by
  obtain ⟨hd, hlen, he0, he1, hz⟩ := right_facts hr
  obtain ⟨_, r4, _⟩ := place_val _ _ _ _ _ _ _ _ h4
  obtain ⟨_, r5, _⟩ := place_val _ _ _ _ _ _ _ _ h5
  have q4 := (right_facts r4).2.1
  have q5 := (right_facts r5).2.1
  refine Ev.step (fun k => by rw [tabardlaw7_DecimalNears.j0]) ?_
  simp only [Bool.false_eq_true, if_false]
  refine Ev.bind (Place_eq neg l e n 4 (by omega)) ?_
  refine Ev.bind (Place_eq neg l e n 5 (by omega)) ?_
  rw [h4, h5]
  simp only [BQ, eq_self, if_true, bne_self_eq_false]
  refine Ev.step (fun k => by rw [tabardlaw7_DecimalNears.j1]) ?_
  simp only [Bool.false_eq_true, if_false]
  refine Ev.bind (Cmp_eq neg ll le neg l e (by omega) (by omega)) ?_
  have c4 := low_le neg l e n neg ll le h4
  have c5 := high_ge neg l e n neg hl he h5
  simp only [show ¬ (cmpL neg ll le neg l e > 0) by omega, if_false]
  refine Ev.bind (Cmp_eq neg l e neg hl he (by omega) (by omega)) ?_
  simp only [show ¬ (cmpL neg l e neg hl he > 0) by omega, if_false, bne_self_eq_false, Bool.false_eq_true]
  refine Ev.step (fun k => by rw [tabardlaw7_DecimalNears.j2]) ?_
  simp only [Bool.false_eq_true, if_false]
  exact nears_l0 neg l e n ll le hl he hr hn0 hn1 h4 h5 _ 0 (by omega) rfl
end

theorem pure_DecimalNears (neg : Bool) (s : ByteArray) (e n : Int) (hs : s.size ≤ 9223372036854775807) : ∃ k, tabardlaw7_DecimalNears.f k neg s e n = some true := by
  obtain ⟨l, rfl⟩ := B_ex s
  rw [B_size] at hs
  have key : Ev (fun k => tabardlaw7_DecimalNears.f k neg (B l) e n) true := by
    unfold tabardlaw7_DecimalNears.f
    simp only [tabardlaw7_shown.f, Option.bind_some, if_true, Right_eq neg l e hs]
    have hhead : Ev (fun k => tabardlaw7_DecimalNears.j0 k n true true neg (B l) e) true := by
      refine Ev.step (fun k => by rw [tabardlaw7_DecimalNears.j0]) ?_
      simp only [if_true]; exact Ev.now _
    by_cases hr : rightL l e = true
    · simp only [hr, if_true]
      by_cases h0 : n < -90000
      · simp only [h0, if_true]; exact hhead
      · simp only [h0, if_false]
        by_cases h1 : n > 90000
        · simp only [decide_eq_true h1]; exact hhead
        · simp only [decide_eq_false h1]
          obtain ⟨ll, le, h4⟩ := place_ok neg l e n 4 hr (by omega) (by omega) (by omega) (by omega)
          obtain ⟨hl, he, h5⟩ := place_ok neg l e n 5 hr (by omega) (by omega) (by omega) (by omega)
          exact nears_j0 neg l e n ll le hl he hr (by omega) (by omega) h4 h5
    · simp only [hr, if_false]; exact hhead
  exact Ev.rounds key

theorem law_DecimalNears (neg : Bool) (s : ByteArray) (e n : Int) (w : World) (hT : Tabs w) (hs : s.size ≤ maxLen) (_ : (Lit.int .i64 e).wf = true) (_ : (Lit.int .i64 n).wf = true) :
    Calls Tryd.prog 7 #[.agg #[.bool neg, .string s, .int .i64 e], .int .i64 n] w fun e w' => e = .returned (.bool true) ∧ Below w.heap.size w w' := by
  obtain ⟨k, h⟩ := pure_DecimalNears neg s e n hs
  exact tabardlaw7_DecimalNears.calls k neg s e n true w hT h
end Go.Proofs.YtneeeaafhjaooaaDoor.P
