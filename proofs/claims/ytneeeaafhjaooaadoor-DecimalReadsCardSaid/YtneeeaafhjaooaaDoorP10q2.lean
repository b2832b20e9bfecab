-- Printed by a program of this session (wip/tools) over the kit's print: not trusted, Lean checks it.
import Derived.Test.YtneeeaafhjaooaaDoorP0q2
import Derived.Test.YtneeeaafhjaooaaDoorProg
import Derived.Test.YtneeeaafhjaooaaDoorElibq2
import Derived.Test.YtneeeaafhjaooaaDoorP7q2
import Derived.Test.YtneeeaafhjaooaaDoorP8q2
import Derived.Test.YtneeeaafhjaooaaDoorLibsq2
namespace Go.Proofs.YtneeeaafhjaooaaDoor.P
set_option linter.all false
open Go.RowKit Go.Proofs.YtneeeaafhjaooaaDoorW.PrintWords Go.Proofs.YtneeeaafhjaooaaDoorW.PrintLast Go.Proofs.YtneeeaafhjaooaaDoorW.PrintMore
attribute [local go_sem] max2_int min2_int max_two min_two max_three min_three max_four min_four   -- for this text's walks alone
attribute [local go_sem] cell_after
set_option linter.unusedVariables false
set_option linter.unusedSimpArgs false

/-! ### tabardref7_Parse: function 14 -/
mutual
def tabardref7_Parse.j0 : Nat → ByteArray → Int → Bool → Option (Bool × ByteArray × Int × Int)
  | 0, _, _, _ => none
  | k + 1, x0, x4, x5 => if x5 = true then (tabardref7_Parse.j1 k x0 1 x5) else (tabardref7_Parse.j1 k x0 x4 x5)
def tabardref7_Parse.j1 : Nat → ByteArray → Int → Bool → Option (Bool × ByteArray × Int × Int)
  | 0, _, _, _ => none
  | k + 1, x0, x4, x5 => tabardref7_Parse.l0 k x0 x4 x5 ([] : List Int)
def tabardref7_Parse.j3 : Nat → ByteArray → Int → Bool → List Int → Option (Bool × ByteArray × Int × Int)
  | 0, _, _, _, _ => none
  | k + 1, x0, x4, x5, x6 => if x4 < (x0.size : Int) then (if 0 ≤ x4 then (tabardref7_Parse.j4 k x0 x4 x5 x6 (x6.length : Int) 0 ((bt x0 x4) == 46)) else (none)) else (tabardref7_Parse.j4 k x0 x4 x5 x6 (x6.length : Int) 0 false)
def tabardref7_Parse.j4 : Nat → ByteArray → Int → Bool → List Int → Int → Int → Bool → Option (Bool × ByteArray × Int × Int)
  | 0, _, _, _, _, _, _, _ => none
  | k + 1, x0, x4, x5, x6, x7, x8, x50 => if x50 = true then (tabardref7_Parse.l1 k x0 (wrap64 (x4 + 1)) x5 x6 x7 x8) else (tabardref7_Parse.j6 k x0 x4 x5 x6 x7 x8)
def tabardref7_Parse.j6 : Nat → ByteArray → Int → Bool → List Int → Int → Int → Option (Bool × ByteArray × Int × Int)
  | 0, _, _, _, _, _, _ => none
  | k + 1, x0, x4, x5, x6, x7, x8 => if (x6.length : Int) = 0 then (tabardref7_Parse.j7 k x0 x4 x5 x6 x8 (x7 == 0)) else (tabardref7_Parse.j7 k x0 x4 x5 x6 x8 false)
def tabardref7_Parse.j7 : Nat → ByteArray → Int → Bool → List Int → Int → Bool → Option (Bool × ByteArray × Int × Int)
  | 0, _, _, _, _, _, _ => none
  | k + 1, x0, x4, x5, x6, x8, x79 => if x79 = true then (some (false, (⟨#[]⟩ : ByteArray), 0, 3)) else (if x4 < (x0.size : Int) then (if 0 ≤ x4 then (if (bt x0 x4) = 101 then (tabardref7_Parse.j8 k x0 x4 x5 x6 x8 true) else (tabardref7_Parse.j8 k x0 x4 x5 x6 x8 ((bt x0 x4) == 69))) else (none)) else (tabardref7_Parse.j8 k x0 x4 x5 x6 x8 false))
def tabardref7_Parse.j8 : Nat → ByteArray → Int → Bool → List Int → Int → Bool → Option (Bool × ByteArray × Int × Int)
  | 0, _, _, _, _, _, _ => none
  | k + 1, x0, x4, x5, x6, x8, x96 => if x96 = true then (if (wrap64 (x4 + 1)) < (x0.size : Int) then (if 0 ≤ (wrap64 (x4 + 1)) then (if (bt x0 (wrap64 (x4 + 1))) = 43 then (tabardref7_Parse.j9 k x0 (wrap64 (x4 + 1)) x5 x6 x8 1 true) else (tabardref7_Parse.j9 k x0 (wrap64 (x4 + 1)) x5 x6 x8 1 ((bt x0 (wrap64 (x4 + 1))) == 45))) else (none)) else (tabardref7_Parse.j9 k x0 (wrap64 (x4 + 1)) x5 x6 x8 1 false)) else (if x4 < (x0.size : Int) then (some (false, (⟨#[]⟩ : ByteArray), 0, 3)) else ((tabardref7_Make.f k x5 (strOfNums x6) x8).bind fun bt257 => (some (bt257.1, bt257.2.1, bt257.2.2.1, bt257.2.2.2))))
def tabardref7_Parse.j9 : Nat → ByteArray → Int → Bool → List Int → Int → Int → Bool → Option (Bool × ByteArray × Int × Int)
  | 0, _, _, _, _, _, _, _ => none
  | k + 1, x0, x4, x5, x6, x8, x9, x114 => if x114 = true then (if 0 ≤ x4 then (if x4 < (x0.size : Int) then (if (bt x0 x4) = 45 then (tabardref7_Parse.j10 k x0 (wrap64 (x4 + 1)) x5 x6 x8 (-1)) else (tabardref7_Parse.j10 k x0 (wrap64 (x4 + 1)) x5 x6 x8 x9)) else (none)) else (none)) else (tabardref7_Parse.j10 k x0 x4 x5 x6 x8 x9)
def tabardref7_Parse.j10 : Nat → ByteArray → Int → Bool → List Int → Int → Int → Option (Bool × ByteArray × Int × Int)
  | 0, _, _, _, _, _, _ => none
  | k + 1, x0, x4, x5, x6, x8, x9 => tabardref7_Parse.l2 k x0 x4 x5 x6 x8 x9 0 x4
def tabardref7_Parse.j12 : Nat → ByteArray → Int → Bool → List Int → Int → Int → Int → Int → Option (Bool × ByteArray × Int × Int)
  | 0, _, _, _, _, _, _, _, _ => none
  | k + 1, x0, x4, x5, x6, x8, x9, x10, x11 => if x4 = x11 then (some (false, (⟨#[]⟩ : ByteArray), 0, 3)) else (if x4 < (x0.size : Int) then (some (false, (⟨#[]⟩ : ByteArray), 0, 3)) else ((tabardref7_Make.f k x5 (strOfNums x6) (wrap64 (x8 + (wrap64 (x9 * x10))))).bind fun bt253 => (some (bt253.1, bt253.2.1, bt253.2.2.1, bt253.2.2.2))))
def tabardref7_Parse.l2 : Nat → ByteArray → Int → Bool → List Int → Int → Int → Int → Int → Option (Bool × ByteArray × Int × Int)
  | 0, _, _, _, _, _, _, _, _ => none
  | k + 1, x0, x4, x5, x6, x8, x9, x10, x11 => if x4 < (x0.size : Int) then (if 0 ≤ x4 then ((tabardref7_digit.f (bt x0 x4)).bind fun t252 => (if t252 = true then (if x4 < (wrap64 (x11 + 9)) then (tabardref7_Parse.l2 k x0 (wrap64 (x4 + 1)) x5 x6 x8 x9 (wrap64 ((wrap64 (10 * x10)) + (((bt x0 x4) - 48) % 256))) x11) else (tabardref7_Parse.j12 k x0 x4 x5 x6 x8 x9 x10 x11)) else (tabardref7_Parse.j12 k x0 x4 x5 x6 x8 x9 x10 x11))) else (none)) else (tabardref7_Parse.j12 k x0 x4 x5 x6 x8 x9 x10 x11)
def tabardref7_Parse.l1 : Nat → ByteArray → Int → Bool → List Int → Int → Int → Option (Bool × ByteArray × Int × Int)
  | 0, _, _, _, _, _, _ => none
  | k + 1, x0, x4, x5, x6, x7, x8 => if x4 < (x0.size : Int) then (if 0 ≤ x4 then ((tabardref7_digit.f (bt x0 x4)).bind fun t248 => (if t248 = true then (if x6.length < 140737488355328 then (tabardref7_Parse.l1 k x0 (wrap64 (x4 + 1)) x5 (x6 ++ [bt x0 x4]) x7 (wrap64 (x8 - 1))) else (none)) else (tabardref7_Parse.j6 k x0 x4 x5 x6 x7 x8))) else (none)) else (tabardref7_Parse.j6 k x0 x4 x5 x6 x7 x8)
def tabardref7_Parse.l0 : Nat → ByteArray → Int → Bool → List Int → Option (Bool × ByteArray × Int × Int)
  | 0, _, _, _, _ => none
  | k + 1, x0, x4, x5, x6 => if x4 < (x0.size : Int) then (if 0 ≤ x4 then ((tabardref7_digit.f (bt x0 x4)).bind fun t244 => (if t244 = true then (if x6.length < 140737488355328 then (tabardref7_Parse.l0 k x0 (wrap64 (x4 + 1)) x5 (x6 ++ [bt x0 x4])) else (none)) else (tabardref7_Parse.j3 k x0 x4 x5 x6))) else (none)) else (tabardref7_Parse.j3 k x0 x4 x5 x6)
end
def tabardref7_Parse.f (k : Nat) (a0 : ByteArray) : Option (Bool × ByteArray × Int × Int) := if (a0.size : Int) > 0 then (if 0 < (a0.size : Int) then (tabardref7_Parse.j0 k a0 0 ((bt a0 0) == 45)) else (none)) else (tabardref7_Parse.j0 k a0 0 false)
set_option maxHeartbeats 8000000 in
set_option maxRecDepth 100000 in
theorem tabardref7_Parse.calls (k : Nat) (a0 : ByteArray) (r1 : Bool) (r2 : ByteArray) (r3 : Int) (r4 : Int) (w : World) (h : tabardref7_Parse.f k a0 = some (r1, r2, r3, r4)) :
    Calls Tryd.prog 14 #[.string a0] w fun e w' => e = .returned (.tuple #[.agg #[.bool r1, .string r2, .int .i64 r3], .int .i64 r4]) ∧ Below w.heap.size w w' := by
  have hu23 := Tryd.underlying23
  have HB := Aside0.mk (Below.refl w.heap.size w)
  have H : (if (a0.size : Int) > 0 then (if 0 < (a0.size : Int) then (tabardref7_Parse.j0 k a0 0 ((bt a0 0) == 45)) else (none)) else (tabardref7_Parse.j0 k a0 0 false)) = some (r1, r2, r3, r4) := h
  clear h
  have HC2 := Aside0.mk H
  clear H
  go_enter Tryd.func14, Tryd.ntmps14
  go_upto_region 2 with (first | ((with_reducible refine gate_dst (N := 2) rfl ?_); refine box_event ?hg (N := 2) ?hd (cs := #[.bool false, .string (⟨#[]⟩ : ByteArray), .int .i64 0]) (t := 23) ?hr ?_; (case hd => rfl); (case hg => rfl); (case hr => first | (go_simp; done) | (go_simp; rfl)); intro gb243 hg w3 hbox hb; have n0_ := Aside0.mk (below_step (by repeat (first | (with_reducible first | exact HB.out | apply below_alloc | apply pw_below_drewN | apply below_drew1) | exact HB.out)) hb); have n1_ := Aside0.mk (hbox); have n2_ := Aside0.mk ((by rw [hg]; exact (below_size (by repeat (first | (with_reducible first | exact HB.out | apply below_alloc | apply pw_below_drewN | apply below_drew1) | exact HB.out))) : w.heap.size ≤ gb243)); have n3_ := Aside0.mk ((by rw [hg]; exact (below_size (by repeat (first | (with_reducible first | exact HB.out | apply below_alloc | apply pw_below_drewN | apply below_drew1) | exact HB.out))) : w.heap.size ≤ gb243)); clear HB; have HB := n0_; have BK243 := n1_; have GW243 := n2_; have GE243 := n3_; clear n0_ n1_ n2_ n3_; clear hb hbox hg))
  (try simp only [Act.put, List.setIfInBounds_toArray, List.set_cons_zero, List.set_cons_succ])
  go_cut [5] (fun v5 wc => ∃ (kq : Nat) (x5_1 : Bool), v5 = .bool x5_1 ∧ Aside0 (tabardref7_Parse.j0 kq a0 0 x5_1 = some (r1, r2, r3, r4)) ∧ Aside0 (kq ≤ k) ∧ Aside0 (wc.heap[gb243]? = some (.cells #[.bool false, .string (⟨#[]⟩ : ByteArray), .int .i64 0] 23 (0, 0))) ∧ Aside0 (Below w.heap.size w wc))
  case first =>
    have H := HC2.out
    clear HC2
    by_cases c4 : (a0.size : Int) > 0
    · rw [if_pos c4] at H
      have c4b0 : decide (0 < (a0.size : Int)) = true := decide_eq_true c4
      have c4b1 : decide (0 < a0.size) = true := decide_eq_true (by omega)
      clear c4
      (first | rw [c4b0] | (simp only [i64_w, i32_w]; rw [c4b0]) | skip)
      by_cases c5 : 0 < (a0.size : Int)
      · rw [if_pos c5] at H
        have c5b0 : decide (0 < (a0.size : Int)) = true := decide_eq_true c5
        have c5b1 : decide (0 < a0.size) = true := decide_eq_true (by omega)
        clear c5
        have H' := Aside0.mk H
        clear H
        have p6 : 0 ≤ (0 : Int) := (by omega)
        have q6 : 0 < a0.size := (by have : (0 : Int) < (a0.size : Int) := of_decide_eq_true (by first | (with_reducible assumption) | assumption); omega)
        have hx6 : ∀ h : 0 < a0.size, ((a0[0]'h).toNat : Int) = bt a0 0 := bt_at a0 0
        clear p6
        have qi6 : (0 < (a0.size : Int)) = True := eq_true (of_decide_eq_true (by first | (with_reducible assumption) | assumption))
        replace q6 := eq_true q6
        go_wp2
        go_meet
        case rel => exact ⟨_, (((bt a0 0) == 45)), (by first | rfl | (simp; done) | (simp [*]; done)), H', ⟨by first | omega | exact Nat.le_refl _⟩, ⟨by (with_reducible repeat (first | refine blk_drewN ?_ _ | refine blk_drew ?_ | refine blk_alloc ?_ _)); exact BK243.out⟩, ⟨by repeat (first | (with_reducible first | exact HB.out | apply below_alloc | apply pw_below_drewN | apply below_drew1 | refine below_set ?_ GE243.out) | exact HB.out)⟩⟩
      · rw [if_neg c5] at H
        exact absurd H (by simp)
    · rw [if_neg c4] at H
      have c4b0 : decide (0 < (a0.size : Int)) = false := decide_eq_false c4
      have c4b1 : decide (0 < a0.size) = false := decide_eq_false (by omega)
      clear c4
      (first | rw [c4b0] | (simp only [i64_w, i32_w]; rw [c4b0]) | skip)
      have H' := Aside0.mk H
      clear H
      go_wp2
      go_meet
      case rel => exact ⟨_, (false), (by first | rfl | (simp; done) | (simp [*]; done)), H', ⟨by first | omega | exact Nat.le_refl _⟩, ⟨by (with_reducible repeat (first | refine blk_drewN ?_ _ | refine blk_drew ?_ | refine blk_alloc ?_ _)); exact BK243.out⟩, ⟨by repeat (first | (with_reducible first | exact HB.out | apply below_alloc | apply pw_below_drewN | apply below_drew1 | refine below_set ?_ GE243.out) | exact HB.out)⟩⟩
  case rest =>
    clear HC2
    try clear c1
    try clear p2
    try clear c4
    try clear c4b0
    try clear c4b1
    try clear c5
    try clear c5b0
    try clear c5b1
    try clear p6
    try clear q6
    try clear hx6
    try clear qi6
    try clear p6
    try clear q6
    obtain ⟨kq, x5_1, rfl, HA, HJ1, BK243, HB⟩ := hcut
    cases kq with
    | zero => exact absurd HA.out (by simp [tabardref7_Parse.j0])
    | succ kj1 =>
      have H := HA.out
      clear HA
      simp only [tabardref7_Parse.j0] at H
      have HC7 := Aside0.mk H
      clear H
      go_upto_if 20 with (fail)
      go_cut [4] (fun v4 wc => ∃ (kq : Nat) (x4_6 : Int), v4 = .int .i64 x4_6 ∧ Aside0 (tabardref7_Parse.j1 kq a0 x4_6 x5_1 = some (r1, r2, r3, r4)) ∧ Aside0 (kq ≤ kj1) ∧ Aside0 (wc.heap[gb243]? = some (.cells #[.bool false, .string (⟨#[]⟩ : ByteArray), .int .i64 0] 23 (0, 0))) ∧ Aside0 (Below w.heap.size w wc))
      case first =>
        have H := HC7.out
        clear HC7
        by_cases c8 : x5_1 = true
        · subst c8
          have H1 : (tabardref7_Parse.j1 kj1 a0 1 true) = some (r1, r2, r3, r4) := by rw [if_pos rfl] at H; exact H
          clear H
          have H := H1
          clear H1
          have H' := Aside0.mk H
          clear H
          go_wp2
          go_meet
          case rel => exact ⟨_, (1), (by first | rfl | (simp; done) | (simp [*]; done)), (by first | exact H' | (rw [hji48]; exact H') | (rw [hji55]; exact H')), ⟨by have := HJ1.out; first | omega | exact Nat.le_refl _⟩, ⟨by (with_reducible repeat (first | refine blk_drewN ?_ _ | refine blk_drew ?_ | refine blk_alloc ?_ _)); exact BK243.out⟩, ⟨by repeat (first | (with_reducible first | exact HB.out | apply below_alloc | apply pw_below_drewN | apply below_drew1 | refine below_set ?_ GE243.out) | exact HB.out)⟩⟩
        · replace c8 := Bool.eq_false_iff.mpr c8
          subst c8
          have H1 : (tabardref7_Parse.j1 kj1 a0 0 false) = some (r1, r2, r3, r4) := by rw [if_neg (show ¬ (false = true) by decide)] at H; exact H
          clear H
          have H := H1
          clear H1
          have H' := Aside0.mk H
          clear H
          go_wp2
          go_meet
          case rel => exact ⟨_, (0), (by first | rfl | (simp; done) | (simp [*]; done)), (by first | exact H' | (rw [hji48]; exact H') | (rw [hji55]; exact H')), ⟨by have := HJ1.out; first | omega | exact Nat.le_refl _⟩, ⟨by (with_reducible repeat (first | refine blk_drewN ?_ _ | refine blk_drew ?_ | refine blk_alloc ?_ _)); exact BK243.out⟩, ⟨by repeat (first | (with_reducible first | exact HB.out | apply below_alloc | apply pw_below_drewN | apply below_drew1 | refine below_set ?_ GE243.out) | exact HB.out)⟩⟩
      case rest =>
        clear HC7
        try clear c1
        try clear p2
        try clear c4
        try clear c4b0
        try clear c4b1
        try clear c5
        try clear c5b0
        try clear c5b1
        try clear p6
        try clear q6
        try clear hx6
        try clear qi6
        try clear c8
        try clear p2
        try clear p6
        try clear q6
        obtain ⟨kq, x4_6, rfl, HA, HJ6, BK243, HB⟩ := hcut
        cases kq with
        | zero => exact absurd HA.out (by simp [tabardref7_Parse.j1])
        | succ kj6 =>
          have H := HA.out
          clear HA
          simp only [tabardref7_Parse.j1] at H
          have HC9 := Aside0.mk H
          clear H
          go_upto_block 0 with (fail)
          go_cut [4, 6] (fun v4 v6 wc => ∃ (kq : Nat) (x4_8 : Int) (x6_8 : List Int), v4 = .int .i64 x4_8 ∧ Aside0 (tabardref7_Parse.j3 kq a0 x4_8 x5_1 x6_8 = some (r1, r2, r3, r4)) ∧ Aside0 (kq ≤ kj6) ∧ Aside0 (Kd.R (Kd.int .u8) 5 wc w.heap.size (fun _ => True) v6 x6_8) ∧ Aside0 (wc.heap[gb243]? = some (.cells #[.bool false, .string (⟨#[]⟩ : ByteArray), .int .i64 0] 23 (0, 0))) ∧ Aside0 (Below w.heap.size w wc))
          case first =>
            have H := HC9.out
            clear HC9
            have H' := Aside0.mk H
            clear H
            go_wp2
            go_loopg [4, 6] kj6 (fun kq v4 v6 w' => ∃ (x4_3 : Int) (x6_3 : List Int), v4 = .int .i64 x4_3 ∧ Aside0 (tabardref7_Parse.l0 kq a0 x4_3 x5_1 x6_3 = some (r1, r2, r3, r4)) ∧ Aside0 (kq ≤ kj6) ∧ Aside0 (Kd.R (Kd.int .u8) 5 w' w.heap.size (fun _ => True) v6 x6_3) ∧ Aside0 (w'.heap[gb243]? = some (.cells #[.bool false, .string (⟨#[]⟩ : ByteArray), .int .i64 0] 23 (0, 0))) ∧ Aside0 (Below w.heap.size w w'))
            case atStart => exact ⟨(x4_6), (([] : List Int)), (by first | rfl | (simp; done) | (simp [*]; done)), H', ⟨Nat.le_refl _⟩, ⟨by first | exact Kd.R_nil _ _ _ _ _ | exact Kd.N_nil _ _ _ _ _ | exact Kd.V_nil _ _ _ _ _ | exact Kd.Q_nil _ _ _ _ _ | exact Kd.S_nil _ _ _ _ _⟩, ⟨by (with_reducible repeat (first | refine blk_drewN ?_ _ | refine blk_drew ?_ | refine blk_alloc ?_ _)); exact BK243.out⟩, ⟨by repeat (first | (with_reducible first | exact HB.out | apply below_alloc | apply pw_below_drewN | apply below_drew1 | refine below_set ?_ GE243.out) | exact HB.out)⟩⟩
            case round =>
              clear H'
              try clear c1
              try clear p2
              try clear c4
              try clear c4b0
              try clear c4b1
              try clear c5
              try clear c5b0
              try clear c5b1
              try clear p6
              try clear q6
              try clear hx6
              try clear qi6
              try clear c8
              try clear p2
              try clear p6
              try clear q6
              obtain ⟨x4_3, x6_3, rfl, HA, HK3, HO_6, BK243, HB⟩ := hrel
              cases gk with
              | zero => exact absurd HA.out (by simp [tabardref7_Parse.l0])
              | succ k3 =>
                have H := HA.out
                clear HA
                simp only [tabardref7_Parse.l0] at H
                by_cases c10 : x4_3 < (a0.size : Int)
                · as_aux_lemma =>
                  rw [if_pos c10] at H
                  have c10b0 : decide (x4_3 < (a0.size : Int)) = true := decide_eq_true c10
                  clear c10
                  (first | rw [c10b0] | (simp only [i64_w, i32_w]; rw [c10b0]) | skip)
                  by_cases c11 : 0 ≤ x4_3
                  · rw [if_pos c11] at H
                    have c11b0 : decide (0 ≤ x4_3) = true := decide_eq_true c11
                    clear c11
                    replace H := Option.bind_eq_some_iff.mp H
                    obtain ⟨t244, A130, H⟩ := H
                    replace H : (if t244 = true then (if x6_3.length < 140737488355328 then (tabardref7_Parse.l0 k3 a0 (wrap64 (x4_3 + 1)) x5_1 (x6_3 ++ [bt a0 x4_3])) else (none)) else (tabardref7_Parse.j3 k3 a0 x4_3 x5_1 x6_3)) = some (r1, r2, r3, r4) := H
                    have A13 := Aside0.mk A130
                    clear A130
                    by_cases c14 : t244 = true
                    · subst c14
                      have H1 : (if x6_3.length < 140737488355328 then (tabardref7_Parse.l0 k3 a0 (wrap64 (x4_3 + 1)) x5_1 (x6_3 ++ [bt a0 x4_3])) else (none)) = some (r1, r2, r3, r4) := by rw [if_pos rfl] at H; exact H
                      clear H
                      have H := H1
                      clear H1
                      by_cases c16 : x6_3.length < 140737488355328
                      · rw [if_pos c16] at H
                        have LMc16 := Aside0.mk c16
                        clear c16
                        obtain ⟨y245, hy245⟩ : ∃ y_ : List Int, y_ = (x6_3 ++ [bt a0 x4_3]) := ⟨_, rfl⟩
                        replace H : (tabardref7_Parse.l0 k3 a0 (wrap64 (x4_3 + 1)) x5_1 y245) = some (r1, r2, r3, r4) := by first | (rw [hy245]; with_reducible exact H) | (have H2_ := (Option.bind_some _ _).symm.trans H; rw [hy245]; with_reducible exact H2_) | (have H2_ := (Option.bind_some _ _).symm.trans H; with_reducible exact H2_) | with_reducible exact H | (rw [hy245]; exact H) | exact H
                        have Ny245 := Aside0.mk hy245
                        clear hy245
                        have H' := Aside0.mk H
                        clear H
                        have p12 : 0 ≤ (x4_3 : Int) := of_decide_eq_true (by first | (with_reducible assumption) | assumption)
                        have q12 : x4_3 < (a0.size : Int) := of_decide_eq_true (by first | (with_reducible assumption) | assumption)
                        have hx12 := bt_at a0 x4_3
                        replace p12 := eq_true p12
                        replace q12 := eq_true q12
                        go_wp2_with (first | (go_at_call 30; (with_reducible refine (tabardref7_digit.calls (bt a0 x4_3) true _ A13.out).mono ?_); rintro e w' ⟨rfl, ⟨nd, rfl⟩⟩; have p15 : 0 ≤ (x4_3 : Int) := of_decide_eq_true (by first | (with_reducible assumption) | assumption); have q15 : x4_3 < (a0.size : Int) := of_decide_eq_true (by first | (with_reducible assumption) | assumption); have hx15 := bt_at a0 x4_3; replace p15 := eq_true p15; replace q15 := eq_true q15) | ((with_reducible refine gate_builtin (b := .append) (xs := #[.tmp 31, .tmp 35]) rfl ?_); at_builtin; refine Kd.R_append (Kd.int .u8) (w0 := w) w.heap.size rfl (.tmp 31) (.tmp 35) 47 5 (.int .u8 0) 1 rfl Tryd.underlying47 info5 rfl (by decide) (by omega) u6 x6_3 (bt a0 x4_3) [.int .u8 (bt a0 x4_3)] (fun _ => True) (fun _ => False) rfl rfl ?aP (fun _ hk => hk.elim) ?aF ?aO ?aB ?aS ?aL ?_; (case aP => exact rfl); (case aB => exact (by repeat (first | (with_reducible first | exact HB.out | apply below_alloc | apply pw_below_drewN | apply below_drew1 | refine below_set ?_ GE243.out) | exact HB.out))); (case aF => exact (fun _ _ => trivial)); (case aO => exact (by (with_reducible repeat (first | apply Kd.R_alloc | apply Kd.R_drewN | apply Kd.R_drew)); exact HO_6.out)); (case aS => exact (below_size (by repeat (first | (with_reducible first | exact HB.out | apply below_alloc | apply pw_below_drewN | apply below_drew1 | refine below_set ?_ GE243.out) | exact HB.out)))); (case aL => have := LMc16.out; omega); intro v246 w17 ho hb hg hat; rw [← Ny245.out] at ho; have n0_ := Aside0.mk (blk_grown (g := gb243) (o := .cells #[.bool false, .string (⟨#[]⟩ : ByteArray), .int .i64 0] 23 (0, 0)) (by (with_reducible repeat (first | refine blk_drewN ?_ _ | refine blk_drew ?_ | refine blk_alloc ?_ _)); exact BK243.out) hg (Kd.R_ne HO_6.out BK243.out (by decide))); have n1_ := Aside0.mk (hb); have n2_ := Aside0.mk (ho); clear BK243; clear HB; clear HO_6; have BK243 := n0_; have HB := n1_; have HO247 := n2_; clear n0_ n1_ n2_; clear ho hb hg hat))
                        go_roundg k3
                        case measure => have := HJ1.out; have := HJ6.out; have := HK3.out; omega
                        case rel => exact ⟨(wrap64 (x4_3 + 1)), (y245), (by first | rfl | (simp; done) | (simp [*]; done)), (by first | exact H' | (rw [hji48]; exact H') | (rw [hji55]; exact H')), ⟨by have := HJ1.out; have := HJ6.out; have := HK3.out; omega⟩, ⟨by (with_reducible repeat (first | apply Kd.R_alloc | apply Kd.R_drewN | apply Kd.R_drew)); exact HO247.out⟩, ⟨by (with_reducible repeat (first | refine blk_drewN ?_ _ | refine blk_drew ?_ | refine blk_alloc ?_ _)); exact BK243.out⟩, ⟨by repeat (first | (with_reducible first | exact HB.out | apply below_alloc | apply pw_below_drewN | apply below_drew1 | refine below_set ?_ GE243.out) | exact HB.out)⟩⟩
                      · rw [if_neg c16] at H
                        exact absurd H (by simp)
                    · replace c14 := Bool.eq_false_iff.mpr c14
                      subst c14
                      have H1 : (tabardref7_Parse.j3 k3 a0 x4_3 x5_1 x6_3) = some (r1, r2, r3, r4) := by rw [if_neg (show ¬ (false = true) by decide)] at H; exact H
                      clear H
                      have H := H1
                      clear H1
                      have H' := Aside0.mk H
                      clear H
                      have p12 : 0 ≤ (x4_3 : Int) := of_decide_eq_true (by first | (with_reducible assumption) | assumption)
                      have q12 : x4_3 < (a0.size : Int) := of_decide_eq_true (by first | (with_reducible assumption) | assumption)
                      have hx12 := bt_at a0 x4_3
                      replace p12 := eq_true p12
                      replace q12 := eq_true q12
                      go_wp2_with (first | (go_at_call 30; (with_reducible refine (tabardref7_digit.calls (bt a0 x4_3) false _ A13.out).mono ?_); rintro e w' ⟨rfl, ⟨nd, rfl⟩⟩))
                      go_meet
                      case rel => exact ⟨_, (x4_3), (x6_3), (by first | rfl | (simp; done) | (simp [*]; done)), (by first | exact H' | (rw [hji48]; exact H') | (rw [hji55]; exact H')), ⟨by have := HJ1.out; have := HJ6.out; have := HK3.out; first | omega | exact Nat.le_refl _⟩, ⟨by (with_reducible repeat (first | apply Kd.R_alloc | apply Kd.R_drewN | apply Kd.R_drew)); exact HO_6.out⟩, ⟨by (with_reducible repeat (first | refine blk_drewN ?_ _ | refine blk_drew ?_ | refine blk_alloc ?_ _)); exact BK243.out⟩, ⟨by repeat (first | (with_reducible first | exact HB.out | apply below_alloc | apply pw_below_drewN | apply below_drew1 | refine below_set ?_ GE243.out) | exact HB.out)⟩⟩
                  · rw [if_neg c11] at H
                    exact absurd H (by simp)
                · rw [if_neg c10] at H
                  have c10b0 : decide (x4_3 < (a0.size : Int)) = false := decide_eq_false c10
                  clear c10
                  (first | rw [c10b0] | (simp only [i64_w, i32_w]; rw [c10b0]) | skip)
                  have H' := Aside0.mk H
                  clear H
                  go_wp2
                  go_meet
                  case rel => exact ⟨_, (x4_3), (x6_3), (by first | rfl | (simp; done) | (simp [*]; done)), (by first | exact H' | (rw [hji48]; exact H') | (rw [hji55]; exact H')), ⟨by have := HJ1.out; have := HJ6.out; have := HK3.out; first | omega | exact Nat.le_refl _⟩, ⟨by (with_reducible repeat (first | apply Kd.R_alloc | apply Kd.R_drewN | apply Kd.R_drew)); exact HO_6.out⟩, ⟨by (with_reducible repeat (first | refine blk_drewN ?_ _ | refine blk_drew ?_ | refine blk_alloc ?_ _)); exact BK243.out⟩, ⟨by repeat (first | (with_reducible first | exact HB.out | apply below_alloc | apply pw_below_drewN | apply below_drew1 | refine below_set ?_ GE243.out) | exact HB.out)⟩⟩
          case rest =>
            clear HC9
            try clear c1
            try clear p1
            try clear q1
            try clear hx1
            try clear p2
            try clear c4
            try clear c4b0
            try clear c4b1
            try clear c5
            try clear c5b0
            try clear c5b1
            try clear p6
            try clear q6
            try clear hx6
            try clear qi6
            try clear c8
            try clear c10
            try clear c10b0
            try clear c11
            try clear c11b0
            try clear p12
            try clear q12
            try clear hx12
            try clear c14
            try clear p15
            try clear q15
            try clear hx15
            try clear c16
            try clear p12
            try clear p15
            try clear p2
            try clear p6
            try clear q12
            try clear q15
            try clear q6
            obtain ⟨kq, x4_8, x6_8, rfl, HA, HJ8, HO_6, BK243, HB⟩ := hcut
            cases kq with
            | zero => exact absurd HA.out (by simp [tabardref7_Parse.j3])
            | succ kj8 =>
              have H := HA.out
              clear HA
              simp only [tabardref7_Parse.j3] at H
              have HC18 := Aside0.mk H
              clear H
              obtain ⟨Ao19, co19, eo19⟩ := Kd.R_slice HO_6.out
              subst eo19
              go_upto_region 11 with (fail)
              go_cut [50] (fun v50 wc => ∃ (kq : Nat) (x50_17 : Bool), v50 = .bool x50_17 ∧ Aside0 (tabardref7_Parse.j4 kq a0 x4_8 x5_1 x6_8 (x6_8.length : Int) 0 x50_17 = some (r1, r2, r3, r4)) ∧ Aside0 (kq ≤ kj8) ∧ Aside0 (Kd.R (Kd.int .u8) 5 wc w.heap.size (fun _ => True) (.slice Ao19 x6_8.length co19) x6_8) ∧ Aside0 (wc.heap[gb243]? = some (.cells #[.bool false, .string (⟨#[]⟩ : ByteArray), .int .i64 0] 23 (0, 0))) ∧ Aside0 (Below w.heap.size w wc))
              case first =>
                have H := HC18.out
                clear HC18
                by_cases c20 : x4_8 < (a0.size : Int)
                · rw [if_pos c20] at H
                  have c20b0 : decide (x4_8 < (a0.size : Int)) = true := decide_eq_true c20
                  clear c20
                  (first | rw [c20b0] | (simp only [i64_w, i32_w]; rw [c20b0]) | skip)
                  by_cases c21 : 0 ≤ x4_8
                  · rw [if_pos c21] at H
                    have c21b0 : decide (0 ≤ x4_8) = true := decide_eq_true c21
                    clear c21
                    have H' := Aside0.mk H
                    clear H
                    have p22 : 0 ≤ (x4_8 : Int) := of_decide_eq_true (by first | (with_reducible assumption) | assumption)
                    have q22 : x4_8 < (a0.size : Int) := of_decide_eq_true (by first | (with_reducible assumption) | assumption)
                    have hx22 := bt_at a0 x4_8
                    replace p22 := eq_true p22
                    replace q22 := eq_true q22
                    go_wp2
                    go_meet
                    case rel => exact ⟨_, (((bt a0 x4_8) == 46)), (by first | rfl | (simp; done) | (simp [*]; done)), (by first | exact H' | (rw [hji48]; exact H') | (rw [hji55]; exact H')), ⟨by have := HJ1.out; have := HJ6.out; have := HJ8.out; first | omega | exact Nat.le_refl _⟩, ⟨by (with_reducible repeat (first | apply Kd.R_alloc | apply Kd.R_drewN | apply Kd.R_drew)); exact HO_6.out⟩, ⟨by (with_reducible repeat (first | refine blk_drewN ?_ _ | refine blk_drew ?_ | refine blk_alloc ?_ _)); exact BK243.out⟩, ⟨by repeat (first | (with_reducible first | exact HB.out | apply below_alloc | apply pw_below_drewN | apply below_drew1 | refine below_set ?_ GE243.out) | exact HB.out)⟩⟩
                  · rw [if_neg c21] at H
                    exact absurd H (by simp)
                · rw [if_neg c20] at H
                  have c20b0 : decide (x4_8 < (a0.size : Int)) = false := decide_eq_false c20
                  clear c20
                  (first | rw [c20b0] | (simp only [i64_w, i32_w]; rw [c20b0]) | skip)
                  have H' := Aside0.mk H
                  clear H
                  go_wp2
                  go_meet
                  case rel => exact ⟨_, (false), (by first | rfl | (simp; done) | (simp [*]; done)), (by first | exact H' | (rw [hji48]; exact H') | (rw [hji55]; exact H')), ⟨by have := HJ1.out; have := HJ6.out; have := HJ8.out; first | omega | exact Nat.le_refl _⟩, ⟨by (with_reducible repeat (first | apply Kd.R_alloc | apply Kd.R_drewN | apply Kd.R_drew)); exact HO_6.out⟩, ⟨by (with_reducible repeat (first | refine blk_drewN ?_ _ | refine blk_drew ?_ | refine blk_alloc ?_ _)); exact BK243.out⟩, ⟨by repeat (first | (with_reducible first | exact HB.out | apply below_alloc | apply pw_below_drewN | apply below_drew1 | refine below_set ?_ GE243.out) | exact HB.out)⟩⟩
              case rest =>
                clear HC18
                try clear c1
                try clear p1
                try clear q1
                try clear hx1
                try clear c2
                try clear p2
                try clear q2
                try clear hx2
                try clear c4
                try clear c4b0
                try clear c4b1
                try clear c5
                try clear c5b0
                try clear c5b1
                try clear p6
                try clear q6
                try clear hx6
                try clear qi6
                try clear c8
                try clear c10
                try clear c10b0
                try clear c11
                try clear c11b0
                try clear p12
                try clear q12
                try clear hx12
                try clear c14
                try clear p15
                try clear q15
                try clear hx15
                try clear c16
                try clear c20
                try clear c20b0
                try clear c21
                try clear c21b0
                try clear p22
                try clear q22
                try clear hx22
                try clear p1
                try clear p12
                try clear p15
                try clear p2
                try clear p22
                try clear p6
                try clear q1
                try clear q12
                try clear q15
                try clear q22
                try clear q6
                obtain ⟨kq, x50_17, rfl, HA, HJ17, HO_6, BK243, HB⟩ := hcut
                cases kq with
                | zero => exact absurd HA.out (by simp [tabardref7_Parse.j4])
                | succ kj17 =>
                  have H := HA.out
                  clear HA
                  simp only [tabardref7_Parse.j4] at H
                  have HC23 := Aside0.mk H
                  clear H
                  go_upto_if 50 with (fail)
                  go_cut [4, 6, 8] (fun v4 v6 v8 wc => ∃ (kq : Nat) (x4_22 : Int) (x6_22 : List Int) (x8_22 : Int), v4 = .int .i64 x4_22 ∧ v8 = .int .i64 x8_22 ∧ Aside0 (tabardref7_Parse.j6 kq a0 x4_22 x5_1 x6_22 (x6_8.length : Int) x8_22 = some (r1, r2, r3, r4)) ∧ Aside0 (kq ≤ kj17) ∧ Aside0 (Kd.R (Kd.int .u8) 5 wc w.heap.size (fun _ => True) v6 x6_22) ∧ Aside0 (wc.heap[gb243]? = some (.cells #[.bool false, .string (⟨#[]⟩ : ByteArray), .int .i64 0] 23 (0, 0))) ∧ Aside0 (Below w.heap.size w wc))
                  case first =>
                    have H := HC23.out
                    clear HC23
                    by_cases c24 : x50_17 = true
                    · as_aux_lemma =>
                      subst c24
                      have H1 : (tabardref7_Parse.l1 kj17 a0 (wrap64 (x4_8 + 1)) x5_1 x6_8 (x6_8.length : Int) 0) = some (r1, r2, r3, r4) := by rw [if_pos rfl] at H; exact H
                      clear H
                      have H := H1
                      clear H1
                      have H' := Aside0.mk H
                      clear H
                      go_wp2
                      go_loopg [4, 6, 8] kj17 (fun kq v4 v6 v8 w' => ∃ (x4_5 : Int) (x6_5 : List Int) (x8_5 : Int), v4 = .int .i64 x4_5 ∧ v8 = .int .i64 x8_5 ∧ Aside0 (tabardref7_Parse.l1 kq a0 x4_5 x5_1 x6_5 (x6_8.length : Int) x8_5 = some (r1, r2, r3, r4)) ∧ Aside0 (kq ≤ kj17) ∧ Aside0 (Kd.R (Kd.int .u8) 5 w' w.heap.size (fun _ => True) v6 x6_5) ∧ Aside0 (w'.heap[gb243]? = some (.cells #[.bool false, .string (⟨#[]⟩ : ByteArray), .int .i64 0] 23 (0, 0))) ∧ Aside0 (Below w.heap.size w w'))
                      case atStart => exact ⟨(wrap64 (x4_8 + 1)), (x6_8), (0), (by first | rfl | (simp; done) | (simp [*]; done)), (by first | rfl | (simp; done) | (simp [*]; done)), H', ⟨Nat.le_refl _⟩, ⟨by (with_reducible repeat (first | apply Kd.R_alloc | apply Kd.R_drewN | apply Kd.R_drew)); exact HO_6.out⟩, ⟨by (with_reducible repeat (first | refine blk_drewN ?_ _ | refine blk_drew ?_ | refine blk_alloc ?_ _)); exact BK243.out⟩, ⟨by repeat (first | (with_reducible first | exact HB.out | apply below_alloc | apply pw_below_drewN | apply below_drew1 | refine below_set ?_ GE243.out) | exact HB.out)⟩⟩
                      case round =>
                        clear H'
                        try clear c1
                        try clear p1
                        try clear q1
                        try clear hx1
                        try clear c2
                        try clear p2
                        try clear q2
                        try clear hx2
                        try clear c4
                        try clear c4b0
                        try clear c4b1
                        try clear c5
                        try clear c5b0
                        try clear c5b1
                        try clear p6
                        try clear q6
                        try clear hx6
                        try clear qi6
                        try clear c8
                        try clear c10
                        try clear c10b0
                        try clear c11
                        try clear c11b0
                        try clear p12
                        try clear q12
                        try clear hx12
                        try clear c14
                        try clear p15
                        try clear q15
                        try clear hx15
                        try clear c16
                        try clear c20
                        try clear c20b0
                        try clear c21
                        try clear c21b0
                        try clear p22
                        try clear q22
                        try clear hx22
                        try clear c24
                        try clear p1
                        try clear p12
                        try clear p15
                        try clear p2
                        try clear p22
                        try clear p6
                        try clear q1
                        try clear q12
                        try clear q15
                        try clear q2
                        try clear q22
                        try clear q6
                        obtain ⟨x4_5, x6_5, x8_5, rfl, rfl, HA, HK5, HO_6, BK243, HB⟩ := hrel
                        cases gk with
                        | zero => exact absurd HA.out (by simp [tabardref7_Parse.l1])
                        | succ k5 =>
                          have H := HA.out
                          clear HA
                          simp only [tabardref7_Parse.l1] at H
                          by_cases c25 : x4_5 < (a0.size : Int)
                          · rw [if_pos c25] at H
                            have c25b0 : decide (x4_5 < (a0.size : Int)) = true := decide_eq_true c25
                            clear c25
                            (first | rw [c25b0] | (simp only [i64_w, i32_w]; rw [c25b0]) | skip)
                            by_cases c26 : 0 ≤ x4_5
                            · rw [if_pos c26] at H
                              have c26b0 : decide (0 ≤ x4_5) = true := decide_eq_true c26
                              clear c26
                              replace H := Option.bind_eq_some_iff.mp H
                              obtain ⟨t248, A280, H⟩ := H
                              replace H : (if t248 = true then (if x6_5.length < 140737488355328 then (tabardref7_Parse.l1 k5 a0 (wrap64 (x4_5 + 1)) x5_1 (x6_5 ++ [bt a0 x4_5]) (x6_8.length : Int) (wrap64 (x8_5 - 1))) else (none)) else (tabardref7_Parse.j6 k5 a0 x4_5 x5_1 x6_5 (x6_8.length : Int) x8_5)) = some (r1, r2, r3, r4) := H
                              have A28 := Aside0.mk A280
                              clear A280
                              by_cases c29 : t248 = true
                              · subst c29
                                have H1 : (if x6_5.length < 140737488355328 then (tabardref7_Parse.l1 k5 a0 (wrap64 (x4_5 + 1)) x5_1 (x6_5 ++ [bt a0 x4_5]) (x6_8.length : Int) (wrap64 (x8_5 - 1))) else (none)) = some (r1, r2, r3, r4) := by rw [if_pos rfl] at H; exact H
                                clear H
                                have H := H1
                                clear H1
                                by_cases c31 : x6_5.length < 140737488355328
                                · rw [if_pos c31] at H
                                  have LMc31 := Aside0.mk c31
                                  clear c31
                                  obtain ⟨y249, hy249⟩ : ∃ y_ : List Int, y_ = (x6_5 ++ [bt a0 x4_5]) := ⟨_, rfl⟩
                                  replace H : (tabardref7_Parse.l1 k5 a0 (wrap64 (x4_5 + 1)) x5_1 y249 (x6_8.length : Int) (wrap64 (x8_5 - 1))) = some (r1, r2, r3, r4) := by first | (rw [hy249]; with_reducible exact H) | (have H2_ := (Option.bind_some _ _).symm.trans H; rw [hy249]; with_reducible exact H2_) | (have H2_ := (Option.bind_some _ _).symm.trans H; with_reducible exact H2_) | with_reducible exact H | (rw [hy249]; exact H) | exact H
                                  have Ny249 := Aside0.mk hy249
                                  clear hy249
                                  have H' := Aside0.mk H
                                  clear H
                                  have p27 : 0 ≤ (x4_5 : Int) := of_decide_eq_true (by first | (with_reducible assumption) | assumption)
                                  have q27 : x4_5 < (a0.size : Int) := of_decide_eq_true (by first | (with_reducible assumption) | assumption)
                                  have hx27 := bt_at a0 x4_5
                                  replace p27 := eq_true p27
                                  replace q27 := eq_true q27
                                  go_wp2_with (first | (go_at_call 30; (with_reducible refine (tabardref7_digit.calls (bt a0 x4_5) true _ A28.out).mono ?_); rintro e w' ⟨rfl, ⟨nd, rfl⟩⟩; have p30 : 0 ≤ (x4_5 : Int) := of_decide_eq_true (by first | (with_reducible assumption) | assumption); have q30 : x4_5 < (a0.size : Int) := of_decide_eq_true (by first | (with_reducible assumption) | assumption); have hx30 := bt_at a0 x4_5; replace p30 := eq_true p30; replace q30 := eq_true q30) | ((with_reducible refine gate_builtin (b := .append) (xs := #[.tmp 63, .tmp 67]) rfl ?_); at_builtin; refine Kd.R_append (Kd.int .u8) (w0 := w) w.heap.size rfl (.tmp 63) (.tmp 67) 47 5 (.int .u8 0) 1 rfl Tryd.underlying47 info5 rfl (by decide) (by omega) u6 x6_5 (bt a0 x4_5) [.int .u8 (bt a0 x4_5)] (fun _ => True) (fun _ => False) rfl rfl ?aP (fun _ hk => hk.elim) ?aF ?aO ?aB ?aS ?aL ?_; (case aP => exact rfl); (case aB => exact (by repeat (first | (with_reducible first | exact HB.out | apply below_alloc | apply pw_below_drewN | apply below_drew1 | refine below_set ?_ GE243.out) | exact HB.out))); (case aF => exact (fun _ _ => trivial)); (case aO => exact (by (with_reducible repeat (first | apply Kd.R_alloc | apply Kd.R_drewN | apply Kd.R_drew)); exact HO_6.out)); (case aS => exact (below_size (by repeat (first | (with_reducible first | exact HB.out | apply below_alloc | apply pw_below_drewN | apply below_drew1 | refine below_set ?_ GE243.out) | exact HB.out)))); (case aL => have := LMc31.out; omega); intro v250 w32 ho hb hg hat; rw [← Ny249.out] at ho; have n0_ := Aside0.mk (blk_grown (g := gb243) (o := .cells #[.bool false, .string (⟨#[]⟩ : ByteArray), .int .i64 0] 23 (0, 0)) (by (with_reducible repeat (first | refine blk_drewN ?_ _ | refine blk_drew ?_ | refine blk_alloc ?_ _)); exact BK243.out) hg (Kd.R_ne HO_6.out BK243.out (by decide))); have n1_ := Aside0.mk (hb); have n2_ := Aside0.mk (ho); clear BK243; clear HB; clear HO_6; have BK243 := n0_; have HB := n1_; have HO251 := n2_; clear n0_ n1_ n2_; clear ho hb hg hat))
                                  go_roundg k5
                                  case measure => have := HJ1.out; have := HJ6.out; have := HJ8.out; have := HJ17.out; have := HK5.out; omega
                                  case rel => exact ⟨(wrap64 (x4_5 + 1)), (y249), (wrap64 (x8_5 - 1)), (by first | rfl | (simp; done) | (simp [*]; done)), (by first | rfl | (simp; done) | (simp [*]; done)), (by first | exact H' | (rw [hji48]; exact H') | (rw [hji55]; exact H')), ⟨by have := HJ1.out; have := HJ6.out; have := HJ8.out; have := HJ17.out; have := HK5.out; omega⟩, ⟨by (with_reducible repeat (first | apply Kd.R_alloc | apply Kd.R_drewN | apply Kd.R_drew)); exact HO251.out⟩, ⟨by (with_reducible repeat (first | refine blk_drewN ?_ _ | refine blk_drew ?_ | refine blk_alloc ?_ _)); exact BK243.out⟩, ⟨by repeat (first | (with_reducible first | exact HB.out | apply below_alloc | apply pw_below_drewN | apply below_drew1 | refine below_set ?_ GE243.out) | exact HB.out)⟩⟩
                                · rw [if_neg c31] at H
                                  exact absurd H (by simp)
                              · replace c29 := Bool.eq_false_iff.mpr c29
                                subst c29
                                have H1 : (tabardref7_Parse.j6 k5 a0 x4_5 x5_1 x6_5 (x6_8.length : Int) x8_5) = some (r1, r2, r3, r4) := by rw [if_neg (show ¬ (false = true) by decide)] at H; exact H
                                clear H
                                have H := H1
                                clear H1
                                have H' := Aside0.mk H
                                clear H
                                have p27 : 0 ≤ (x4_5 : Int) := of_decide_eq_true (by first | (with_reducible assumption) | assumption)
                                have q27 : x4_5 < (a0.size : Int) := of_decide_eq_true (by first | (with_reducible assumption) | assumption)
                                have hx27 := bt_at a0 x4_5
                                replace p27 := eq_true p27
                                replace q27 := eq_true q27
                                go_wp2_with (first | (go_at_call 30; (with_reducible refine (tabardref7_digit.calls (bt a0 x4_5) false _ A28.out).mono ?_); rintro e w' ⟨rfl, ⟨nd, rfl⟩⟩))
                                go_meet
                                case rel => exact ⟨_, (x4_5), (x6_5), (x8_5), (by first | rfl | (simp; done) | (simp [*]; done)), (by first | rfl | (simp; done) | (simp [*]; done)), (by first | exact H' | (rw [hji48]; exact H') | (rw [hji55]; exact H')), ⟨by have := HJ1.out; have := HJ6.out; have := HJ8.out; have := HJ17.out; have := HK5.out; first | omega | exact Nat.le_refl _⟩, ⟨by (with_reducible repeat (first | apply Kd.R_alloc | apply Kd.R_drewN | apply Kd.R_drew)); exact HO_6.out⟩, ⟨by (with_reducible repeat (first | refine blk_drewN ?_ _ | refine blk_drew ?_ | refine blk_alloc ?_ _)); exact BK243.out⟩, ⟨by repeat (first | (with_reducible first | exact HB.out | apply below_alloc | apply pw_below_drewN | apply below_drew1 | refine below_set ?_ GE243.out) | exact HB.out)⟩⟩
                            · rw [if_neg c26] at H
                              exact absurd H (by simp)
                          · rw [if_neg c25] at H
                            have c25b0 : decide (x4_5 < (a0.size : Int)) = false := decide_eq_false c25
                            clear c25
                            (first | rw [c25b0] | (simp only [i64_w, i32_w]; rw [c25b0]) | skip)
                            have H' := Aside0.mk H
                            clear H
                            go_wp2
                            go_meet
                            case rel => exact ⟨_, (x4_5), (x6_5), (x8_5), (by first | rfl | (simp; done) | (simp [*]; done)), (by first | rfl | (simp; done) | (simp [*]; done)), (by first | exact H' | (rw [hji48]; exact H') | (rw [hji55]; exact H')), ⟨by have := HJ1.out; have := HJ6.out; have := HJ8.out; have := HJ17.out; have := HK5.out; first | omega | exact Nat.le_refl _⟩, ⟨by (with_reducible repeat (first | apply Kd.R_alloc | apply Kd.R_drewN | apply Kd.R_drew)); exact HO_6.out⟩, ⟨by (with_reducible repeat (first | refine blk_drewN ?_ _ | refine blk_drew ?_ | refine blk_alloc ?_ _)); exact BK243.out⟩, ⟨by repeat (first | (with_reducible first | exact HB.out | apply below_alloc | apply pw_below_drewN | apply below_drew1 | refine below_set ?_ GE243.out) | exact HB.out)⟩⟩
                    · replace c24 := Bool.eq_false_iff.mpr c24
                      subst c24
                      have H1 : (tabardref7_Parse.j6 kj17 a0 x4_8 x5_1 x6_8 (x6_8.length : Int) 0) = some (r1, r2, r3, r4) := by rw [if_neg (show ¬ (false = true) by decide)] at H; exact H
                      clear H
                      have H := H1
                      clear H1
                      have H' := Aside0.mk H
                      clear H
                      go_wp2
                      go_meet
                      case rel => exact ⟨_, (x4_8), (x6_8), (0), (by first | rfl | (simp; done) | (simp [*]; done)), (by first | rfl | (simp; done) | (simp [*]; done)), (by first | exact H' | (rw [hji48]; exact H') | (rw [hji55]; exact H')), ⟨by have := HJ1.out; have := HJ6.out; have := HJ8.out; have := HJ17.out; first | omega | exact Nat.le_refl _⟩, ⟨by (with_reducible repeat (first | apply Kd.R_alloc | apply Kd.R_drewN | apply Kd.R_drew)); exact HO_6.out⟩, ⟨by (with_reducible repeat (first | refine blk_drewN ?_ _ | refine blk_drew ?_ | refine blk_alloc ?_ _)); exact BK243.out⟩, ⟨by repeat (first | (with_reducible first | exact HB.out | apply below_alloc | apply pw_below_drewN | apply below_drew1 | refine below_set ?_ GE243.out) | exact HB.out)⟩⟩
                  case rest =>
                    clear HC23
                    try clear c1
                    try clear p1
                    try clear q1
                    try clear hx1
                    try clear c2
                    try clear p2
                    try clear q2
                    try clear hx2
                    try clear c3
                    try clear p3
                    try clear q3
                    try clear hx3
                    try clear c4
                    try clear c4b0
                    try clear c4b1
                    try clear c5
                    try clear c5b0
                    try clear c5b1
                    try clear p6
                    try clear q6
                    try clear hx6
                    try clear qi6
                    try clear c8
                    try clear c10
                    try clear c10b0
                    try clear c11
                    try clear c11b0
                    try clear p12
                    try clear q12
                    try clear hx12
                    try clear c14
                    try clear p15
                    try clear q15
                    try clear hx15
                    try clear c16
                    try clear c20
                    try clear c20b0
                    try clear c21
                    try clear c21b0
                    try clear p22
                    try clear q22
                    try clear hx22
                    try clear c24
                    try clear c25
                    try clear c25b0
                    try clear c26
                    try clear c26b0
                    try clear p27
                    try clear q27
                    try clear hx27
                    try clear c29
                    try clear p30
                    try clear q30
                    try clear hx30
                    try clear c31
                    try clear p1
                    try clear p12
                    try clear p15
                    try clear p2
                    try clear p22
                    try clear p27
                    try clear p30
                    try clear p6
                    try clear q1
                    try clear q12
                    try clear q15
                    try clear q2
                    try clear q22
                    try clear q27
                    try clear q30
                    try clear q6
                    obtain ⟨kq, x4_22, x6_22, x8_22, rfl, rfl, HA, HJ22, HO_6, BK243, HB⟩ := hcut
                    cases kq with
                    | zero => exact absurd HA.out (by simp [tabardref7_Parse.j6])
                    | succ kj22 =>
                      have H := HA.out
                      clear HA
                      simp only [tabardref7_Parse.j6] at H
                      have HC33 := Aside0.mk H
                      clear H
                      go_upto_region 17 with (fail)
                      go_cut [79] (fun v79 wc => ∃ (kq : Nat) (x79_32 : Bool), v79 = .bool x79_32 ∧ Aside0 (tabardref7_Parse.j7 kq a0 x4_22 x5_1 x6_22 x8_22 x79_32 = some (r1, r2, r3, r4)) ∧ Aside0 (kq ≤ kj22) ∧ Aside0 (Kd.R (Kd.int .u8) 5 wc w.heap.size (fun _ => True) u6 x6_22) ∧ Aside0 (wc.heap[gb243]? = some (.cells #[.bool false, .string (⟨#[]⟩ : ByteArray), .int .i64 0] 23 (0, 0))) ∧ Aside0 (Below w.heap.size w wc))
                      case first =>
                        have H := HC33.out
                        clear HC33
                        by_cases c34 : (x6_22.length : Int) = 0
                        · rw [if_pos c34] at H
                          have c34b0 : ((x6_22.length : Int) == 0) = true := beq_iff_eq.mpr c34
                          have c34b1 : ((x6_22.length : Int) != 0) = false := bne_eq_false_iff_eq.mpr c34
                          clear c34
                          (first | rw [c34b0] | (simp only [i64_w, i32_w]; rw [c34b0]) | skip)
                          have H' := Aside0.mk H
                          clear H
                          obtain ⟨Ao35, co35, eo35⟩ := Kd.R_slice HO_6.out
                          subst eo35
                          go_wp2
                          go_meet
                          case rel => exact ⟨_, (((x6_8.length : Int) == 0)), (by first | rfl | (simp; done) | (simp [*]; done)), (by first | exact H' | (rw [hji48]; exact H') | (rw [hji55]; exact H')), ⟨by have := HJ1.out; have := HJ6.out; have := HJ8.out; have := HJ17.out; have := HJ22.out; first | omega | exact Nat.le_refl _⟩, ⟨by (with_reducible repeat (first | apply Kd.R_alloc | apply Kd.R_drewN | apply Kd.R_drew)); exact HO_6.out⟩, ⟨by (with_reducible repeat (first | refine blk_drewN ?_ _ | refine blk_drew ?_ | refine blk_alloc ?_ _)); exact BK243.out⟩, ⟨by repeat (first | (with_reducible first | exact HB.out | apply below_alloc | apply pw_below_drewN | apply below_drew1 | refine below_set ?_ GE243.out) | exact HB.out)⟩⟩
                        · rw [if_neg c34] at H
                          have c34b0 : ((x6_22.length : Int) == 0) = false := beq_eq_false_iff_ne.mpr c34
                          have c34b1 : ((x6_22.length : Int) != 0) = true := bne_iff_ne.mpr c34
                          have c34b2 : ¬ (x6_22 = []) := fun h_ => c34 (by rw [h_]; rfl)
                          (first | rw [c34b0] | (simp only [i64_w, i32_w]; rw [c34b0]) | skip)
                          have H' := Aside0.mk H
                          clear H
                          obtain ⟨Ao36, co36, eo36⟩ := Kd.R_slice HO_6.out
                          subst eo36
                          go_wp2
                          go_meet
                          case rel => exact ⟨_, (false), (by first | rfl | (simp; done) | (simp [*]; done)), (by first | exact H' | (rw [hji48]; exact H') | (rw [hji55]; exact H')), ⟨by have := HJ1.out; have := HJ6.out; have := HJ8.out; have := HJ17.out; have := HJ22.out; first | omega | exact Nat.le_refl _⟩, ⟨by (with_reducible repeat (first | apply Kd.R_alloc | apply Kd.R_drewN | apply Kd.R_drew)); exact HO_6.out⟩, ⟨by (with_reducible repeat (first | refine blk_drewN ?_ _ | refine blk_drew ?_ | refine blk_alloc ?_ _)); exact BK243.out⟩, ⟨by repeat (first | (with_reducible first | exact HB.out | apply below_alloc | apply pw_below_drewN | apply below_drew1 | refine below_set ?_ GE243.out) | exact HB.out)⟩⟩
                      case rest =>
                        clear HC33
                        try clear c1
                        try clear p1
                        try clear q1
                        try clear hx1
                        try clear c2
                        try clear p2
                        try clear q2
                        try clear hx2
                        try clear c3
                        try clear p3
                        try clear q3
                        try clear hx3
                        try clear c4
                        try clear c4b0
                        try clear c4b1
                        try clear c5
                        try clear c5b0
                        try clear c5b1
                        try clear p6
                        try clear q6
                        try clear hx6
                        try clear qi6
                        try clear c8
                        try clear c10
                        try clear c10b0
                        try clear c11
                        try clear c11b0
                        try clear p12
                        try clear q12
                        try clear hx12
                        try clear c14
                        try clear p15
                        try clear q15
                        try clear hx15
                        try clear c16
                        try clear c20
                        try clear c20b0
                        try clear c21
                        try clear c21b0
                        try clear p22
                        try clear q22
                        try clear hx22
                        try clear c24
                        try clear c25
                        try clear c25b0
                        try clear c26
                        try clear c26b0
                        try clear p27
                        try clear q27
                        try clear hx27
                        try clear c29
                        try clear p30
                        try clear q30
                        try clear hx30
                        try clear c31
                        try clear c34
                        try clear c34b0
                        try clear c34b1
                        try clear c34b2
                        try clear p1
                        try clear p12
                        try clear p15
                        try clear p2
                        try clear p22
                        try clear p27
                        try clear p3
                        try clear p30
                        try clear p6
                        try clear q1
                        try clear q12
                        try clear q15
                        try clear q2
                        try clear q22
                        try clear q27
                        try clear q3
                        try clear q30
                        try clear q6
                        obtain ⟨kq, x79_32, rfl, HA, HJ32, HO_6, BK243, HB⟩ := hcut
                        cases kq with
                        | zero => exact absurd HA.out (by simp [tabardref7_Parse.j7])
                        | succ kj32 =>
                          have H := HA.out
                          clear HA
                          simp only [tabardref7_Parse.j7] at H
                          by_cases c37 : x79_32 = true
                          · subst c37
                            have H1 : (some (false, (⟨#[]⟩ : ByteArray), 0, 3)) = some (r1, r2, r3, r4) := by rw [if_pos rfl] at H; exact H
                            clear H
                            have H := H1
                            clear H1
                            simp only [Option.some.injEq, Prod.mk.injEq] at H
                            obtain ⟨rfl, rfl, rfl, rfl⟩ := H
                            have hcz38_0 : wc.cell? ⟨gb243, 0, none⟩ = some (.bool false) := (blk_cell BK243.out 0).trans rfl
                            have hcz38_1 : wc.cell? ⟨gb243, 1, none⟩ = some (.string (⟨#[]⟩ : ByteArray)) := (blk_cell BK243.out 1).trans rfl
                            have hcz38_2 : wc.cell? ⟨gb243, 2, none⟩ = some (.int .i64 0) := (blk_cell BK243.out 2).trans rfl
                            have hfz38_0 := blk_frozen BK243.out 0
                            have hfz38_1 := blk_frozen BK243.out 1
                            have hfz38_2 := blk_frozen BK243.out 2
                            go_wp2
                            refine bodyPost_ret (results_ct rfl _ _ gb243 23 #[.bool false, .string (⟨#[]⟩ : ByteArray), .int .i64 0] (0, 0) _ rfl (by (with_reducible repeat (first | refine blk_drewN ?_ _ | refine blk_drew ?_ | refine blk_alloc ?_ _)); refine blk_put (cs := #[.bool false, .string (⟨#[]⟩ : ByteArray), .int .i64 0]) ?_ 2 _ rfl; (with_reducible repeat (first | refine blk_drewN ?_ _ | refine blk_drew ?_ | refine blk_alloc ?_ _)); refine blk_put (cs := #[.bool false, .string (⟨#[]⟩ : ByteArray), .int .i64 0]) ?_ 1 _ rfl; (with_reducible repeat (first | refine blk_drewN ?_ _ | refine blk_drew ?_ | refine blk_alloc ?_ _)); refine blk_put (cs := #[.bool false, .string (⟨#[]⟩ : ByteArray), .int .i64 0]) ?_ 0 _ rfl; (with_reducible repeat (first | refine blk_drewN ?_ _ | refine blk_drew ?_ | refine blk_alloc ?_ _)); exact BK243.out) Tryd.underlying23 rfl (by kernel_rfl)) rfl ?_
                            exact ⟨by first | rfl | (simp [errW_none, errW_some] <;> rfl) | (simp [*, errW_none, errW_some] <;> rfl), by repeat (first | (with_reducible first | exact HB.out | apply below_alloc | apply pw_below_drewN | apply below_drew1 | refine below_set ?_ GE243.out) | exact HB.out)⟩
                          · replace c37 := Bool.eq_false_iff.mpr c37
                            subst c37
                            have H1 : (if x4_22 < (a0.size : Int) then (if 0 ≤ x4_22 then (if (bt a0 x4_22) = 101 then (tabardref7_Parse.j8 kj32 a0 x4_22 x5_1 x6_22 x8_22 true) else (tabardref7_Parse.j8 kj32 a0 x4_22 x5_1 x6_22 x8_22 ((bt a0 x4_22) == 69))) else (none)) else (tabardref7_Parse.j8 kj32 a0 x4_22 x5_1 x6_22 x8_22 false)) = some (r1, r2, r3, r4) := by rw [if_neg (show ¬ (false = true) by decide)] at H; exact H
                            clear H
                            have H := H1
                            clear H1
                            have HC39 := Aside0.mk H
                            clear H
                            go_upto_region 19 with (fail)
                            go_cut [96] (fun v96 wc => ∃ (kq : Nat) (x96_38 : Bool), v96 = .bool x96_38 ∧ Aside0 (tabardref7_Parse.j8 kq a0 x4_22 x5_1 x6_22 x8_22 x96_38 = some (r1, r2, r3, r4)) ∧ Aside0 (kq ≤ kj32) ∧ Aside0 (Kd.R (Kd.int .u8) 5 wc w.heap.size (fun _ => True) u6 x6_22) ∧ Aside0 (wc.heap[gb243]? = some (.cells #[.bool false, .string (⟨#[]⟩ : ByteArray), .int .i64 0] 23 (0, 0))) ∧ Aside0 (Below w.heap.size w wc))
                            case first =>
                              have H := HC39.out
                              clear HC39
                              by_cases c40 : x4_22 < (a0.size : Int)
                              · as_aux_lemma =>
                                rw [if_pos c40] at H
                                have c40b0 : decide (x4_22 < (a0.size : Int)) = true := decide_eq_true c40
                                clear c40
                                (first | rw [c40b0] | (simp only [i64_w, i32_w]; rw [c40b0]) | skip)
                                by_cases c41 : 0 ≤ x4_22
                                · rw [if_pos c41] at H
                                  have c41b0 : decide (0 ≤ x4_22) = true := decide_eq_true c41
                                  clear c41
                                  by_cases c43 : (bt a0 x4_22) = 101
                                  · rw [if_pos c43] at H
                                    have c43b0 : ((bt a0 x4_22) == 101) = true := beq_iff_eq.mpr c43
                                    have c43b1 : ((bt a0 x4_22) != 101) = false := bne_eq_false_iff_eq.mpr c43
                                    clear c43
                                    have H' := Aside0.mk H
                                    clear H
                                    have p42 : 0 ≤ (x4_22 : Int) := of_decide_eq_true (by first | (with_reducible assumption) | assumption)
                                    have q42 : x4_22 < (a0.size : Int) := of_decide_eq_true (by first | (with_reducible assumption) | assumption)
                                    have hx42 := bt_at a0 x4_22
                                    replace p42 := eq_true p42
                                    replace q42 := eq_true q42
                                    go_wp2
                                    go_meet
                                    case rel => exact ⟨_, (true), (by first | rfl | (simp; done) | (simp [*]; done)), (by first | exact H' | (rw [hji48]; exact H') | (rw [hji55]; exact H')), ⟨by have := HJ1.out; have := HJ6.out; have := HJ8.out; have := HJ17.out; have := HJ22.out; have := HJ32.out; first | omega | exact Nat.le_refl _⟩, ⟨by (with_reducible repeat (first | apply Kd.R_alloc | apply Kd.R_drewN | apply Kd.R_drew)); exact HO_6.out⟩, ⟨by (with_reducible repeat (first | refine blk_drewN ?_ _ | refine blk_drew ?_ | refine blk_alloc ?_ _)); exact BK243.out⟩, ⟨by repeat (first | (with_reducible first | exact HB.out | apply below_alloc | apply pw_below_drewN | apply below_drew1 | refine below_set ?_ GE243.out) | exact HB.out)⟩⟩
                                  · rw [if_neg c43] at H
                                    have c43b0 : ((bt a0 x4_22) == 101) = false := beq_eq_false_iff_ne.mpr c43
                                    have c43b1 : ((bt a0 x4_22) != 101) = true := bne_iff_ne.mpr c43
                                    have H' := Aside0.mk H
                                    clear H
                                    have p42 : 0 ≤ (x4_22 : Int) := of_decide_eq_true (by first | (with_reducible assumption) | assumption)
                                    have q42 : x4_22 < (a0.size : Int) := of_decide_eq_true (by first | (with_reducible assumption) | assumption)
                                    have hx42 := bt_at a0 x4_22
                                    replace p42 := eq_true p42
                                    replace q42 := eq_true q42
                                    have p44 : 0 ≤ (x4_22 : Int) := of_decide_eq_true (by first | (with_reducible assumption) | assumption)
                                    have q44 : x4_22 < (a0.size : Int) := of_decide_eq_true (by first | (with_reducible assumption) | assumption)
                                    have hx44 := bt_at a0 x4_22
                                    replace p44 := eq_true p44
                                    replace q44 := eq_true q44
                                    go_wp2
                                    go_meet
                                    case rel => exact ⟨_, (((bt a0 x4_22) == 69)), (by first | rfl | (simp; done) | (simp [*]; done)), (by first | exact H' | (rw [hji48]; exact H') | (rw [hji55]; exact H')), ⟨by have := HJ1.out; have := HJ6.out; have := HJ8.out; have := HJ17.out; have := HJ22.out; have := HJ32.out; first | omega | exact Nat.le_refl _⟩, ⟨by (with_reducible repeat (first | apply Kd.R_alloc | apply Kd.R_drewN | apply Kd.R_drew)); exact HO_6.out⟩, ⟨by (with_reducible repeat (first | refine blk_drewN ?_ _ | refine blk_drew ?_ | refine blk_alloc ?_ _)); exact BK243.out⟩, ⟨by repeat (first | (with_reducible first | exact HB.out | apply below_alloc | apply pw_below_drewN | apply below_drew1 | refine below_set ?_ GE243.out) | exact HB.out)⟩⟩
                                · rw [if_neg c41] at H
                                  exact absurd H (by simp)
                              · rw [if_neg c40] at H
                                have c40b0 : decide (x4_22 < (a0.size : Int)) = false := decide_eq_false c40
                                clear c40
                                (first | rw [c40b0] | (simp only [i64_w, i32_w]; rw [c40b0]) | skip)
                                have H' := Aside0.mk H
                                clear H
                                go_wp2
                                go_meet
                                case rel => exact ⟨_, (false), (by first | rfl | (simp; done) | (simp [*]; done)), (by first | exact H' | (rw [hji48]; exact H') | (rw [hji55]; exact H')), ⟨by have := HJ1.out; have := HJ6.out; have := HJ8.out; have := HJ17.out; have := HJ22.out; have := HJ32.out; first | omega | exact Nat.le_refl _⟩, ⟨by (with_reducible repeat (first | apply Kd.R_alloc | apply Kd.R_drewN | apply Kd.R_drew)); exact HO_6.out⟩, ⟨by (with_reducible repeat (first | refine blk_drewN ?_ _ | refine blk_drew ?_ | refine blk_alloc ?_ _)); exact BK243.out⟩, ⟨by repeat (first | (with_reducible first | exact HB.out | apply below_alloc | apply pw_below_drewN | apply below_drew1 | refine below_set ?_ GE243.out) | exact HB.out)⟩⟩
                            case rest =>
                              clear HC39
                              try clear c1
                              try clear p1
                              try clear q1
                              try clear hx1
                              try clear c2
                              try clear p2
                              try clear q2
                              try clear hx2
                              try clear c3
                              try clear p3
                              try clear q3
                              try clear hx3
                              try clear c4
                              try clear c4b0
                              try clear c4b1
                              try clear p4
                              try clear q4
                              try clear hx4
                              try clear c5
                              try clear c5b0
                              try clear c5b1
                              try clear p6
                              try clear q6
                              try clear hx6
                              try clear qi6
                              try clear c8
                              try clear c10
                              try clear c10b0
                              try clear c11
                              try clear c11b0
                              try clear p12
                              try clear q12
                              try clear hx12
                              try clear c14
                              try clear p15
                              try clear q15
                              try clear hx15
                              try clear c16
                              try clear c20
                              try clear c20b0
                              try clear c21
                              try clear c21b0
                              try clear p22
                              try clear q22
                              try clear hx22
                              try clear c24
                              try clear c25
                              try clear c25b0
                              try clear c26
                              try clear c26b0
                              try clear p27
                              try clear q27
                              try clear hx27
                              try clear c29
                              try clear p30
                              try clear q30
                              try clear hx30
                              try clear c31
                              try clear c34
                              try clear c34b0
                              try clear c34b1
                              try clear c34b2
                              try clear c37
                              try clear c40
                              try clear c40b0
                              try clear c41
                              try clear c41b0
                              try clear p42
                              try clear q42
                              try clear hx42
                              try clear c43
                              try clear c43b0
                              try clear c43b1
                              try clear p44
                              try clear q44
                              try clear hx44
                              try clear hcz38_0
                              try clear hcz38_1
                              try clear hcz38_2
                              try clear hfz38_0
                              try clear hfz38_1
                              try clear hfz38_2
                              try clear p1
                              try clear p12
                              try clear p15
                              try clear p2
                              try clear p22
                              try clear p27
                              try clear p3
                              try clear p30
                              try clear p42
                              try clear p44
                              try clear p6
                              try clear q1
                              try clear q12
                              try clear q15
                              try clear q2
                              try clear q22
                              try clear q27
                              try clear q3
                              try clear q30
                              try clear q42
                              try clear q44
                              try clear q6
                              obtain ⟨kq, x96_38, rfl, HA, HJ38, HO_6, BK243, HB⟩ := hcut
                              cases kq with
                              | zero => exact absurd HA.out (by simp [tabardref7_Parse.j8])
                              | succ kj38 =>
                                have H := HA.out
                                clear HA
                                simp only [tabardref7_Parse.j8] at H
                                by_cases c45 : x96_38 = true
                                · subst c45
                                  have H1 : (if (wrap64 (x4_22 + 1)) < (a0.size : Int) then (if 0 ≤ (wrap64 (x4_22 + 1)) then (if (bt a0 (wrap64 (x4_22 + 1))) = 43 then (tabardref7_Parse.j9 kj38 a0 (wrap64 (x4_22 + 1)) x5_1 x6_22 x8_22 1 true) else (tabardref7_Parse.j9 kj38 a0 (wrap64 (x4_22 + 1)) x5_1 x6_22 x8_22 1 ((bt a0 (wrap64 (x4_22 + 1))) == 45))) else (none)) else (tabardref7_Parse.j9 kj38 a0 (wrap64 (x4_22 + 1)) x5_1 x6_22 x8_22 1 false)) = some (r1, r2, r3, r4) := by rw [if_pos rfl] at H; exact H
                                  clear H
                                  have H := H1
                                  clear H1
                                  have HC46 := Aside0.mk H
                                  clear H
                                  go_upto_region 22 with (fail)
                                  go_cut [114] (fun v114 wc => ∃ (kq : Nat) (x114_45 : Bool), v114 = .bool x114_45 ∧ Aside0 (tabardref7_Parse.j9 kq a0 (wrap64 (x4_22 + 1)) x5_1 x6_22 x8_22 1 x114_45 = some (r1, r2, r3, r4)) ∧ Aside0 (kq ≤ kj38) ∧ Aside0 (Kd.R (Kd.int .u8) 5 wc w.heap.size (fun _ => True) u6 x6_22) ∧ Aside0 (wc.heap[gb243]? = some (.cells #[.bool false, .string (⟨#[]⟩ : ByteArray), .int .i64 0] 23 (0, 0))) ∧ Aside0 (Below w.heap.size w wc))
                                  case first =>
                                    have H := HC46.out
                                    clear HC46
                                    by_cases c47 : (wrap64 (x4_22 + 1)) < (a0.size : Int)
                                    · as_aux_lemma =>
                                      rw [if_pos c47] at H
                                      have c47b0 : decide ((wrap64 (x4_22 + 1)) < (a0.size : Int)) = true := decide_eq_true c47
                                      clear c47
                                      (first | rw [c47b0] | (simp only [i64_w, i32_w]; rw [c47b0]) | skip)
                                      obtain ⟨ji48, hji48⟩ : ∃ j_ : Int, (wrap64 (x4_22 + 1)) = j_ := ⟨_, rfl⟩
                                      replace H : (if 0 ≤ (ji48) then (if (bt a0 (ji48)) = 43 then (tabardref7_Parse.j9 kj38 a0 ji48 x5_1 x6_22 x8_22 1 true) else (tabardref7_Parse.j9 kj38 a0 ji48 x5_1 x6_22 x8_22 1 ((bt a0 (ji48)) == 45))) else (none)) = some (r1, r2, r3, r4) := by first | (rw [hji48] at H; exact H) | (simp only [hji48] at H ⊢; exact H)
                                      (try rw [hji48] at c47b0)
                                      have hji48w : (IntKind.i64.wrap (x4_22 + 1)) = ji48 := (i64_w _).trans hji48
                                      by_cases c49 : 0 ≤ (ji48)
                                      · rw [if_pos c49] at H
                                        have c49b0 : decide (0 ≤ (ji48)) = true := decide_eq_true c49
                                        clear c49
                                        by_cases c51 : (bt a0 (ji48)) = 43
                                        · rw [if_pos c51] at H
                                          have c51b0 : ((bt a0 (ji48)) == 43) = true := beq_iff_eq.mpr c51
                                          have c51b1 : ((bt a0 (ji48)) != 43) = false := bne_eq_false_iff_eq.mpr c51
                                          clear c51
                                          have H' := Aside0.mk H
                                          clear H
                                          have p50 : 0 ≤ ((ji48) : Int) := of_decide_eq_true (by first | (with_reducible assumption) | assumption)
                                          have q50 : (ji48) < (a0.size : Int) := of_decide_eq_true (by first | (with_reducible assumption) | assumption)
                                          have hx50 := bt_at a0 (ji48)
                                          replace p50 := eq_true p50
                                          replace q50 := eq_true q50
                                          go_wp2
                                          go_meet
                                          case rel => exact ⟨_, (true), (by first | rfl | (simp; done) | (simp [*]; done)), (by first | exact H' | (rw [hji48]; exact H') | (rw [hji55]; exact H')), ⟨by have := HJ1.out; have := HJ6.out; have := HJ8.out; have := HJ17.out; have := HJ22.out; have := HJ32.out; have := HJ38.out; first | omega | exact Nat.le_refl _⟩, ⟨by (with_reducible repeat (first | apply Kd.R_alloc | apply Kd.R_drewN | apply Kd.R_drew)); exact HO_6.out⟩, ⟨by (with_reducible repeat (first | refine blk_drewN ?_ _ | refine blk_drew ?_ | refine blk_alloc ?_ _)); exact BK243.out⟩, ⟨by repeat (first | (with_reducible first | exact HB.out | apply below_alloc | apply pw_below_drewN | apply below_drew1 | refine below_set ?_ GE243.out) | exact HB.out)⟩⟩
                                        · rw [if_neg c51] at H
                                          have c51b0 : ((bt a0 (ji48)) == 43) = false := beq_eq_false_iff_ne.mpr c51
                                          have c51b1 : ((bt a0 (ji48)) != 43) = true := bne_iff_ne.mpr c51
                                          have H' := Aside0.mk H
                                          clear H
                                          have p50 : 0 ≤ ((ji48) : Int) := of_decide_eq_true (by first | (with_reducible assumption) | assumption)
                                          have q50 : (ji48) < (a0.size : Int) := of_decide_eq_true (by first | (with_reducible assumption) | assumption)
                                          have hx50 := bt_at a0 (ji48)
                                          replace p50 := eq_true p50
                                          replace q50 := eq_true q50
                                          have p52 : 0 ≤ ((ji48) : Int) := of_decide_eq_true (by first | (with_reducible assumption) | assumption)
                                          have q52 : (ji48) < (a0.size : Int) := of_decide_eq_true (by first | (with_reducible assumption) | assumption)
                                          have hx52 := bt_at a0 (ji48)
                                          replace p52 := eq_true p52
                                          replace q52 := eq_true q52
                                          go_wp2
                                          go_meet
                                          case rel => exact ⟨_, (((bt a0 (ji48)) == 45)), (by first | rfl | (simp; done) | (simp only [← hji48] <;> (first | rfl | simp)) | (simp [*]; done)), (by first | exact H' | (rw [hji48]; exact H') | (rw [hji55]; exact H')), ⟨by have := HJ1.out; have := HJ6.out; have := HJ8.out; have := HJ17.out; have := HJ22.out; have := HJ32.out; have := HJ38.out; first | omega | exact Nat.le_refl _⟩, ⟨by (with_reducible repeat (first | apply Kd.R_alloc | apply Kd.R_drewN | apply Kd.R_drew)); exact HO_6.out⟩, ⟨by (with_reducible repeat (first | refine blk_drewN ?_ _ | refine blk_drew ?_ | refine blk_alloc ?_ _)); exact BK243.out⟩, ⟨by repeat (first | (with_reducible first | exact HB.out | apply below_alloc | apply pw_below_drewN | apply below_drew1 | refine below_set ?_ GE243.out) | exact HB.out)⟩⟩
                                      · rw [if_neg c49] at H
                                        exact absurd H (by simp)
                                    · rw [if_neg c47] at H
                                      have c47b0 : decide ((wrap64 (x4_22 + 1)) < (a0.size : Int)) = false := decide_eq_false c47
                                      clear c47
                                      (first | rw [c47b0] | (simp only [i64_w, i32_w]; rw [c47b0]) | skip)
                                      have H' := Aside0.mk H
                                      clear H
                                      go_wp2
                                      go_meet
                                      case rel => exact ⟨_, (false), (by first | rfl | (simp; done) | (simp [*]; done)), (by first | exact H' | (rw [hji48]; exact H') | (rw [hji55]; exact H')), ⟨by have := HJ1.out; have := HJ6.out; have := HJ8.out; have := HJ17.out; have := HJ22.out; have := HJ32.out; have := HJ38.out; first | omega | exact Nat.le_refl _⟩, ⟨by (with_reducible repeat (first | apply Kd.R_alloc | apply Kd.R_drewN | apply Kd.R_drew)); exact HO_6.out⟩, ⟨by (with_reducible repeat (first | refine blk_drewN ?_ _ | refine blk_drew ?_ | refine blk_alloc ?_ _)); exact BK243.out⟩, ⟨by repeat (first | (with_reducible first | exact HB.out | apply below_alloc | apply pw_below_drewN | apply below_drew1 | refine below_set ?_ GE243.out) | exact HB.out)⟩⟩
                                  case rest =>
                                    clear HC46
                                    try clear c1
                                    try clear p1
                                    try clear q1
                                    try clear hx1
                                    try clear c2
                                    try clear p2
                                    try clear q2
                                    try clear hx2
                                    try clear c3
                                    try clear p3
                                    try clear q3
                                    try clear hx3
                                    try clear c4
                                    try clear c4b0
                                    try clear c4b1
                                    try clear p4
                                    try clear q4
                                    try clear hx4
                                    try clear c5
                                    try clear c5b0
                                    try clear c5b1
                                    try clear p5
                                    try clear q5
                                    try clear hx5
                                    try clear p6
                                    try clear q6
                                    try clear hx6
                                    try clear qi6
                                    try clear c8
                                    try clear c10
                                    try clear c10b0
                                    try clear c11
                                    try clear c11b0
                                    try clear p12
                                    try clear q12
                                    try clear hx12
                                    try clear c14
                                    try clear p15
                                    try clear q15
                                    try clear hx15
                                    try clear c16
                                    try clear c20
                                    try clear c20b0
                                    try clear c21
                                    try clear c21b0
                                    try clear p22
                                    try clear q22
                                    try clear hx22
                                    try clear c24
                                    try clear c25
                                    try clear c25b0
                                    try clear c26
                                    try clear c26b0
                                    try clear p27
                                    try clear q27
                                    try clear hx27
                                    try clear c29
                                    try clear p30
                                    try clear q30
                                    try clear hx30
                                    try clear c31
                                    try clear c34
                                    try clear c34b0
                                    try clear c34b1
                                    try clear c34b2
                                    try clear c37
                                    try clear c40
                                    try clear c40b0
                                    try clear c41
                                    try clear c41b0
                                    try clear p42
                                    try clear q42
                                    try clear hx42
                                    try clear c43
                                    try clear c43b0
                                    try clear c43b1
                                    try clear p44
                                    try clear q44
                                    try clear hx44
                                    try clear c45
                                    try clear c47
                                    try clear c47b0
                                    try clear c49
                                    try clear c49b0
                                    try clear p50
                                    try clear q50
                                    try clear hx50
                                    try clear c51
                                    try clear c51b0
                                    try clear c51b1
                                    try clear p52
                                    try clear q52
                                    try clear hx52
                                    try clear hcz38_0
                                    try clear hcz38_1
                                    try clear hcz38_2
                                    try clear hfz38_0
                                    try clear hfz38_1
                                    try clear hfz38_2
                                    try clear p1
                                    try clear p12
                                    try clear p15
                                    try clear p2
                                    try clear p22
                                    try clear p27
                                    try clear p3
                                    try clear p30
                                    try clear p4
                                    try clear p42
                                    try clear p44
                                    try clear p50
                                    try clear p52
                                    try clear p6
                                    try clear q1
                                    try clear q12
                                    try clear q15
                                    try clear q2
                                    try clear q22
                                    try clear q27
                                    try clear q3
                                    try clear q30
                                    try clear q4
                                    try clear q42
                                    try clear q44
                                    try clear q50
                                    try clear q52
                                    try clear q6
                                    obtain ⟨kq, x114_45, rfl, HA, HJ45, HO_6, BK243, HB⟩ := hcut
                                    cases kq with
                                    | zero => exact absurd HA.out (by simp [tabardref7_Parse.j9])
                                    | succ kj45 =>
                                      have H := HA.out
                                      clear HA
                                      simp only [tabardref7_Parse.j9] at H
                                      have HC53 := Aside0.mk H
                                      clear H
                                      go_upto_if 114 with (fail)
                                      go_cut [4, 9] (fun v4 v9 wc => ∃ (kq : Nat) (x4_52 : Int) (x9_52 : Int), v4 = .int .i64 x4_52 ∧ v9 = .int .i64 x9_52 ∧ Aside0 (tabardref7_Parse.j10 kq a0 x4_52 x5_1 x6_22 x8_22 x9_52 = some (r1, r2, r3, r4)) ∧ Aside0 (kq ≤ kj45) ∧ Aside0 (Kd.R (Kd.int .u8) 5 wc w.heap.size (fun _ => True) u6 x6_22) ∧ Aside0 (wc.heap[gb243]? = some (.cells #[.bool false, .string (⟨#[]⟩ : ByteArray), .int .i64 0] 23 (0, 0))) ∧ Aside0 (Below w.heap.size w wc))
                                      case first =>
                                        have H := HC53.out
                                        clear HC53
                                        by_cases c54 : x114_45 = true
                                        · as_aux_lemma =>
                                          subst c54
                                          have H1 : (if 0 ≤ (wrap64 (x4_22 + 1)) then (if (wrap64 (x4_22 + 1)) < (a0.size : Int) then (if (bt a0 (wrap64 (x4_22 + 1))) = 45 then (tabardref7_Parse.j10 kj45 a0 (wrap64 ((wrap64 (x4_22 + 1)) + 1)) x5_1 x6_22 x8_22 (-1)) else (tabardref7_Parse.j10 kj45 a0 (wrap64 ((wrap64 (x4_22 + 1)) + 1)) x5_1 x6_22 x8_22 1)) else (none)) else (none)) = some (r1, r2, r3, r4) := by rw [if_pos rfl] at H; exact H
                                          clear H
                                          have H := H1
                                          clear H1
                                          obtain ⟨ji55, hji55⟩ : ∃ j_ : Int, (wrap64 (x4_22 + 1)) = j_ := ⟨_, rfl⟩
                                          replace H : (if 0 ≤ (ji55) then (if (ji55) < (a0.size : Int) then (if (bt a0 (ji55)) = 45 then (tabardref7_Parse.j10 kj45 a0 (wrap64 ((ji55) + 1)) x5_1 x6_22 x8_22 (-1)) else (tabardref7_Parse.j10 kj45 a0 (wrap64 ((ji55) + 1)) x5_1 x6_22 x8_22 1)) else (none)) else (none)) = some (r1, r2, r3, r4) := by first | (rw [hji55] at H; exact H) | (simp only [hji55] at H ⊢; exact H)
                                          have hji55w : (IntKind.i64.wrap (x4_22 + 1)) = ji55 := (i64_w _).trans hji55
                                          by_cases c56 : 0 ≤ (ji55)
                                          · rw [if_pos c56] at H
                                            have c56b0 : decide (0 ≤ (ji55)) = true := decide_eq_true c56
                                            clear c56
                                            (first | rw [c56b0] | (simp only [i64_w, i32_w]; rw [c56b0]) | skip)
                                            by_cases c57 : (ji55) < (a0.size : Int)
                                            · rw [if_pos c57] at H
                                              have c57b0 : decide ((ji55) < (a0.size : Int)) = true := decide_eq_true c57
                                              clear c57
                                              by_cases c59 : (bt a0 (ji55)) = 45
                                              · rw [if_pos c59] at H
                                                have c59b0 : ((bt a0 (ji55)) == 45) = true := beq_iff_eq.mpr c59
                                                have c59b1 : ((bt a0 (ji55)) != 45) = false := bne_eq_false_iff_eq.mpr c59
                                                clear c59
                                                have H' := Aside0.mk H
                                                clear H
                                                have p58 : 0 ≤ ((ji55) : Int) := of_decide_eq_true (by first | (with_reducible assumption) | assumption)
                                                have q58 : (ji55) < (a0.size : Int) := of_decide_eq_true (by first | (with_reducible assumption) | assumption)
                                                have hx58 := bt_at a0 (ji55)
                                                replace p58 := eq_true p58
                                                replace q58 := eq_true q58
                                                go_wp2
                                                go_meet
                                                case rel => exact ⟨_, (wrap64 ((ji55) + 1)), ((-1)), (by first | rfl | (simp; done) | (simp only [← hji55] <;> (first | rfl | simp)) | (simp [*]; done)), (by first | rfl | (simp; done) | (simp [*]; done)), (by first | exact H' | (rw [hji48]; exact H') | (rw [hji55]; exact H')), ⟨by have := HJ1.out; have := HJ6.out; have := HJ8.out; have := HJ17.out; have := HJ22.out; have := HJ32.out; have := HJ38.out; have := HJ45.out; first | omega | exact Nat.le_refl _⟩, ⟨by (with_reducible repeat (first | apply Kd.R_alloc | apply Kd.R_drewN | apply Kd.R_drew)); exact HO_6.out⟩, ⟨by (with_reducible repeat (first | refine blk_drewN ?_ _ | refine blk_drew ?_ | refine blk_alloc ?_ _)); exact BK243.out⟩, ⟨by repeat (first | (with_reducible first | exact HB.out | apply below_alloc | apply pw_below_drewN | apply below_drew1 | refine below_set ?_ GE243.out) | exact HB.out)⟩⟩
                                              · rw [if_neg c59] at H
                                                have c59b0 : ((bt a0 (ji55)) == 45) = false := beq_eq_false_iff_ne.mpr c59
                                                have c59b1 : ((bt a0 (ji55)) != 45) = true := bne_iff_ne.mpr c59
                                                have H' := Aside0.mk H
                                                clear H
                                                have p58 : 0 ≤ ((ji55) : Int) := of_decide_eq_true (by first | (with_reducible assumption) | assumption)
                                                have q58 : (ji55) < (a0.size : Int) := of_decide_eq_true (by first | (with_reducible assumption) | assumption)
                                                have hx58 := bt_at a0 (ji55)
                                                replace p58 := eq_true p58
                                                replace q58 := eq_true q58
                                                go_wp2
                                                go_meet
                                                case rel => exact ⟨_, (wrap64 ((ji55) + 1)), (1), (by first | rfl | (simp; done) | (simp only [← hji55] <;> (first | rfl | simp)) | (simp [*]; done)), (by first | rfl | (simp; done) | (simp [*]; done)), (by first | exact H' | (rw [hji48]; exact H') | (rw [hji55]; exact H')), ⟨by have := HJ1.out; have := HJ6.out; have := HJ8.out; have := HJ17.out; have := HJ22.out; have := HJ32.out; have := HJ38.out; have := HJ45.out; first | omega | exact Nat.le_refl _⟩, ⟨by (with_reducible repeat (first | apply Kd.R_alloc | apply Kd.R_drewN | apply Kd.R_drew)); exact HO_6.out⟩, ⟨by (with_reducible repeat (first | refine blk_drewN ?_ _ | refine blk_drew ?_ | refine blk_alloc ?_ _)); exact BK243.out⟩, ⟨by repeat (first | (with_reducible first | exact HB.out | apply below_alloc | apply pw_below_drewN | apply below_drew1 | refine below_set ?_ GE243.out) | exact HB.out)⟩⟩
                                            · rw [if_neg c57] at H
                                              exact absurd H (by simp)
                                          · rw [if_neg c56] at H
                                            exact absurd H (by simp)
                                        · replace c54 := Bool.eq_false_iff.mpr c54
                                          subst c54
                                          have H1 : (tabardref7_Parse.j10 kj45 a0 (wrap64 (x4_22 + 1)) x5_1 x6_22 x8_22 1) = some (r1, r2, r3, r4) := by rw [if_neg (show ¬ (false = true) by decide)] at H; exact H
                                          clear H
                                          have H := H1
                                          clear H1
                                          have H' := Aside0.mk H
                                          clear H
                                          go_wp2
                                          go_meet
                                          case rel => exact ⟨_, ((wrap64 (x4_22 + 1))), (1), (by first | rfl | (simp; done) | (simp [*]; done)), (by first | rfl | (simp; done) | (simp [*]; done)), (by first | exact H' | (rw [hji48]; exact H') | (rw [hji55]; exact H')), ⟨by have := HJ1.out; have := HJ6.out; have := HJ8.out; have := HJ17.out; have := HJ22.out; have := HJ32.out; have := HJ38.out; have := HJ45.out; first | omega | exact Nat.le_refl _⟩, ⟨by (with_reducible repeat (first | apply Kd.R_alloc | apply Kd.R_drewN | apply Kd.R_drew)); exact HO_6.out⟩, ⟨by (with_reducible repeat (first | refine blk_drewN ?_ _ | refine blk_drew ?_ | refine blk_alloc ?_ _)); exact BK243.out⟩, ⟨by repeat (first | (with_reducible first | exact HB.out | apply below_alloc | apply pw_below_drewN | apply below_drew1 | refine below_set ?_ GE243.out) | exact HB.out)⟩⟩
                                      case rest =>
                                        clear HC53
                                        try clear c1
                                        try clear p1
                                        try clear q1
                                        try clear hx1
                                        try clear c2
                                        try clear p2
                                        try clear q2
                                        try clear hx2
                                        try clear c3
                                        try clear p3
                                        try clear q3
                                        try clear hx3
                                        try clear c4
                                        try clear c4b0
                                        try clear c4b1
                                        try clear p4
                                        try clear q4
                                        try clear hx4
                                        try clear c5
                                        try clear c5b0
                                        try clear c5b1
                                        try clear p5
                                        try clear q5
                                        try clear hx5
                                        try clear p6
                                        try clear q6
                                        try clear hx6
                                        try clear qi6
                                        try clear c8
                                        try clear c10
                                        try clear c10b0
                                        try clear c11
                                        try clear c11b0
                                        try clear p12
                                        try clear q12
                                        try clear hx12
                                        try clear c14
                                        try clear p15
                                        try clear q15
                                        try clear hx15
                                        try clear c16
                                        try clear c20
                                        try clear c20b0
                                        try clear c21
                                        try clear c21b0
                                        try clear p22
                                        try clear q22
                                        try clear hx22
                                        try clear c24
                                        try clear c25
                                        try clear c25b0
                                        try clear c26
                                        try clear c26b0
                                        try clear p27
                                        try clear q27
                                        try clear hx27
                                        try clear c29
                                        try clear p30
                                        try clear q30
                                        try clear hx30
                                        try clear c31
                                        try clear c34
                                        try clear c34b0
                                        try clear c34b1
                                        try clear c34b2
                                        try clear c37
                                        try clear c40
                                        try clear c40b0
                                        try clear c41
                                        try clear c41b0
                                        try clear p42
                                        try clear q42
                                        try clear hx42
                                        try clear c43
                                        try clear c43b0
                                        try clear c43b1
                                        try clear p44
                                        try clear q44
                                        try clear hx44
                                        try clear c45
                                        try clear c47
                                        try clear c47b0
                                        try clear c49
                                        try clear c49b0
                                        try clear p50
                                        try clear q50
                                        try clear hx50
                                        try clear c51
                                        try clear c51b0
                                        try clear c51b1
                                        try clear p52
                                        try clear q52
                                        try clear hx52
                                        try clear c54
                                        try clear c56
                                        try clear c56b0
                                        try clear c57
                                        try clear c57b0
                                        try clear p58
                                        try clear q58
                                        try clear hx58
                                        try clear c59
                                        try clear c59b0
                                        try clear c59b1
                                        try clear hcz38_0
                                        try clear hcz38_1
                                        try clear hcz38_2
                                        try clear hfz38_0
                                        try clear hfz38_1
                                        try clear hfz38_2
                                        try clear p1
                                        try clear p12
                                        try clear p15
                                        try clear p2
                                        try clear p22
                                        try clear p27
                                        try clear p3
                                        try clear p30
                                        try clear p4
                                        try clear p42
                                        try clear p44
                                        try clear p5
                                        try clear p50
                                        try clear p52
                                        try clear p58
                                        try clear p6
                                        try clear q1
                                        try clear q12
                                        try clear q15
                                        try clear q2
                                        try clear q22
                                        try clear q27
                                        try clear q3
                                        try clear q30
                                        try clear q4
                                        try clear q42
                                        try clear q44
                                        try clear q5
                                        try clear q50
                                        try clear q52
                                        try clear q58
                                        try clear q6
                                        obtain ⟨kq, x4_52, x9_52, rfl, rfl, HA, HJ52, HO_6, BK243, HB⟩ := hcut
                                        cases kq with
                                        | zero => exact absurd HA.out (by simp [tabardref7_Parse.j10])
                                        | succ kj52 =>
                                          have H := HA.out
                                          clear HA
                                          simp only [tabardref7_Parse.j10] at H
                                          have HC60 := Aside0.mk H
                                          clear H
                                          go_upto_block 4 with (fail)
                                          go_cut [4, 10] (fun v4 v10 wc => ∃ (kq : Nat) (x4_59 : Int) (x10_59 : Int), v4 = .int .i64 x4_59 ∧ v10 = .int .i64 x10_59 ∧ Aside0 (tabardref7_Parse.j12 kq a0 x4_59 x5_1 x6_22 x8_22 x9_52 x10_59 x4_52 = some (r1, r2, r3, r4)) ∧ Aside0 (kq ≤ kj52) ∧ Aside0 (Kd.R (Kd.int .u8) 5 wc w.heap.size (fun _ => True) u6 x6_22) ∧ Aside0 (wc.heap[gb243]? = some (.cells #[.bool false, .string (⟨#[]⟩ : ByteArray), .int .i64 0] 23 (0, 0))) ∧ Aside0 (Below w.heap.size w wc))
                                          case first =>
                                            have H := HC60.out
                                            clear HC60
                                            have H' := Aside0.mk H
                                            clear H
                                            go_wp2
                                            go_loopg [4, 10] kj52 (fun kq v4 v10 w' => ∃ (x4_10 : Int) (x10_10 : Int), v4 = .int .i64 x4_10 ∧ v10 = .int .i64 x10_10 ∧ Aside0 (tabardref7_Parse.l2 kq a0 x4_10 x5_1 x6_22 x8_22 x9_52 x10_10 x4_52 = some (r1, r2, r3, r4)) ∧ Aside0 (kq ≤ kj52) ∧ Aside0 (Kd.R (Kd.int .u8) 5 w' w.heap.size (fun _ => True) u6 x6_22) ∧ Aside0 (w'.heap[gb243]? = some (.cells #[.bool false, .string (⟨#[]⟩ : ByteArray), .int .i64 0] 23 (0, 0))) ∧ Aside0 (Below w.heap.size w w'))
                                            case atStart => exact ⟨(x4_52), (0), (by first | rfl | (simp; done) | (simp [*]; done)), (by first | rfl | (simp; done) | (simp [*]; done)), H', ⟨Nat.le_refl _⟩, ⟨by (with_reducible repeat (first | apply Kd.R_alloc | apply Kd.R_drewN | apply Kd.R_drew)); exact HO_6.out⟩, ⟨by (with_reducible repeat (first | refine blk_drewN ?_ _ | refine blk_drew ?_ | refine blk_alloc ?_ _)); exact BK243.out⟩, ⟨by repeat (first | (with_reducible first | exact HB.out | apply below_alloc | apply pw_below_drewN | apply below_drew1 | refine below_set ?_ GE243.out) | exact HB.out)⟩⟩
                                            case round =>
                                              clear H'
                                              try clear c1
                                              try clear p1
                                              try clear q1
                                              try clear hx1
                                              try clear c2
                                              try clear p2
                                              try clear q2
                                              try clear hx2
                                              try clear c3
                                              try clear p3
                                              try clear q3
                                              try clear hx3
                                              try clear c4
                                              try clear c4b0
                                              try clear c4b1
                                              try clear p4
                                              try clear q4
                                              try clear hx4
                                              try clear c5
                                              try clear c5b0
                                              try clear c5b1
                                              try clear p5
                                              try clear q5
                                              try clear hx5
                                              try clear p6
                                              try clear q6
                                              try clear hx6
                                              try clear qi6
                                              try clear c8
                                              try clear c10
                                              try clear c10b0
                                              try clear c11
                                              try clear c11b0
                                              try clear p12
                                              try clear q12
                                              try clear hx12
                                              try clear c14
                                              try clear p15
                                              try clear q15
                                              try clear hx15
                                              try clear c16
                                              try clear c20
                                              try clear c20b0
                                              try clear c21
                                              try clear c21b0
                                              try clear p22
                                              try clear q22
                                              try clear hx22
                                              try clear c24
                                              try clear c25
                                              try clear c25b0
                                              try clear c26
                                              try clear c26b0
                                              try clear p27
                                              try clear q27
                                              try clear hx27
                                              try clear c29
                                              try clear p30
                                              try clear q30
                                              try clear hx30
                                              try clear c31
                                              try clear c34
                                              try clear c34b0
                                              try clear c34b1
                                              try clear c34b2
                                              try clear c37
                                              try clear c40
                                              try clear c40b0
                                              try clear c41
                                              try clear c41b0
                                              try clear p42
                                              try clear q42
                                              try clear hx42
                                              try clear c43
                                              try clear c43b0
                                              try clear c43b1
                                              try clear p44
                                              try clear q44
                                              try clear hx44
                                              try clear c45
                                              try clear c47
                                              try clear c47b0
                                              try clear c49
                                              try clear c49b0
                                              try clear p50
                                              try clear q50
                                              try clear hx50
                                              try clear c51
                                              try clear c51b0
                                              try clear c51b1
                                              try clear p52
                                              try clear q52
                                              try clear hx52
                                              try clear c54
                                              try clear c56
                                              try clear c56b0
                                              try clear c57
                                              try clear c57b0
                                              try clear p58
                                              try clear q58
                                              try clear hx58
                                              try clear c59
                                              try clear c59b0
                                              try clear c59b1
                                              try clear hcz38_0
                                              try clear hcz38_1
                                              try clear hcz38_2
                                              try clear hfz38_0
                                              try clear hfz38_1
                                              try clear hfz38_2
                                              try clear p1
                                              try clear p12
                                              try clear p15
                                              try clear p2
                                              try clear p22
                                              try clear p27
                                              try clear p3
                                              try clear p30
                                              try clear p4
                                              try clear p42
                                              try clear p44
                                              try clear p5
                                              try clear p50
                                              try clear p52
                                              try clear p58
                                              try clear p6
                                              try clear q1
                                              try clear q12
                                              try clear q15
                                              try clear q2
                                              try clear q22
                                              try clear q27
                                              try clear q3
                                              try clear q30
                                              try clear q4
                                              try clear q42
                                              try clear q44
                                              try clear q5
                                              try clear q50
                                              try clear q52
                                              try clear q58
                                              try clear q6
                                              obtain ⟨x4_10, x10_10, rfl, rfl, HA, HK10, HO_6, BK243, HB⟩ := hrel
                                              cases gk with
                                              | zero => exact absurd HA.out (by simp [tabardref7_Parse.l2])
                                              | succ k10 =>
                                                have H := HA.out
                                                clear HA
                                                simp only [tabardref7_Parse.l2] at H
                                                by_cases c61 : x4_10 < (a0.size : Int)
                                                · as_aux_lemma =>
                                                  rw [if_pos c61] at H
                                                  have c61b0 : decide (x4_10 < (a0.size : Int)) = true := decide_eq_true c61
                                                  clear c61
                                                  (first | rw [c61b0] | (simp only [i64_w, i32_w]; rw [c61b0]) | skip)
                                                  by_cases c62 : 0 ≤ x4_10
                                                  · rw [if_pos c62] at H
                                                    have c62b0 : decide (0 ≤ x4_10) = true := decide_eq_true c62
                                                    clear c62
                                                    replace H := Option.bind_eq_some_iff.mp H
                                                    obtain ⟨t252, A640, H⟩ := H
                                                    replace H : (if t252 = true then (if x4_10 < (wrap64 (x4_52 + 9)) then (tabardref7_Parse.l2 k10 a0 (wrap64 (x4_10 + 1)) x5_1 x6_22 x8_22 x9_52 (wrap64 ((wrap64 (10 * x10_10)) + (((bt a0 x4_10) - 48) % 256))) x4_52) else (tabardref7_Parse.j12 k10 a0 x4_10 x5_1 x6_22 x8_22 x9_52 x10_10 x4_52)) else (tabardref7_Parse.j12 k10 a0 x4_10 x5_1 x6_22 x8_22 x9_52 x10_10 x4_52)) = some (r1, r2, r3, r4) := H
                                                    have A64 := Aside0.mk A640
                                                    clear A640
                                                    by_cases c65 : t252 = true
                                                    · subst c65
                                                      have H1 : (if x4_10 < (wrap64 (x4_52 + 9)) then (tabardref7_Parse.l2 k10 a0 (wrap64 (x4_10 + 1)) x5_1 x6_22 x8_22 x9_52 (wrap64 ((wrap64 (10 * x10_10)) + (((bt a0 x4_10) - 48) % 256))) x4_52) else (tabardref7_Parse.j12 k10 a0 x4_10 x5_1 x6_22 x8_22 x9_52 x10_10 x4_52)) = some (r1, r2, r3, r4) := by rw [if_pos rfl] at H; exact H
                                                      clear H
                                                      have H := H1
                                                      clear H1
                                                      by_cases c66 : x4_10 < (wrap64 (x4_52 + 9))
                                                      · rw [if_pos c66] at H
                                                        have c66b0 : decide (x4_10 < (wrap64 (x4_52 + 9))) = true := decide_eq_true c66
                                                        clear c66
                                                        have H' := Aside0.mk H
                                                        clear H
                                                        have p63 : 0 ≤ (x4_10 : Int) := of_decide_eq_true (by first | (with_reducible assumption) | assumption)
                                                        have q63 : x4_10 < (a0.size : Int) := of_decide_eq_true (by first | (with_reducible assumption) | assumption)
                                                        have hx63 := bt_at a0 x4_10
                                                        replace p63 := eq_true p63
                                                        replace q63 := eq_true q63
                                                        go_wp2_with (first | (go_at_call 30; (with_reducible refine (tabardref7_digit.calls (bt a0 x4_10) true _ A64.out).mono ?_); rintro e w' ⟨rfl, ⟨nd, rfl⟩⟩; have p67 : 0 ≤ (x4_10 : Int) := of_decide_eq_true (by first | (with_reducible assumption) | assumption); have q67 : x4_10 < (a0.size : Int) := of_decide_eq_true (by first | (with_reducible assumption) | assumption); have hx67 := bt_at a0 x4_10; replace p67 := eq_true p67; replace q67 := eq_true q67))
                                                        go_roundg k10
                                                        case measure => have := HJ1.out; have := HJ6.out; have := HJ8.out; have := HJ17.out; have := HJ22.out; have := HJ32.out; have := HJ38.out; have := HJ45.out; have := HJ52.out; have := HK10.out; omega
                                                        case rel => exact ⟨(wrap64 (x4_10 + 1)), (wrap64 ((wrap64 (10 * x10_10)) + (((bt a0 x4_10) - 48) % 256))), (by first | rfl | (simp; done) | (simp [*]; done)), (by first | rfl | (simp; done) | (simp [*]; done)), (by first | exact H' | (rw [hji48]; exact H') | (rw [hji55]; exact H')), ⟨by have := HJ1.out; have := HJ6.out; have := HJ8.out; have := HJ17.out; have := HJ22.out; have := HJ32.out; have := HJ38.out; have := HJ45.out; have := HJ52.out; have := HK10.out; omega⟩, ⟨by (with_reducible repeat (first | apply Kd.R_alloc | apply Kd.R_drewN | apply Kd.R_drew)); exact HO_6.out⟩, ⟨by (with_reducible repeat (first | refine blk_drewN ?_ _ | refine blk_drew ?_ | refine blk_alloc ?_ _)); exact BK243.out⟩, ⟨by repeat (first | (with_reducible first | exact HB.out | apply below_alloc | apply pw_below_drewN | apply below_drew1 | refine below_set ?_ GE243.out) | exact HB.out)⟩⟩
                                                      · rw [if_neg c66] at H
                                                        have c66b0 : decide (x4_10 < (wrap64 (x4_52 + 9))) = false := decide_eq_false c66
                                                        clear c66
                                                        have H' := Aside0.mk H
                                                        clear H
                                                        have p63 : 0 ≤ (x4_10 : Int) := of_decide_eq_true (by first | (with_reducible assumption) | assumption)
                                                        have q63 : x4_10 < (a0.size : Int) := of_decide_eq_true (by first | (with_reducible assumption) | assumption)
                                                        have hx63 := bt_at a0 x4_10
                                                        replace p63 := eq_true p63
                                                        replace q63 := eq_true q63
                                                        go_wp2_with (first | (go_at_call 30; (with_reducible refine (tabardref7_digit.calls (bt a0 x4_10) true _ A64.out).mono ?_); rintro e w' ⟨rfl, ⟨nd, rfl⟩⟩))
                                                        go_meet
                                                        case rel => exact ⟨_, (x4_10), (x10_10), (by first | rfl | (simp; done) | (simp [*]; done)), (by first | rfl | (simp; done) | (simp [*]; done)), (by first | exact H' | (rw [hji48]; exact H') | (rw [hji55]; exact H')), ⟨by have := HJ1.out; have := HJ6.out; have := HJ8.out; have := HJ17.out; have := HJ22.out; have := HJ32.out; have := HJ38.out; have := HJ45.out; have := HJ52.out; have := HK10.out; first | omega | exact Nat.le_refl _⟩, ⟨by (with_reducible repeat (first | apply Kd.R_alloc | apply Kd.R_drewN | apply Kd.R_drew)); exact HO_6.out⟩, ⟨by (with_reducible repeat (first | refine blk_drewN ?_ _ | refine blk_drew ?_ | refine blk_alloc ?_ _)); exact BK243.out⟩, ⟨by repeat (first | (with_reducible first | exact HB.out | apply below_alloc | apply pw_below_drewN | apply below_drew1 | refine below_set ?_ GE243.out) | exact HB.out)⟩⟩
                                                    · replace c65 := Bool.eq_false_iff.mpr c65
                                                      subst c65
                                                      have H1 : (tabardref7_Parse.j12 k10 a0 x4_10 x5_1 x6_22 x8_22 x9_52 x10_10 x4_52) = some (r1, r2, r3, r4) := by rw [if_neg (show ¬ (false = true) by decide)] at H; exact H
                                                      clear H
                                                      have H := H1
                                                      clear H1
                                                      have H' := Aside0.mk H
                                                      clear H
                                                      have p63 : 0 ≤ (x4_10 : Int) := of_decide_eq_true (by first | (with_reducible assumption) | assumption)
                                                      have q63 : x4_10 < (a0.size : Int) := of_decide_eq_true (by first | (with_reducible assumption) | assumption)
                                                      have hx63 := bt_at a0 x4_10
                                                      replace p63 := eq_true p63
                                                      replace q63 := eq_true q63
                                                      go_wp2_with (first | (go_at_call 30; (with_reducible refine (tabardref7_digit.calls (bt a0 x4_10) false _ A64.out).mono ?_); rintro e w' ⟨rfl, ⟨nd, rfl⟩⟩))
                                                      go_meet
                                                      case rel => exact ⟨_, (x4_10), (x10_10), (by first | rfl | (simp; done) | (simp [*]; done)), (by first | rfl | (simp; done) | (simp [*]; done)), (by first | exact H' | (rw [hji48]; exact H') | (rw [hji55]; exact H')), ⟨by have := HJ1.out; have := HJ6.out; have := HJ8.out; have := HJ17.out; have := HJ22.out; have := HJ32.out; have := HJ38.out; have := HJ45.out; have := HJ52.out; have := HK10.out; first | omega | exact Nat.le_refl _⟩, ⟨by (with_reducible repeat (first | apply Kd.R_alloc | apply Kd.R_drewN | apply Kd.R_drew)); exact HO_6.out⟩, ⟨by (with_reducible repeat (first | refine blk_drewN ?_ _ | refine blk_drew ?_ | refine blk_alloc ?_ _)); exact BK243.out⟩, ⟨by repeat (first | (with_reducible first | exact HB.out | apply below_alloc | apply pw_below_drewN | apply below_drew1 | refine below_set ?_ GE243.out) | exact HB.out)⟩⟩
                                                  · rw [if_neg c62] at H
                                                    exact absurd H (by simp)
                                                · rw [if_neg c61] at H
                                                  have c61b0 : decide (x4_10 < (a0.size : Int)) = false := decide_eq_false c61
                                                  clear c61
                                                  (first | rw [c61b0] | (simp only [i64_w, i32_w]; rw [c61b0]) | skip)
                                                  have H' := Aside0.mk H
                                                  clear H
                                                  go_wp2
                                                  go_meet
                                                  case rel => exact ⟨_, (x4_10), (x10_10), (by first | rfl | (simp; done) | (simp [*]; done)), (by first | rfl | (simp; done) | (simp [*]; done)), (by first | exact H' | (rw [hji48]; exact H') | (rw [hji55]; exact H')), ⟨by have := HJ1.out; have := HJ6.out; have := HJ8.out; have := HJ17.out; have := HJ22.out; have := HJ32.out; have := HJ38.out; have := HJ45.out; have := HJ52.out; have := HK10.out; first | omega | exact Nat.le_refl _⟩, ⟨by (with_reducible repeat (first | apply Kd.R_alloc | apply Kd.R_drewN | apply Kd.R_drew)); exact HO_6.out⟩, ⟨by (with_reducible repeat (first | refine blk_drewN ?_ _ | refine blk_drew ?_ | refine blk_alloc ?_ _)); exact BK243.out⟩, ⟨by repeat (first | (with_reducible first | exact HB.out | apply below_alloc | apply pw_below_drewN | apply below_drew1 | refine below_set ?_ GE243.out) | exact HB.out)⟩⟩
                                          case rest =>
                                            clear HC60
                                            try clear c1
                                            try clear p1
                                            try clear q1
                                            try clear hx1
                                            try clear c2
                                            try clear p2
                                            try clear q2
                                            try clear hx2
                                            try clear c3
                                            try clear p3
                                            try clear q3
                                            try clear hx3
                                            try clear c4
                                            try clear c4b0
                                            try clear c4b1
                                            try clear p4
                                            try clear q4
                                            try clear hx4
                                            try clear c5
                                            try clear c5b0
                                            try clear c5b1
                                            try clear p5
                                            try clear q5
                                            try clear hx5
                                            try clear c6
                                            try clear p6
                                            try clear q6
                                            try clear hx6
                                            try clear qi6
                                            try clear c8
                                            try clear c10
                                            try clear c10b0
                                            try clear c11
                                            try clear c11b0
                                            try clear p12
                                            try clear q12
                                            try clear hx12
                                            try clear c14
                                            try clear p15
                                            try clear q15
                                            try clear hx15
                                            try clear c16
                                            try clear c20
                                            try clear c20b0
                                            try clear c21
                                            try clear c21b0
                                            try clear p22
                                            try clear q22
                                            try clear hx22
                                            try clear c24
                                            try clear c25
                                            try clear c25b0
                                            try clear c26
                                            try clear c26b0
                                            try clear p27
                                            try clear q27
                                            try clear hx27
                                            try clear c29
                                            try clear p30
                                            try clear q30
                                            try clear hx30
                                            try clear c31
                                            try clear c34
                                            try clear c34b0
                                            try clear c34b1
                                            try clear c34b2
                                            try clear c37
                                            try clear c40
                                            try clear c40b0
                                            try clear c41
                                            try clear c41b0
                                            try clear p42
                                            try clear q42
                                            try clear hx42
                                            try clear c43
                                            try clear c43b0
                                            try clear c43b1
                                            try clear p44
                                            try clear q44
                                            try clear hx44
                                            try clear c45
                                            try clear c47
                                            try clear c47b0
                                            try clear c49
                                            try clear c49b0
                                            try clear p50
                                            try clear q50
                                            try clear hx50
                                            try clear c51
                                            try clear c51b0
                                            try clear c51b1
                                            try clear p52
                                            try clear q52
                                            try clear hx52
                                            try clear c54
                                            try clear c56
                                            try clear c56b0
                                            try clear c57
                                            try clear c57b0
                                            try clear p58
                                            try clear q58
                                            try clear hx58
                                            try clear c59
                                            try clear c59b0
                                            try clear c59b1
                                            try clear c61
                                            try clear c61b0
                                            try clear c62
                                            try clear c62b0
                                            try clear p63
                                            try clear q63
                                            try clear hx63
                                            try clear p64
                                            try clear c65
                                            try clear c66
                                            try clear c66b0
                                            try clear p67
                                            try clear q67
                                            try clear hx67
                                            try clear hcz38_0
                                            try clear hcz38_1
                                            try clear hcz38_2
                                            try clear hfz38_0
                                            try clear hfz38_1
                                            try clear hfz38_2
                                            try clear p1
                                            try clear p12
                                            try clear p15
                                            try clear p2
                                            try clear p22
                                            try clear p27
                                            try clear p3
                                            try clear p30
                                            try clear p4
                                            try clear p42
                                            try clear p44
                                            try clear p5
                                            try clear p50
                                            try clear p52
                                            try clear p58
                                            try clear p6
                                            try clear p63
                                            try clear p67
                                            try clear q1
                                            try clear q12
                                            try clear q15
                                            try clear q2
                                            try clear q22
                                            try clear q27
                                            try clear q3
                                            try clear q30
                                            try clear q4
                                            try clear q42
                                            try clear q44
                                            try clear q5
                                            try clear q50
                                            try clear q52
                                            try clear q58
                                            try clear q6
                                            try clear q63
                                            try clear q67
                                            obtain ⟨kq, x4_59, x10_59, rfl, rfl, HA, HJ59, HO_6, BK243, HB⟩ := hcut
                                            cases kq with
                                            | zero => exact absurd HA.out (by simp [tabardref7_Parse.j12])
                                            | succ kj59 =>
                                              have H := HA.out
                                              clear HA
                                              simp only [tabardref7_Parse.j12] at H
                                              by_cases c68 : x4_59 = x4_52
                                              · rw [if_pos c68] at H
                                                have c68b0 : (x4_59 == x4_52) = true := beq_iff_eq.mpr c68
                                                have c68b1 : (x4_59 != x4_52) = false := bne_eq_false_iff_eq.mpr c68
                                                clear c68
                                                simp only [Option.some.injEq, Prod.mk.injEq] at H
                                                obtain ⟨rfl, rfl, rfl, rfl⟩ := H
                                                have hcz69_0 : wc.cell? ⟨gb243, 0, none⟩ = some (.bool false) := (blk_cell BK243.out 0).trans rfl
                                                have hcz69_1 : wc.cell? ⟨gb243, 1, none⟩ = some (.string (⟨#[]⟩ : ByteArray)) := (blk_cell BK243.out 1).trans rfl
                                                have hcz69_2 : wc.cell? ⟨gb243, 2, none⟩ = some (.int .i64 0) := (blk_cell BK243.out 2).trans rfl
                                                have hfz69_0 := blk_frozen BK243.out 0
                                                have hfz69_1 := blk_frozen BK243.out 1
                                                have hfz69_2 := blk_frozen BK243.out 2
                                                go_wp2
                                                refine bodyPost_ret (results_ct rfl _ _ gb243 23 #[.bool false, .string (⟨#[]⟩ : ByteArray), .int .i64 0] (0, 0) _ rfl (by (with_reducible repeat (first | refine blk_drewN ?_ _ | refine blk_drew ?_ | refine blk_alloc ?_ _)); refine blk_put (cs := #[.bool false, .string (⟨#[]⟩ : ByteArray), .int .i64 0]) ?_ 2 _ rfl; (with_reducible repeat (first | refine blk_drewN ?_ _ | refine blk_drew ?_ | refine blk_alloc ?_ _)); refine blk_put (cs := #[.bool false, .string (⟨#[]⟩ : ByteArray), .int .i64 0]) ?_ 1 _ rfl; (with_reducible repeat (first | refine blk_drewN ?_ _ | refine blk_drew ?_ | refine blk_alloc ?_ _)); refine blk_put (cs := #[.bool false, .string (⟨#[]⟩ : ByteArray), .int .i64 0]) ?_ 0 _ rfl; (with_reducible repeat (first | refine blk_drewN ?_ _ | refine blk_drew ?_ | refine blk_alloc ?_ _)); exact BK243.out) Tryd.underlying23 rfl (by kernel_rfl)) rfl ?_
                                                exact ⟨by first | rfl | (simp [errW_none, errW_some] <;> rfl) | (simp [*, errW_none, errW_some] <;> rfl), by repeat (first | (with_reducible first | exact HB.out | apply below_alloc | apply pw_below_drewN | apply below_drew1 | refine below_set ?_ GE243.out) | exact HB.out)⟩
                                              · as_aux_lemma =>
                                                rw [if_neg c68] at H
                                                have c68b0 : (x4_59 == x4_52) = false := beq_eq_false_iff_ne.mpr c68
                                                have c68b1 : (x4_59 != x4_52) = true := bne_iff_ne.mpr c68
                                                by_cases c70 : x4_59 < (a0.size : Int)
                                                · rw [if_pos c70] at H
                                                  have c70b0 : decide (x4_59 < (a0.size : Int)) = true := decide_eq_true c70
                                                  clear c70
                                                  simp only [Option.some.injEq, Prod.mk.injEq] at H
                                                  obtain ⟨rfl, rfl, rfl, rfl⟩ := H
                                                  have hcz71_0 : wc.cell? ⟨gb243, 0, none⟩ = some (.bool false) := (blk_cell BK243.out 0).trans rfl
                                                  have hcz71_1 : wc.cell? ⟨gb243, 1, none⟩ = some (.string (⟨#[]⟩ : ByteArray)) := (blk_cell BK243.out 1).trans rfl
                                                  have hcz71_2 : wc.cell? ⟨gb243, 2, none⟩ = some (.int .i64 0) := (blk_cell BK243.out 2).trans rfl
                                                  have hfz71_0 := blk_frozen BK243.out 0
                                                  have hfz71_1 := blk_frozen BK243.out 1
                                                  have hfz71_2 := blk_frozen BK243.out 2
                                                  go_wp2
                                                  refine bodyPost_ret (results_ct rfl _ _ gb243 23 #[.bool false, .string (⟨#[]⟩ : ByteArray), .int .i64 0] (0, 0) _ rfl (by (with_reducible repeat (first | refine blk_drewN ?_ _ | refine blk_drew ?_ | refine blk_alloc ?_ _)); refine blk_put (cs := #[.bool false, .string (⟨#[]⟩ : ByteArray), .int .i64 0]) ?_ 2 _ rfl; (with_reducible repeat (first | refine blk_drewN ?_ _ | refine blk_drew ?_ | refine blk_alloc ?_ _)); refine blk_put (cs := #[.bool false, .string (⟨#[]⟩ : ByteArray), .int .i64 0]) ?_ 1 _ rfl; (with_reducible repeat (first | refine blk_drewN ?_ _ | refine blk_drew ?_ | refine blk_alloc ?_ _)); refine blk_put (cs := #[.bool false, .string (⟨#[]⟩ : ByteArray), .int .i64 0]) ?_ 0 _ rfl; (with_reducible repeat (first | refine blk_drewN ?_ _ | refine blk_drew ?_ | refine blk_alloc ?_ _)); exact BK243.out) Tryd.underlying23 rfl (by kernel_rfl)) rfl ?_
                                                  exact ⟨by first | rfl | (simp [errW_none, errW_some] <;> rfl) | (simp [*, errW_none, errW_some] <;> rfl), by repeat (first | (with_reducible first | exact HB.out | apply below_alloc | apply pw_below_drewN | apply below_drew1 | refine below_set ?_ GE243.out) | exact HB.out)⟩
                                                · rw [if_neg c70] at H
                                                  have c70b0 : decide (x4_59 < (a0.size : Int)) = false := decide_eq_false c70
                                                  clear c70
                                                  replace H := Option.bind_eq_some_iff.mp H
                                                  obtain ⟨⟨t253, t254, t255, t256⟩, A720, H⟩ := H
                                                  replace H : (some (t253, t254, t255, t256)) = some (r1, r2, r3, r4) := H
                                                  have A72 := Aside0.mk A720
                                                  clear A720
                                                  simp only [Option.some.injEq, Prod.mk.injEq] at H
                                                  obtain ⟨rfl, rfl, rfl, rfl⟩ := H
                                                  have hcv73 := own_string (P := Tryd.prog) Tryd.underlying47 Tryd.underlying5 Tryd.underlying9 (Kd.own_of_R HO_6.out)
                                                  go_wp2_with (first | ((with_reducible refine gate_callee (f := 31) rfl ?_); refine goesL_ (some 166) rfl rfl Tryd.func31 (by kernel_rfl) rfl #[.bool x5_1, .string (strOfNums x6_22), .int .i64 (wrap64 (x8_22 + (wrap64 (x9_52 * x10_59))))] rfl (by (try simp only [List.map_toArray, List.map_cons, List.map_nil]); first | done | rfl | (simp only [List.length_drop, List.length_take]; rfl)) ?_; (with_reducible refine (tabardref7_Make.calls kj59 x5_1 (strOfNums x6_22) (wrap64 (x8_22 + (wrap64 (x9_52 * x10_59)))) t253 t254 t255 t256 _ A72.out).mono ?_); rintro e w74 ⟨rfl, hb⟩; refine ⟨_, rfl, ?_⟩; have n0_ := Aside0.mk (Kd.R_below (by (with_reducible repeat (first | apply Kd.R_alloc | apply Kd.R_drewN | apply Kd.R_drew)); exact HO_6.out) hb); have n1_ := Aside0.mk (blk_below (g := gb243) (o := .cells #[.bool false, .string (⟨#[]⟩ : ByteArray), .int .i64 0] 23 (0, 0)) (by (with_reducible repeat (first | refine blk_drewN ?_ _ | refine blk_drew ?_ | refine blk_alloc ?_ _)); exact BK243.out) hb); have n2_ := Aside0.mk (below_step (by repeat (first | (with_reducible first | exact HB.out | apply below_alloc | apply pw_below_drewN | apply below_drew1 | refine below_set ?_ GE243.out) | exact HB.out)) hb); clear HO_6; clear BK243; clear HB; have HO_6 := n0_; have BK243 := n1_; have HB := n2_; clear n0_ n1_ n2_; (try clear hb); (try clear hb2); (try clear hk); (try clear hi); have hcz75_0 : w74.cell? ⟨gb243, 0, none⟩ = some (.bool false) := (blk_cell BK243.out 0).trans rfl; have hcz75_1 : w74.cell? ⟨gb243, 1, none⟩ = some (.string (⟨#[]⟩ : ByteArray)) := (blk_cell BK243.out 1).trans rfl; have hcz75_2 : w74.cell? ⟨gb243, 2, none⟩ = some (.int .i64 0) := (blk_cell BK243.out 2).trans rfl; have hfz75_0 := blk_frozen BK243.out 0; have hfz75_1 := blk_frozen BK243.out 1; have hfz75_2 := blk_frozen BK243.out 2))
                                                  refine bodyPost_ret (results_ct rfl _ _ gb243 23 #[.bool t253, .string t254, .int .i64 t255] (0, 0) _ rfl (by (with_reducible repeat (first | refine blk_drewN ?_ _ | refine blk_drew ?_ | refine blk_alloc ?_ _)); refine blk_put (cs := #[.bool t253, .string t254, .int .i64 0]) ?_ 2 _ rfl; (with_reducible repeat (first | refine blk_drewN ?_ _ | refine blk_drew ?_ | refine blk_alloc ?_ _)); refine blk_put (cs := #[.bool t253, .string (⟨#[]⟩ : ByteArray), .int .i64 0]) ?_ 1 _ rfl; (with_reducible repeat (first | refine blk_drewN ?_ _ | refine blk_drew ?_ | refine blk_alloc ?_ _)); refine blk_put (cs := #[.bool false, .string (⟨#[]⟩ : ByteArray), .int .i64 0]) ?_ 0 _ rfl; (with_reducible repeat (first | refine blk_drewN ?_ _ | refine blk_drew ?_ | refine blk_alloc ?_ _)); exact BK243.out) Tryd.underlying23 rfl (by kernel_rfl)) rfl ?_
                                                  exact ⟨by first | rfl | (simp [errW_none, errW_some] <;> rfl) | (simp [*, errW_none, errW_some] <;> rfl), by repeat (first | (with_reducible first | exact HB.out | apply below_alloc | apply pw_below_drewN | apply below_drew1 | refine below_set ?_ GE243.out) | exact HB.out)⟩
                                · as_aux_lemma =>
                                  replace c45 := Bool.eq_false_iff.mpr c45
                                  subst c45
                                  have H1 : (if x4_22 < (a0.size : Int) then (some (false, (⟨#[]⟩ : ByteArray), 0, 3)) else ((tabardref7_Make.f kj38 x5_1 (strOfNums x6_22) x8_22).bind fun bt257 => (some (bt257.1, bt257.2.1, bt257.2.2.1, bt257.2.2.2)))) = some (r1, r2, r3, r4) := by rw [if_neg (show ¬ (false = true) by decide)] at H; exact H
                                  clear H
                                  have H := H1
                                  clear H1
                                  by_cases c76 : x4_22 < (a0.size : Int)
                                  · rw [if_pos c76] at H
                                    have c76b0 : decide (x4_22 < (a0.size : Int)) = true := decide_eq_true c76
                                    clear c76
                                    simp only [Option.some.injEq, Prod.mk.injEq] at H
                                    obtain ⟨rfl, rfl, rfl, rfl⟩ := H
                                    have hcz77_0 : wc.cell? ⟨gb243, 0, none⟩ = some (.bool false) := (blk_cell BK243.out 0).trans rfl
                                    have hcz77_1 : wc.cell? ⟨gb243, 1, none⟩ = some (.string (⟨#[]⟩ : ByteArray)) := (blk_cell BK243.out 1).trans rfl
                                    have hcz77_2 : wc.cell? ⟨gb243, 2, none⟩ = some (.int .i64 0) := (blk_cell BK243.out 2).trans rfl
                                    have hfz77_0 := blk_frozen BK243.out 0
                                    have hfz77_1 := blk_frozen BK243.out 1
                                    have hfz77_2 := blk_frozen BK243.out 2
                                    go_wp2
                                    refine bodyPost_ret (results_ct rfl _ _ gb243 23 #[.bool false, .string (⟨#[]⟩ : ByteArray), .int .i64 0] (0, 0) _ rfl (by (with_reducible repeat (first | refine blk_drewN ?_ _ | refine blk_drew ?_ | refine blk_alloc ?_ _)); refine blk_put (cs := #[.bool false, .string (⟨#[]⟩ : ByteArray), .int .i64 0]) ?_ 2 _ rfl; (with_reducible repeat (first | refine blk_drewN ?_ _ | refine blk_drew ?_ | refine blk_alloc ?_ _)); refine blk_put (cs := #[.bool false, .string (⟨#[]⟩ : ByteArray), .int .i64 0]) ?_ 1 _ rfl; (with_reducible repeat (first | refine blk_drewN ?_ _ | refine blk_drew ?_ | refine blk_alloc ?_ _)); refine blk_put (cs := #[.bool false, .string (⟨#[]⟩ : ByteArray), .int .i64 0]) ?_ 0 _ rfl; (with_reducible repeat (first | refine blk_drewN ?_ _ | refine blk_drew ?_ | refine blk_alloc ?_ _)); exact BK243.out) Tryd.underlying23 rfl (by kernel_rfl)) rfl ?_
                                    exact ⟨by first | rfl | (simp [errW_none, errW_some] <;> rfl) | (simp [*, errW_none, errW_some] <;> rfl), by repeat (first | (with_reducible first | exact HB.out | apply below_alloc | apply pw_below_drewN | apply below_drew1 | refine below_set ?_ GE243.out) | exact HB.out)⟩
                                  · rw [if_neg c76] at H
                                    have c76b0 : decide (x4_22 < (a0.size : Int)) = false := decide_eq_false c76
                                    clear c76
                                    replace H := Option.bind_eq_some_iff.mp H
                                    obtain ⟨⟨t257, t258, t259, t260⟩, A780, H⟩ := H
                                    replace H : (some (t257, t258, t259, t260)) = some (r1, r2, r3, r4) := H
                                    have A78 := Aside0.mk A780
                                    clear A780
                                    simp only [Option.some.injEq, Prod.mk.injEq] at H
                                    obtain ⟨rfl, rfl, rfl, rfl⟩ := H
                                    have hcv79 := own_string (P := Tryd.prog) Tryd.underlying47 Tryd.underlying5 Tryd.underlying9 (Kd.own_of_R HO_6.out)
                                    go_wp2_with (first | ((with_reducible refine gate_callee (f := 31) rfl ?_); refine goesL_ (some 166) rfl rfl Tryd.func31 (by kernel_rfl) rfl #[.bool x5_1, .string (strOfNums x6_22), .int .i64 x8_22] rfl (by (try simp only [List.map_toArray, List.map_cons, List.map_nil]); first | done | rfl | (simp only [List.length_drop, List.length_take]; rfl)) ?_; (with_reducible refine (tabardref7_Make.calls kj38 x5_1 (strOfNums x6_22) x8_22 t257 t258 t259 t260 _ A78.out).mono ?_); rintro e w80 ⟨rfl, hb⟩; refine ⟨_, rfl, ?_⟩; have n0_ := Aside0.mk (Kd.R_below (by (with_reducible repeat (first | apply Kd.R_alloc | apply Kd.R_drewN | apply Kd.R_drew)); exact HO_6.out) hb); have n1_ := Aside0.mk (blk_below (g := gb243) (o := .cells #[.bool false, .string (⟨#[]⟩ : ByteArray), .int .i64 0] 23 (0, 0)) (by (with_reducible repeat (first | refine blk_drewN ?_ _ | refine blk_drew ?_ | refine blk_alloc ?_ _)); exact BK243.out) hb); have n2_ := Aside0.mk (below_step (by repeat (first | (with_reducible first | exact HB.out | apply below_alloc | apply pw_below_drewN | apply below_drew1 | refine below_set ?_ GE243.out) | exact HB.out)) hb); clear HO_6; clear BK243; clear HB; have HO_6 := n0_; have BK243 := n1_; have HB := n2_; clear n0_ n1_ n2_; (try clear hb); (try clear hb2); (try clear hk); (try clear hi); have hcz81_0 : w80.cell? ⟨gb243, 0, none⟩ = some (.bool false) := (blk_cell BK243.out 0).trans rfl; have hcz81_1 : w80.cell? ⟨gb243, 1, none⟩ = some (.string (⟨#[]⟩ : ByteArray)) := (blk_cell BK243.out 1).trans rfl; have hcz81_2 : w80.cell? ⟨gb243, 2, none⟩ = some (.int .i64 0) := (blk_cell BK243.out 2).trans rfl; have hfz81_0 := blk_frozen BK243.out 0; have hfz81_1 := blk_frozen BK243.out 1; have hfz81_2 := blk_frozen BK243.out 2))
                                    refine bodyPost_ret (results_ct rfl _ _ gb243 23 #[.bool t257, .string t258, .int .i64 t259] (0, 0) _ rfl (by (with_reducible repeat (first | refine blk_drewN ?_ _ | refine blk_drew ?_ | refine blk_alloc ?_ _)); refine blk_put (cs := #[.bool t257, .string t258, .int .i64 0]) ?_ 2 _ rfl; (with_reducible repeat (first | refine blk_drewN ?_ _ | refine blk_drew ?_ | refine blk_alloc ?_ _)); refine blk_put (cs := #[.bool t257, .string (⟨#[]⟩ : ByteArray), .int .i64 0]) ?_ 1 _ rfl; (with_reducible repeat (first | refine blk_drewN ?_ _ | refine blk_drew ?_ | refine blk_alloc ?_ _)); refine blk_put (cs := #[.bool false, .string (⟨#[]⟩ : ByteArray), .int .i64 0]) ?_ 0 _ rfl; (with_reducible repeat (first | refine blk_drewN ?_ _ | refine blk_drew ?_ | refine blk_alloc ?_ _)); exact BK243.out) Tryd.underlying23 rfl (by kernel_rfl)) rfl ?_
                                    exact ⟨by first | rfl | (simp [errW_none, errW_some] <;> rfl) | (simp [*, errW_none, errW_some] <;> rfl), by repeat (first | (with_reducible first | exact HB.out | apply below_alloc | apply pw_below_drewN | apply below_drew1 | refine below_set ?_ GE243.out) | exact HB.out)⟩

end Go.Proofs.YtneeeaafhjaooaaDoor.P
