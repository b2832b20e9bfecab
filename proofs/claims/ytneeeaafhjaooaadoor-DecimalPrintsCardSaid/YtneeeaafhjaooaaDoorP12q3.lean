-- Printed by a program of this session (wip/tools) over the kit's print: not trusted, Lean checks it.
import Derived.Test.YtneeeaafhjaooaaDoorP0q3
import Derived.Test.YtneeeaafhjaooaaDoorProg
import Derived.Test.YtneeeaafhjaooaaDoorElibq3
import Derived.Test.YtneeeaafhjaooaaDoorP7q3
import Derived.Test.YtneeeaafhjaooaaDoorP9q3
import Derived.Test.YtneeeaafhjaooaaDoorP11q3
import Derived.Test.YtneeeaafhjaooaaDoorLibsq3
namespace Go.Proofs.YtneeeaafhjaooaaDoor.P
set_option linter.all false
open Go.RowKit Go.Proofs.YtneeeaafhjaooaaDoorW.PrintWords Go.Proofs.YtneeeaafhjaooaaDoorW.PrintLast Go.Proofs.YtneeeaafhjaooaaDoorW.PrintMore
attribute [local go_sem] max2_int min2_int max_two min_two max_three min_three max_four min_four   -- for this text's walks alone
attribute [local go_sem] cell_after
set_option linter.unusedVariables false
set_option linter.unusedSimpArgs false

/-! ### tabardref7_Print: function 16 -/
mutual
def tabardref7_Print.j0 : Nat → ByteArray → Bool → ByteArray → Int → Option (ByteArray)
  | 0, _, _, _, _ => none
  | k + 1, x4, x265000, x265001, x265002 => (tabardref7_Point.f k x265000 x265001 x265002).bind fun t266 => (if (x265001.size : Int) = 0 then (if x4.size + 1 ≤ 9223372036854775807 then (some (x4 ++ (⟨#[48]⟩ : ByteArray))) else (none)) else (if t266 ≥ 1 then (tabardref7_Print.j1 k x4 t266 (x265001.size : Int) (decide (t266 ≤ 21)) x265000 x265001 x265002) else (tabardref7_Print.j1 k x4 t266 (x265001.size : Int) false x265000 x265001 x265002)))
def tabardref7_Print.j1 : Nat → ByteArray → Int → Int → Bool → Bool → ByteArray → Int → Option (ByteArray)
  | 0, _, _, _, _, _, _, _ => none
  | k + 1, x4, x5, x6, x25, x265000, x265001, x265002 => if x25 = true then (tabardref7_Print.l0 k x4 x5 x6 0 x265000 x265001 x265002) else (if x5 ≥ (-5) then (tabardref7_Print.j4 k x4 x5 x6 (decide (x5 ≤ 0)) x265000 x265001 x265002) else (tabardref7_Print.j4 k x4 x5 x6 false x265000 x265001 x265002))
def tabardref7_Print.l0 : Nat → ByteArray → Int → Int → Int → Bool → ByteArray → Int → Option (ByteArray)
  | 0, _, _, _, _, _, _, _ => none
  | k + 1, x4, x5, x6, x7, x265000, x265001, x265002 => if x7 < x5 then (tabardref7_Print.j3 k x4 x5 x6 x7 true x265000 x265001 x265002) else (tabardref7_Print.j3 k x4 x5 x6 x7 (decide (x7 < x6)) x265000 x265001 x265002)
def tabardref7_Print.j3 : Nat → ByteArray → Int → Int → Int → Bool → Bool → ByteArray → Int → Option (ByteArray)
  | 0, _, _, _, _, _, _, _, _ => none
  | k + 1, x4, x5, x6, x7, x39, x265000, x265001, x265002 => if x39 = true then (if x7 = x5 then (if x4.size + 1 ≤ 9223372036854775807 then ((tabardref7_at.f x265000 x265001 x265002 (wrap64 ((wrap64 (x5 - 1)) - x7))).bind fun t267 => ((some (([t267] : List Int) : List Int)).bind fun y268 => (if (x4 ++ (⟨#[46]⟩ : ByteArray)).size + (strOfNums y268).size ≤ 9223372036854775807 then (tabardref7_Print.l0 k ((x4 ++ (⟨#[46]⟩ : ByteArray)) ++ (strOfNums y268)) x5 x6 (wrap64 (x7 + 1)) x265000 x265001 x265002) else (none)))) else (none)) else ((tabardref7_at.f x265000 x265001 x265002 (wrap64 ((wrap64 (x5 - 1)) - x7))).bind fun t271 => ((some (([t271] : List Int) : List Int)).bind fun y272 => (if x4.size + (strOfNums y272).size ≤ 9223372036854775807 then (tabardref7_Print.l0 k (x4 ++ (strOfNums y272)) x5 x6 (wrap64 (x7 + 1)) x265000 x265001 x265002) else (none))))) else (some x4)
def tabardref7_Print.j4 : Nat → ByteArray → Int → Int → Bool → Bool → ByteArray → Int → Option (ByteArray)
  | 0, _, _, _, _, _, _, _ => none
  | k + 1, x4, x5, x6, x58, x265000, x265001, x265002 => if x58 = true then (if x4.size + 2 ≤ 9223372036854775807 then (tabardref7_Print.l1 k (x4 ++ (⟨#[48, 46]⟩ : ByteArray)) x5 0 x265000 x265001 x265002) else (none)) else (if 0 ≤ 1 then (if 1 ≤ (x265001.size : Int) then (if x4.size + (x265001.extract 0 1).size ≤ 9223372036854775807 then (if x6 > 1 then (if (x4 ++ (x265001.extract 0 1)).size + 1 ≤ 9223372036854775807 then (if ((x4 ++ (x265001.extract 0 1)) ++ (⟨#[46]⟩ : ByteArray)).size + (x265001.extract 1 x265001.size).size ≤ 9223372036854775807 then (tabardref7_Print.j6 k (((x4 ++ (x265001.extract 0 1)) ++ (⟨#[46]⟩ : ByteArray)) ++ (x265001.extract 1 x265001.size)) x5) else (none)) else (none)) else (tabardref7_Print.j6 k (x4 ++ (x265001.extract 0 1)) x5)) else (none)) else (none)) else (none))
def tabardref7_Print.l1 : Nat → ByteArray → Int → Int → Bool → ByteArray → Int → Option (ByteArray)
  | 0, _, _, _, _, _, _ => none
  | k + 1, x4, x5, x8, x265000, x265001, x265002 => if x8 < (wrap64 (-x5)) then (if x4.size + 1 ≤ 9223372036854775807 then (tabardref7_Print.l1 k (x4 ++ (⟨#[48]⟩ : ByteArray)) x5 (wrap64 (x8 + 1)) x265000 x265001 x265002) else (none)) else (if x4.size + x265001.size ≤ 9223372036854775807 then (some (x4 ++ x265001)) else (none))
def tabardref7_Print.j6 : Nat → ByteArray → Int → Option (ByteArray)
  | 0, _, _ => none
  | k + 1, x4, x5 => if (wrap64 (x5 - 1)) < 0 then (if x4.size + 2 ≤ 9223372036854775807 then ((tabardref7_number.f k (wrap64 (1 - x5))).bind fun t275 => (if (x4 ++ (⟨#[101, 45]⟩ : ByteArray)).size + t275.size ≤ 9223372036854775807 then (some ((x4 ++ (⟨#[101, 45]⟩ : ByteArray)) ++ t275)) else (none))) else (none)) else (if x4.size + 2 ≤ 9223372036854775807 then ((tabardref7_number.f k (wrap64 (x5 - 1))).bind fun t276 => (if (x4 ++ (⟨#[101, 43]⟩ : ByteArray)).size + t276.size ≤ 9223372036854775807 then (some ((x4 ++ (⟨#[101, 43]⟩ : ByteArray)) ++ t276)) else (none))) else (none))
end
def tabardref7_Print.f (k : Nat) (a0_0 : Bool) (a0_1 : ByteArray) (a0_2 : Int) : Option (ByteArray) := (tabardref7_Right.f k a0_0 a0_1 a0_2).bind fun t265 => (if t265 = true then (if a0_0 = true then (tabardref7_Print.j0 k (⟨#[45]⟩ : ByteArray) a0_0 a0_1 a0_2) else (tabardref7_Print.j0 k (⟨#[]⟩ : ByteArray) a0_0 a0_1 a0_2)) else (some (⟨#[]⟩ : ByteArray)))
set_option maxHeartbeats 8000000 in
set_option maxRecDepth 100000 in
theorem tabardref7_Print.calls (k : Nat) (a0_0 : Bool) (a0_1 : ByteArray) (a0_2 : Int) (r : ByteArray) (w : World) (h : tabardref7_Print.f k a0_0 a0_1 a0_2 = some r) :
    Calls Tryd.prog 16 #[.agg #[.bool a0_0, .string a0_1, .int .i64 a0_2]] w fun e w' => e = .returned (.string r) ∧ Below w.heap.size w w' := by
  have hu23 := Tryd.underlying23
  have HB := Aside0.mk (Below.refl w.heap.size w)
  have H : ((tabardref7_Right.f k a0_0 a0_1 a0_2).bind fun t265 => (if t265 = true then (if a0_0 = true then (tabardref7_Print.j0 k (⟨#[45]⟩ : ByteArray) a0_0 a0_1 a0_2) else (tabardref7_Print.j0 k (⟨#[]⟩ : ByteArray) a0_0 a0_1 a0_2)) else (some (⟨#[]⟩ : ByteArray)))) = some r := h
  clear h
  replace H := Option.bind_eq_some_iff.mp H
  obtain ⟨t265, A20, H⟩ := H
  replace H : (if t265 = true then (if a0_0 = true then (tabardref7_Print.j0 k (⟨#[45]⟩ : ByteArray) a0_0 a0_1 a0_2) else (tabardref7_Print.j0 k (⟨#[]⟩ : ByteArray) a0_0 a0_1 a0_2)) else (some (⟨#[]⟩ : ByteArray))) = some r := H
  have A2 := Aside0.mk A20
  clear A20
  by_cases c3 : t265 = true
  · subst c3
    have H1 : (if a0_0 = true then (tabardref7_Print.j0 k (⟨#[45]⟩ : ByteArray) a0_0 a0_1 a0_2) else (tabardref7_Print.j0 k (⟨#[]⟩ : ByteArray) a0_0 a0_1 a0_2)) = some r := by rw [if_pos rfl] at H; exact H
    clear H
    have H := H1
    clear H1
    have HC4 := Aside0.mk H
    clear H
    go_enter Tryd.func16, Tryd.ntmps16
    go_upto_if 14 with (first | ((with_reducible refine gate_dst (N := 1) rfl ?_); refine box_event ?hg (N := 1) ?hd (cs := #[.bool a0_0, .string a0_1, .int .i64 a0_2]) (t := 23) ?hr ?_; (case hd => rfl); (case hg => rfl); (case hr => first | (go_simp; done) | (go_simp; rfl)); intro gb264 hg w5 hbox hb; have n0_ := Aside0.mk (below_step (by repeat (first | (with_reducible first | exact HB.out | apply below_alloc | apply pw_below_drewN | apply below_drew1) | exact HB.out)) hb); have n1_ := Aside0.mk (hbox); have n2_ := Aside0.mk ((by rw [hg]; exact (below_size (by repeat (first | (with_reducible first | exact HB.out | apply below_alloc | apply pw_below_drewN | apply below_drew1) | exact HB.out))) : w.heap.size ≤ gb264)); have n3_ := Aside0.mk ((by rw [hg]; exact (below_size (by repeat (first | (with_reducible first | exact HB.out | apply below_alloc | apply pw_below_drewN | apply below_drew1) | exact HB.out))) : w.heap.size ≤ gb264)); clear HB; have HB := n0_; have BK264 := n1_; have GW264 := n2_; have GE264 := n3_; clear n0_ n1_ n2_ n3_; clear hb hbox hg; have hcz6_0 : w5.cell? ⟨gb264, 0, none⟩ = some (.bool a0_0) := (blk_cell BK264.out 0).trans rfl; have hcz6_1 : w5.cell? ⟨gb264, 1, none⟩ = some (.string a0_1) := (blk_cell BK264.out 1).trans rfl; have hcz6_2 : w5.cell? ⟨gb264, 2, none⟩ = some (.int .i64 a0_2) := (blk_cell BK264.out 2).trans rfl; have hfz6_0 := blk_frozen BK264.out 0; have hfz6_1 := blk_frozen BK264.out 1; have hfz6_2 := blk_frozen BK264.out 2) | ((with_reducible refine gate_callee (f := 22) rfl ?_); refine goesL_ (some 10) rfl rfl Tryd.func22 (by kernel_rfl) rfl #[.agg #[.bool a0_0, .string a0_1, .int .i64 a0_2]] rfl (by (try simp only [List.map_toArray, List.map_cons, List.map_nil]); first | done | rfl | (simp only [List.length_drop, List.length_take]; rfl)) ?_; (with_reducible refine (tabardref7_Right.calls k a0_0 a0_1 a0_2 true _ A2.out).mono ?_); rintro e w7 ⟨rfl, hb⟩; refine ⟨_, rfl, ?_⟩; have n0_ := Aside0.mk (blk_below (g := gb264) (o := .cells #[.bool a0_0, .string a0_1, .int .i64 a0_2] 23 (0, 0)) (by (with_reducible repeat (first | refine blk_drewN ?_ _ | refine blk_drew ?_ | refine blk_alloc ?_ _)); exact BK264.out) hb); have n1_ := Aside0.mk (below_step (by repeat (first | (with_reducible first | exact HB.out | apply below_alloc | apply pw_below_drewN | apply below_drew1 | refine below_set ?_ GE264.out) | exact HB.out)) hb); clear BK264; clear HB; have BK264 := n0_; have HB := n1_; clear n0_ n1_; (try clear hb); (try clear hb2); (try clear hk); (try clear hi); have hcz8_0 : w7.cell? ⟨gb264, 0, none⟩ = some (.bool a0_0) := (blk_cell BK264.out 0).trans rfl; have hcz8_1 : w7.cell? ⟨gb264, 1, none⟩ = some (.string a0_1) := (blk_cell BK264.out 1).trans rfl; have hcz8_2 : w7.cell? ⟨gb264, 2, none⟩ = some (.int .i64 a0_2) := (blk_cell BK264.out 2).trans rfl; have hfz8_0 := blk_frozen BK264.out 0; have hfz8_1 := blk_frozen BK264.out 1; have hfz8_2 := blk_frozen BK264.out 2))
    (try simp only [Act.put, List.setIfInBounds_toArray, List.set_cons_zero, List.set_cons_succ])
    go_cut [4] (fun v4 wc => ∃ (kq : Nat) (x4_3 : ByteArray), v4 = .string x4_3 ∧ Aside0 (tabardref7_Print.j0 kq x4_3 a0_0 a0_1 a0_2 = some r) ∧ Aside0 (kq ≤ k) ∧ Aside0 (wc.heap[gb264]? = some (.cells #[.bool a0_0, .string a0_1, .int .i64 a0_2] 23 (0, 0))) ∧ Aside0 (Below w.heap.size w wc))
    case first =>
      have H := HC4.out
      clear HC4
      by_cases c9 : a0_0 = true
      · subst c9
        have H1 : (tabardref7_Print.j0 k (⟨#[45]⟩ : ByteArray) true a0_1 a0_2) = some r := by rw [if_pos rfl] at H; exact H
        clear H
        have H := H1
        clear H1
        have H' := Aside0.mk H
        clear H
        go_wp2
        go_meet
        case rel => exact ⟨_, ((⟨#[45]⟩ : ByteArray)), (by first | rfl | (simp; done) | (simp [*]; done)), H', ⟨by first | omega | exact Nat.le_refl _⟩, ⟨by (with_reducible repeat (first | refine blk_drewN ?_ _ | refine blk_drew ?_ | refine blk_alloc ?_ _)); exact BK264.out⟩, ⟨by repeat (first | (with_reducible first | exact HB.out | apply below_alloc | apply pw_below_drewN | apply below_drew1 | refine below_set ?_ GE264.out) | exact HB.out)⟩⟩
      · replace c9 := Bool.eq_false_iff.mpr c9
        subst c9
        have H1 : (tabardref7_Print.j0 k (⟨#[]⟩ : ByteArray) false a0_1 a0_2) = some r := by rw [if_neg (show ¬ (false = true) by decide)] at H; exact H
        clear H
        have H := H1
        clear H1
        have H' := Aside0.mk H
        clear H
        go_wp2
        go_meet
        case rel => exact ⟨_, ((⟨#[]⟩ : ByteArray)), (by first | rfl | (simp; done) | (simp [*]; done)), H', ⟨by first | omega | exact Nat.le_refl _⟩, ⟨by (with_reducible repeat (first | refine blk_drewN ?_ _ | refine blk_drew ?_ | refine blk_alloc ?_ _)); exact BK264.out⟩, ⟨by repeat (first | (with_reducible first | exact HB.out | apply below_alloc | apply pw_below_drewN | apply below_drew1 | refine below_set ?_ GE264.out) | exact HB.out)⟩⟩
    case rest =>
      clear HC4
      try clear c1
      try clear c2
      try clear p2
      try clear c3
      try clear c9
      try clear hcz6_0
      try clear hcz6_1
      try clear hcz6_2
      try clear hcz8_0
      try clear hcz8_1
      try clear hcz8_2
      try clear hfz6_0
      try clear hfz6_1
      try clear hfz6_2
      try clear hfz8_0
      try clear hfz8_1
      try clear hfz8_2
      obtain ⟨kq, x4_3, rfl, HA, HJ3, BK264, HB⟩ := hcut
      cases kq with
      | zero => exact absurd HA.out (by simp [tabardref7_Print.j0])
      | succ kj3 =>
        have H := HA.out
        clear HA
        simp only [tabardref7_Print.j0] at H
        replace H := Option.bind_eq_some_iff.mp H
        obtain ⟨t266, A100, H⟩ := H
        replace H : (if (a0_1.size : Int) = 0 then (if x4_3.size + 1 ≤ 9223372036854775807 then (some (x4_3 ++ (⟨#[48]⟩ : ByteArray))) else (none)) else (if t266 ≥ 1 then (tabardref7_Print.j1 kj3 x4_3 t266 (a0_1.size : Int) (decide (t266 ≤ 21)) a0_0 a0_1 a0_2) else (tabardref7_Print.j1 kj3 x4_3 t266 (a0_1.size : Int) false a0_0 a0_1 a0_2))) = some r := H
        have A10 := Aside0.mk A100
        clear A100
        by_cases c11 : (a0_1.size : Int) = 0
        · rw [if_pos c11] at H
          have c11b0 : ((a0_1.size : Int) == 0) = true := beq_iff_eq.mpr c11
          have c11b1 : ((a0_1.size : Int) != 0) = false := bne_eq_false_iff_eq.mpr c11
          clear c11
          by_cases c12 : x4_3.size + 1 ≤ 9223372036854775807
          · rw [if_pos c12] at H
            have c12b0 := eq_true c12
            have c12b1 : decide (x4_3.size + 1 ≤ 9223372036854775807) = true := decide_eq_true c12
            try have c12b2 : (9223372036854775807 < x4_3.size + 1) = False := eq_false (Nat.not_lt.2 c12)
            obtain rfl := Option.some.inj H
            have hcz13_0 : wc.cell? ⟨gb264, 0, none⟩ = some (.bool a0_0) := (blk_cell BK264.out 0).trans rfl
            have hcz13_1 : wc.cell? ⟨gb264, 1, none⟩ = some (.string a0_1) := (blk_cell BK264.out 1).trans rfl
            have hcz13_2 : wc.cell? ⟨gb264, 2, none⟩ = some (.int .i64 a0_2) := (blk_cell BK264.out 2).trans rfl
            have hfz13_0 := blk_frozen BK264.out 0
            have hfz13_1 := blk_frozen BK264.out 1
            have hfz13_2 := blk_frozen BK264.out 2
            go_wp2_with (first | ((with_reducible refine gate_callee (f := 25) rfl ?_); refine goesL_ (some 16) rfl rfl Tryd.func25 (by kernel_rfl) rfl #[.agg #[.bool a0_0, .string a0_1, .int .i64 a0_2]] rfl (by (try simp only [List.map_toArray, List.map_cons, List.map_nil]); first | done | rfl | (simp only [List.length_drop, List.length_take]; rfl)) ?_; (with_reducible refine (tabardref7_Point.calls kj3 a0_0 a0_1 a0_2 t266 _ A10.out).mono ?_); rintro e w14 ⟨rfl, hb⟩; refine ⟨_, rfl, ?_⟩; have n0_ := Aside0.mk (blk_below (g := gb264) (o := .cells #[.bool a0_0, .string a0_1, .int .i64 a0_2] 23 (0, 0)) (by (with_reducible repeat (first | refine blk_drewN ?_ _ | refine blk_drew ?_ | refine blk_alloc ?_ _)); exact BK264.out) hb); have n1_ := Aside0.mk (below_step (by repeat (first | (with_reducible first | exact HB.out | apply below_alloc | apply pw_below_drewN | apply below_drew1 | refine below_set ?_ GE264.out) | exact HB.out)) hb); clear BK264; clear HB; have BK264 := n0_; have HB := n1_; clear n0_ n1_; (try clear hb); (try clear hb2); (try clear hk); (try clear hi); have hcz15_0 : w14.cell? ⟨gb264, 0, none⟩ = some (.bool a0_0) := (blk_cell BK264.out 0).trans rfl; have hcz15_1 : w14.cell? ⟨gb264, 1, none⟩ = some (.string a0_1) := (blk_cell BK264.out 1).trans rfl; have hcz15_2 : w14.cell? ⟨gb264, 2, none⟩ = some (.int .i64 a0_2) := (blk_cell BK264.out 2).trans rfl; have hfz15_0 := blk_frozen BK264.out 0; have hfz15_1 := blk_frozen BK264.out 1; have hfz15_2 := blk_frozen BK264.out 2))
            go_ret
            exact ⟨by first | rfl | (simp [errW_none, errW_some] <;> rfl) | (simp [*, errW_none, errW_some] <;> rfl), by repeat (first | (with_reducible first | exact HB.out | apply below_alloc | apply pw_below_drewN | apply below_drew1 | refine below_set ?_ GE264.out) | exact HB.out)⟩
          · rw [if_neg c12] at H
            exact absurd H (by simp)
        · rw [if_neg c11] at H
          have c11b0 : ((a0_1.size : Int) == 0) = false := beq_eq_false_iff_ne.mpr c11
          have c11b1 : ((a0_1.size : Int) != 0) = true := bne_iff_ne.mpr c11
          have HC16 := Aside0.mk H
          clear H
          have hcz17_0 : wc.cell? ⟨gb264, 0, none⟩ = some (.bool a0_0) := (blk_cell BK264.out 0).trans rfl
          have hcz17_1 : wc.cell? ⟨gb264, 1, none⟩ = some (.string a0_1) := (blk_cell BK264.out 1).trans rfl
          have hcz17_2 : wc.cell? ⟨gb264, 2, none⟩ = some (.int .i64 a0_2) := (blk_cell BK264.out 2).trans rfl
          have hfz17_0 := blk_frozen BK264.out 0
          have hfz17_1 := blk_frozen BK264.out 1
          have hfz17_2 := blk_frozen BK264.out 2
          go_upto_region 11 with (first | ((with_reducible refine gate_callee (f := 25) rfl ?_); refine goesL_ (some 16) rfl rfl Tryd.func25 (by kernel_rfl) rfl #[.agg #[.bool a0_0, .string a0_1, .int .i64 a0_2]] rfl (by (try simp only [List.map_toArray, List.map_cons, List.map_nil]); first | done | rfl | (simp only [List.length_drop, List.length_take]; rfl)) ?_; (with_reducible refine (tabardref7_Point.calls kj3 a0_0 a0_1 a0_2 t266 _ A10.out).mono ?_); rintro e w18 ⟨rfl, hb⟩; refine ⟨_, rfl, ?_⟩; have n0_ := Aside0.mk (blk_below (g := gb264) (o := .cells #[.bool a0_0, .string a0_1, .int .i64 a0_2] 23 (0, 0)) (by (with_reducible repeat (first | refine blk_drewN ?_ _ | refine blk_drew ?_ | refine blk_alloc ?_ _)); exact BK264.out) hb); have n1_ := Aside0.mk (below_step (by repeat (first | (with_reducible first | exact HB.out | apply below_alloc | apply pw_below_drewN | apply below_drew1 | refine below_set ?_ GE264.out) | exact HB.out)) hb); clear BK264; clear HB; have BK264 := n0_; have HB := n1_; clear n0_ n1_; (try clear hb); (try clear hb2); (try clear hk); (try clear hi); have hcz19_0 : w18.cell? ⟨gb264, 0, none⟩ = some (.bool a0_0) := (blk_cell BK264.out 0).trans rfl; have hcz19_1 : w18.cell? ⟨gb264, 1, none⟩ = some (.string a0_1) := (blk_cell BK264.out 1).trans rfl; have hcz19_2 : w18.cell? ⟨gb264, 2, none⟩ = some (.int .i64 a0_2) := (blk_cell BK264.out 2).trans rfl; have hfz19_0 := blk_frozen BK264.out 0; have hfz19_1 := blk_frozen BK264.out 1; have hfz19_2 := blk_frozen BK264.out 2))
          (try simp only [Act.put, List.setIfInBounds_toArray, List.set_cons_zero, List.set_cons_succ])
          go_cut [25] (fun v25 wc => ∃ (kq : Nat) (x25_15 : Bool), v25 = .bool x25_15 ∧ Aside0 (tabardref7_Print.j1 kq x4_3 t266 (a0_1.size : Int) x25_15 a0_0 a0_1 a0_2 = some r) ∧ Aside0 (kq ≤ kj3) ∧ Aside0 (wc.heap[gb264]? = some (.cells #[.bool a0_0, .string a0_1, .int .i64 a0_2] 23 (0, 0))) ∧ Aside0 (Below w.heap.size w wc))
          case first =>
            have H := HC16.out
            clear HC16
            by_cases c20 : t266 ≥ 1
            · rw [if_pos c20] at H
              have c20b0 : decide (1 ≤ t266) = true := decide_eq_true c20
              clear c20
              (first | rw [c20b0] | (simp only [i64_w, i32_w]; rw [c20b0]) | skip)
              have H' := Aside0.mk H
              clear H
              go_wp2
              go_meet
              case rel => exact ⟨_, (decide (t266 ≤ 21)), (by first | rfl | (simp; done) | (simp [*]; done)), H', ⟨by have := HJ3.out; first | omega | exact Nat.le_refl _⟩, ⟨by (with_reducible repeat (first | refine blk_drewN ?_ _ | refine blk_drew ?_ | refine blk_alloc ?_ _)); exact BK264.out⟩, ⟨by repeat (first | (with_reducible first | exact HB.out | apply below_alloc | apply pw_below_drewN | apply below_drew1 | refine below_set ?_ GE264.out) | exact HB.out)⟩⟩
            · rw [if_neg c20] at H
              have c20b0 : decide (1 ≤ t266) = false := decide_eq_false c20
              clear c20
              (first | rw [c20b0] | (simp only [i64_w, i32_w]; rw [c20b0]) | skip)
              have H' := Aside0.mk H
              clear H
              go_wp2
              go_meet
              case rel => exact ⟨_, (false), (by first | rfl | (simp; done) | (simp [*]; done)), H', ⟨by have := HJ3.out; first | omega | exact Nat.le_refl _⟩, ⟨by (with_reducible repeat (first | refine blk_drewN ?_ _ | refine blk_drew ?_ | refine blk_alloc ?_ _)); exact BK264.out⟩, ⟨by repeat (first | (with_reducible first | exact HB.out | apply below_alloc | apply pw_below_drewN | apply below_drew1 | refine below_set ?_ GE264.out) | exact HB.out)⟩⟩
          case rest =>
            clear HC16
            try clear c1
            try clear c2
            try clear p2
            try clear c3
            try clear c9
            try clear c11
            try clear c11b0
            try clear c11b1
            try clear c12
            try clear c12b0
            try clear c12b1
            try clear c12b2
            try clear c16
            try clear c20
            try clear c20b0
            try clear hcz13_0
            try clear hcz13_1
            try clear hcz13_2
            try clear hcz15_0
            try clear hcz15_1
            try clear hcz15_2
            try clear hcz17_0
            try clear hcz17_1
            try clear hcz17_2
            try clear hcz19_0
            try clear hcz19_1
            try clear hcz19_2
            try clear hcz6_0
            try clear hcz6_1
            try clear hcz6_2
            try clear hcz8_0
            try clear hcz8_1
            try clear hcz8_2
            try clear hfz13_0
            try clear hfz13_1
            try clear hfz13_2
            try clear hfz15_0
            try clear hfz15_1
            try clear hfz15_2
            try clear hfz17_0
            try clear hfz17_1
            try clear hfz17_2
            try clear hfz19_0
            try clear hfz19_1
            try clear hfz19_2
            try clear hfz6_0
            try clear hfz6_1
            try clear hfz6_2
            try clear hfz8_0
            try clear hfz8_1
            try clear hfz8_2
            try clear p2
            obtain ⟨kq, x25_15, rfl, HA, HJ15, BK264, HB⟩ := hcut
            cases kq with
            | zero => exact absurd HA.out (by simp [tabardref7_Print.j1])
            | succ kj15 =>
              have H := HA.out
              clear HA
              simp only [tabardref7_Print.j1] at H
              by_cases c21 : x25_15 = true
              · subst c21
                have H1 : (tabardref7_Print.l0 kj15 x4_3 t266 (a0_1.size : Int) 0 a0_0 a0_1 a0_2) = some r := by rw [if_pos rfl] at H; exact H
                clear H
                have H := H1
                clear H1
                have H' := Aside0.mk H
                clear H
                go_wp2
                go_loopg [4, 7] kj15 (fun kq v4 v7 w' => ∃ (x4_3 : ByteArray) (x7_3 : Int), v4 = .string x4_3 ∧ v7 = .int .i64 x7_3 ∧ Aside0 (tabardref7_Print.l0 kq x4_3 t266 (a0_1.size : Int) x7_3 a0_0 a0_1 a0_2 = some r) ∧ Aside0 (kq ≤ kj15) ∧ Aside0 (w'.heap[gb264]? = some (.cells #[.bool a0_0, .string a0_1, .int .i64 a0_2] 23 (0, 0))) ∧ Aside0 (Below w.heap.size w w'))
                case atStart => exact ⟨(x4_3), (0), (by first | rfl | (simp; done) | (simp [*]; done)), (by first | rfl | (simp; done) | (simp [*]; done)), H', ⟨Nat.le_refl _⟩, ⟨by (with_reducible repeat (first | refine blk_drewN ?_ _ | refine blk_drew ?_ | refine blk_alloc ?_ _)); exact BK264.out⟩, ⟨by repeat (first | (with_reducible first | exact HB.out | apply below_alloc | apply pw_below_drewN | apply below_drew1 | refine below_set ?_ GE264.out) | exact HB.out)⟩⟩
                case round =>
                  clear H'
                  try clear c1
                  try clear c2
                  try clear p2
                  try clear c3
                  try clear c9
                  try clear c11
                  try clear c11b0
                  try clear c11b1
                  try clear c12
                  try clear c12b0
                  try clear c12b1
                  try clear c12b2
                  try clear c16
                  try clear c20
                  try clear c20b0
                  try clear c21
                  try clear hcz13_0
                  try clear hcz13_1
                  try clear hcz13_2
                  try clear hcz15_0
                  try clear hcz15_1
                  try clear hcz15_2
                  try clear hcz17_0
                  try clear hcz17_1
                  try clear hcz17_2
                  try clear hcz19_0
                  try clear hcz19_1
                  try clear hcz19_2
                  try clear hcz6_0
                  try clear hcz6_1
                  try clear hcz6_2
                  try clear hcz8_0
                  try clear hcz8_1
                  try clear hcz8_2
                  try clear hfz13_0
                  try clear hfz13_1
                  try clear hfz13_2
                  try clear hfz15_0
                  try clear hfz15_1
                  try clear hfz15_2
                  try clear hfz17_0
                  try clear hfz17_1
                  try clear hfz17_2
                  try clear hfz19_0
                  try clear hfz19_1
                  try clear hfz19_2
                  try clear hfz6_0
                  try clear hfz6_1
                  try clear hfz6_2
                  try clear hfz8_0
                  try clear hfz8_1
                  try clear hfz8_2
                  try clear p2
                  obtain ⟨x4_3, x7_3, rfl, rfl, HA, HK3, BK264, HB⟩ := hrel
                  cases gk with
                  | zero => exact absurd HA.out (by simp [tabardref7_Print.l0])
                  | succ k3 =>
                    have H := HA.out
                    clear HA
                    simp only [tabardref7_Print.l0] at H
                    have HC22 := Aside0.mk H
                    clear H
                    go_upto_region 13 with (fail)
                    go_cut [39] (fun v39 wc => ∃ (kq : Nat) (x39_21 : Bool), v39 = .bool x39_21 ∧ Aside0 (tabardref7_Print.j3 kq x4_3 t266 (a0_1.size : Int) x7_3 x39_21 a0_0 a0_1 a0_2 = some r) ∧ Aside0 (kq ≤ k3) ∧ Aside0 (wc.heap[gb264]? = some (.cells #[.bool a0_0, .string a0_1, .int .i64 a0_2] 23 (0, 0))) ∧ Aside0 (Below w.heap.size w wc))
                    case first =>
                      have H := HC22.out
                      clear HC22
                      by_cases c23 : x7_3 < t266
                      · rw [if_pos c23] at H
                        have c23b0 : decide (x7_3 < t266) = true := decide_eq_true c23
                        clear c23
                        (first | rw [c23b0] | (simp only [i64_w, i32_w]; rw [c23b0]) | skip)
                        have H' := Aside0.mk H
                        clear H
                        go_wp2
                        go_meet
                        case rel => exact ⟨_, (true), (by first | rfl | (simp; done) | (simp [*]; done)), H', ⟨by have := HJ3.out; have := HJ15.out; have := HK3.out; first | omega | exact Nat.le_refl _⟩, ⟨by (with_reducible repeat (first | refine blk_drewN ?_ _ | refine blk_drew ?_ | refine blk_alloc ?_ _)); exact BK264.out⟩, ⟨by repeat (first | (with_reducible first | exact HB.out | apply below_alloc | apply pw_below_drewN | apply below_drew1 | refine below_set ?_ GE264.out) | exact HB.out)⟩⟩
                      · rw [if_neg c23] at H
                        have c23b0 : decide (x7_3 < t266) = false := decide_eq_false c23
                        clear c23
                        (first | rw [c23b0] | (simp only [i64_w, i32_w]; rw [c23b0]) | skip)
                        have H' := Aside0.mk H
                        clear H
                        go_wp2
                        go_meet
                        case rel => exact ⟨_, (decide (x7_3 < (a0_1.size : Int))), (by first | rfl | (simp; done) | (simp [*]; done)), H', ⟨by have := HJ3.out; have := HJ15.out; have := HK3.out; first | omega | exact Nat.le_refl _⟩, ⟨by (with_reducible repeat (first | refine blk_drewN ?_ _ | refine blk_drew ?_ | refine blk_alloc ?_ _)); exact BK264.out⟩, ⟨by repeat (first | (with_reducible first | exact HB.out | apply below_alloc | apply pw_below_drewN | apply below_drew1 | refine below_set ?_ GE264.out) | exact HB.out)⟩⟩
                    case rest =>
                      clear HC22
                      try clear c1
                      try clear c2
                      try clear p2
                      try clear c3
                      try clear c9
                      try clear c11
                      try clear c11b0
                      try clear c11b1
                      try clear c12
                      try clear c12b0
                      try clear c12b1
                      try clear c12b2
                      try clear c16
                      try clear c20
                      try clear c20b0
                      try clear c21
                      try clear c22
                      try clear c23
                      try clear c23b0
                      try clear hcz13_0
                      try clear hcz13_1
                      try clear hcz13_2
                      try clear hcz15_0
                      try clear hcz15_1
                      try clear hcz15_2
                      try clear hcz17_0
                      try clear hcz17_1
                      try clear hcz17_2
                      try clear hcz19_0
                      try clear hcz19_1
                      try clear hcz19_2
                      try clear hcz6_0
                      try clear hcz6_1
                      try clear hcz6_2
                      try clear hcz8_0
                      try clear hcz8_1
                      try clear hcz8_2
                      try clear hfz13_0
                      try clear hfz13_1
                      try clear hfz13_2
                      try clear hfz15_0
                      try clear hfz15_1
                      try clear hfz15_2
                      try clear hfz17_0
                      try clear hfz17_1
                      try clear hfz17_2
                      try clear hfz19_0
                      try clear hfz19_1
                      try clear hfz19_2
                      try clear hfz6_0
                      try clear hfz6_1
                      try clear hfz6_2
                      try clear hfz8_0
                      try clear hfz8_1
                      try clear hfz8_2
                      try clear p2
                      obtain ⟨kq, x39_21, rfl, HA, HJ21, BK264, HB⟩ := hcut
                      cases kq with
                      | zero => exact absurd HA.out (by simp [tabardref7_Print.j3])
                      | succ kj21 =>
                        have H := HA.out
                        clear HA
                        simp only [tabardref7_Print.j3] at H
                        by_cases c24 : x39_21 = true
                        · subst c24
                          have H1 : (if x7_3 = t266 then (if x4_3.size + 1 ≤ 9223372036854775807 then ((tabardref7_at.f a0_0 a0_1 a0_2 (wrap64 ((wrap64 (t266 - 1)) - x7_3))).bind fun t267 => ((some (([t267] : List Int) : List Int)).bind fun y268 => (if (x4_3 ++ (⟨#[46]⟩ : ByteArray)).size + (strOfNums y268).size ≤ 9223372036854775807 then (tabardref7_Print.l0 kj21 ((x4_3 ++ (⟨#[46]⟩ : ByteArray)) ++ (strOfNums y268)) t266 (a0_1.size : Int) (wrap64 (x7_3 + 1)) a0_0 a0_1 a0_2) else (none)))) else (none)) else ((tabardref7_at.f a0_0 a0_1 a0_2 (wrap64 ((wrap64 (t266 - 1)) - x7_3))).bind fun t271 => ((some (([t271] : List Int) : List Int)).bind fun y272 => (if x4_3.size + (strOfNums y272).size ≤ 9223372036854775807 then (tabardref7_Print.l0 kj21 (x4_3 ++ (strOfNums y272)) t266 (a0_1.size : Int) (wrap64 (x7_3 + 1)) a0_0 a0_1 a0_2) else (none))))) = some r := by rw [if_pos rfl] at H; exact H
                          clear H
                          have H := H1
                          clear H1
                          by_cases c25 : x7_3 = t266
                          · rw [if_pos c25] at H
                            have c25b0 : (x7_3 == t266) = true := beq_iff_eq.mpr c25
                            have c25b1 : (x7_3 != t266) = false := bne_eq_false_iff_eq.mpr c25
                            clear c25
                            by_cases c26 : x4_3.size + 1 ≤ 9223372036854775807
                            · rw [if_pos c26] at H
                              have c26b0 := eq_true c26
                              have c26b1 : decide (x4_3.size + 1 ≤ 9223372036854775807) = true := decide_eq_true c26
                              try have c26b2 : (9223372036854775807 < x4_3.size + 1) = False := eq_false (Nat.not_lt.2 c26)
                              replace H := Option.bind_eq_some_iff.mp H
                              obtain ⟨t267, A270, H⟩ := H
                              replace H : ((some (([t267] : List Int) : List Int)).bind fun y268 => (if (x4_3 ++ (⟨#[46]⟩ : ByteArray)).size + (strOfNums y268).size ≤ 9223372036854775807 then (tabardref7_Print.l0 kj21 ((x4_3 ++ (⟨#[46]⟩ : ByteArray)) ++ (strOfNums y268)) t266 (a0_1.size : Int) (wrap64 (x7_3 + 1)) a0_0 a0_1 a0_2) else (none))) = some r := H
                              have A27 := Aside0.mk A270
                              clear A270
                              obtain ⟨y268, hy268⟩ : ∃ y_ : List Int, y_ = (([t267] : List Int)) := ⟨_, rfl⟩
                              replace H : (if (x4_3 ++ (⟨#[46]⟩ : ByteArray)).size + (strOfNums y268).size ≤ 9223372036854775807 then (tabardref7_Print.l0 kj21 ((x4_3 ++ (⟨#[46]⟩ : ByteArray)) ++ (strOfNums y268)) t266 (a0_1.size : Int) (wrap64 (x7_3 + 1)) a0_0 a0_1 a0_2) else (none)) = some r := by first | (rw [hy268]; with_reducible exact H) | (have H2_ := (Option.bind_some _ _).symm.trans H; rw [hy268]; with_reducible exact H2_) | (have H2_ := (Option.bind_some _ _).symm.trans H; with_reducible exact H2_) | with_reducible exact H | (rw [hy268]; exact H) | exact H
                              have Ny268 := Aside0.mk hy268
                              clear hy268
                              by_cases c28 : (x4_3 ++ (⟨#[46]⟩ : ByteArray)).size + (strOfNums y268).size ≤ 9223372036854775807
                              · rw [if_pos c28] at H
                                have c28b0 := eq_true c28
                                have c28b1 : decide ((x4_3 ++ (⟨#[46]⟩ : ByteArray)).size + (strOfNums y268).size ≤ 9223372036854775807) = true := decide_eq_true c28
                                try have c28b2 : (9223372036854775807 < (x4_3 ++ (⟨#[46]⟩ : ByteArray)).size + (strOfNums y268).size) = False := eq_false (Nat.not_lt.2 c28)
                                (try (have c28z := c28; simp [ByteArray.size_extract, ByteArray.size_append, size_lit] at c28z))
                                (try (have c28z2 := eq_false (Nat.not_lt.2 c28z)))
                                have H' := Aside0.mk H
                                clear H
                                have hcz29_0 : wc.cell? ⟨gb264, 0, none⟩ = some (.bool a0_0) := (blk_cell BK264.out 0).trans rfl
                                have hcz29_1 : wc.cell? ⟨gb264, 1, none⟩ = some (.string a0_1) := (blk_cell BK264.out 1).trans rfl
                                have hcz29_2 : wc.cell? ⟨gb264, 2, none⟩ = some (.int .i64 a0_2) := (blk_cell BK264.out 2).trans rfl
                                have hfz29_0 := blk_frozen BK264.out 0
                                have hfz29_1 := blk_frozen BK264.out 1
                                have hfz29_2 := blk_frozen BK264.out 2
                                go_wp2_with (first | ((with_reducible refine gate_callee (f := 34) rfl ?_); refine goesL_ (some 53) rfl rfl Tryd.func34 (by kernel_rfl) rfl #[.agg #[.bool a0_0, .string a0_1, .int .i64 a0_2], .int .i64 (wrap64 ((wrap64 (t266 - 1)) - x7_3))] rfl (by (try simp only [List.map_toArray, List.map_cons, List.map_nil]); first | done | rfl | (simp only [List.length_drop, List.length_take]; rfl)) ?_; (with_reducible refine (tabardref7_at.calls a0_0 a0_1 a0_2 (wrap64 ((wrap64 (t266 - 1)) - x7_3)) t267 _ A27.out).mono ?_); rintro e w30 ⟨rfl, hb⟩; refine ⟨_, rfl, ?_⟩; have n0_ := Aside0.mk (blk_below (g := gb264) (o := .cells #[.bool a0_0, .string a0_1, .int .i64 a0_2] 23 (0, 0)) (by (with_reducible repeat (first | refine blk_drewN ?_ _ | refine blk_drew ?_ | refine blk_alloc ?_ _)); exact BK264.out) hb); have n1_ := Aside0.mk (below_step (by repeat (first | (with_reducible first | exact HB.out | apply below_alloc | apply pw_below_drewN | apply below_drew1 | refine below_set ?_ GE264.out) | exact HB.out)) hb); clear BK264; clear HB; have BK264 := n0_; have HB := n1_; clear n0_ n1_; (try clear hb); (try clear hb2); (try clear hk); (try clear hi)) | ((with_reducible refine gate_dst (N := 54) rfl ?_); refine Kd.R_lit (Kd.int .u8) _ 5 ?hg (N := 54) ?hd (xs := ([t267] : List Int)) (inner := [.int .u8 t267]) (ok := fun _ => True) (okp := fun _ => True) ?hr ?hp (fun _ hk => hk) trivial (Below.refl _ _) (Nat.le_refl _) (by simp) ?_; (case hd => rfl); (case hg => rfl); (case hr => first | (go_simp; done) | (go_simp; rfl)); (case hp => exact (Reps.one (show Kd.M (Kd.int .u8) _ _ _ t267 [.int .u8 t267] from rfl) (Reps.none _ _))); intro v269 w31 ho32 hb hg_ hnew_; clear hg_ hnew_; (first | rw [← Ny268.out] at ho32 | (simp only [Int.reduceToNat] at ho32; rw [← Ny268.out] at ho32)); have n0_ := Aside0.mk (Kd.R_lower ho32 (below_size (by repeat (first | (with_reducible first | exact HB.out | apply below_alloc | apply pw_below_drewN | apply below_drew1 | refine below_set ?_ GE264.out) | exact HB.out)))); have n1_ := Aside0.mk (blk_below (g := gb264) (o := .cells #[.bool a0_0, .string a0_1, .int .i64 a0_2] 23 (0, 0)) (by (with_reducible repeat (first | refine blk_drewN ?_ _ | refine blk_drew ?_ | refine blk_alloc ?_ _)); exact BK264.out) hb); have n2_ := Aside0.mk (below_step (by repeat (first | (with_reducible first | exact HB.out | apply below_alloc | apply pw_below_drewN | apply below_drew1 | refine below_set ?_ GE264.out) | exact HB.out)) hb); clear BK264; clear HB; have HO270 := n0_; have BK264 := n1_; have HB := n2_; clear n0_ n1_ n2_; clear hb ho32; have hcv33 := own_string (P := Tryd.prog) Tryd.underlying47 Tryd.underlying5 Tryd.underlying9 (Kd.own_of_R HO270.out)))
                                go_roundg kj21
                                case measure => have := HJ3.out; have := HJ15.out; have := HK3.out; have := HJ21.out; omega
                                case rel => exact ⟨((x4_3 ++ (⟨#[46]⟩ : ByteArray)) ++ (strOfNums y268)), (wrap64 (x7_3 + 1)), (by first | rfl | (simp; done) | (simp [*]; done)), (by first | rfl | (simp; done) | (simp [*]; done)), H', ⟨by have := HJ3.out; have := HJ15.out; have := HK3.out; have := HJ21.out; omega⟩, ⟨by (with_reducible repeat (first | refine blk_drewN ?_ _ | refine blk_drew ?_ | refine blk_alloc ?_ _)); exact BK264.out⟩, ⟨by repeat (first | (with_reducible first | exact HB.out | apply below_alloc | apply pw_below_drewN | apply below_drew1 | refine below_set ?_ GE264.out) | exact HB.out)⟩⟩
                              · rw [if_neg c28] at H
                                exact absurd H (by simp)
                            · rw [if_neg c26] at H
                              exact absurd H (by simp)
                          · rw [if_neg c25] at H
                            have c25b0 : (x7_3 == t266) = false := beq_eq_false_iff_ne.mpr c25
                            have c25b1 : (x7_3 != t266) = true := bne_iff_ne.mpr c25
                            replace H := Option.bind_eq_some_iff.mp H
                            obtain ⟨t271, A340, H⟩ := H
                            replace H : ((some (([t271] : List Int) : List Int)).bind fun y272 => (if x4_3.size + (strOfNums y272).size ≤ 9223372036854775807 then (tabardref7_Print.l0 kj21 (x4_3 ++ (strOfNums y272)) t266 (a0_1.size : Int) (wrap64 (x7_3 + 1)) a0_0 a0_1 a0_2) else (none))) = some r := H
                            have A34 := Aside0.mk A340
                            clear A340
                            obtain ⟨y272, hy272⟩ : ∃ y_ : List Int, y_ = (([t271] : List Int)) := ⟨_, rfl⟩
                            replace H : (if x4_3.size + (strOfNums y272).size ≤ 9223372036854775807 then (tabardref7_Print.l0 kj21 (x4_3 ++ (strOfNums y272)) t266 (a0_1.size : Int) (wrap64 (x7_3 + 1)) a0_0 a0_1 a0_2) else (none)) = some r := by first | (rw [hy272]; with_reducible exact H) | (have H2_ := (Option.bind_some _ _).symm.trans H; rw [hy272]; with_reducible exact H2_) | (have H2_ := (Option.bind_some _ _).symm.trans H; with_reducible exact H2_) | with_reducible exact H | (rw [hy272]; exact H) | exact H
                            have Ny272 := Aside0.mk hy272
                            clear hy272
                            by_cases c35 : x4_3.size + (strOfNums y272).size ≤ 9223372036854775807
                            · rw [if_pos c35] at H
                              have c35b0 := eq_true c35
                              have c35b1 : decide (x4_3.size + (strOfNums y272).size ≤ 9223372036854775807) = true := decide_eq_true c35
                              try have c35b2 : (9223372036854775807 < x4_3.size + (strOfNums y272).size) = False := eq_false (Nat.not_lt.2 c35)
                              have H' := Aside0.mk H
                              clear H
                              have hcz36_0 : wc.cell? ⟨gb264, 0, none⟩ = some (.bool a0_0) := (blk_cell BK264.out 0).trans rfl
                              have hcz36_1 : wc.cell? ⟨gb264, 1, none⟩ = some (.string a0_1) := (blk_cell BK264.out 1).trans rfl
                              have hcz36_2 : wc.cell? ⟨gb264, 2, none⟩ = some (.int .i64 a0_2) := (blk_cell BK264.out 2).trans rfl
                              have hfz36_0 := blk_frozen BK264.out 0
                              have hfz36_1 := blk_frozen BK264.out 1
                              have hfz36_2 := blk_frozen BK264.out 2
                              go_wp2_with (first | ((with_reducible refine gate_callee (f := 34) rfl ?_); refine goesL_ (some 53) rfl rfl Tryd.func34 (by kernel_rfl) rfl #[.agg #[.bool a0_0, .string a0_1, .int .i64 a0_2], .int .i64 (wrap64 ((wrap64 (t266 - 1)) - x7_3))] rfl (by (try simp only [List.map_toArray, List.map_cons, List.map_nil]); first | done | rfl | (simp only [List.length_drop, List.length_take]; rfl)) ?_; (with_reducible refine (tabardref7_at.calls a0_0 a0_1 a0_2 (wrap64 ((wrap64 (t266 - 1)) - x7_3)) t271 _ A34.out).mono ?_); rintro e w37 ⟨rfl, hb⟩; refine ⟨_, rfl, ?_⟩; have n0_ := Aside0.mk (blk_below (g := gb264) (o := .cells #[.bool a0_0, .string a0_1, .int .i64 a0_2] 23 (0, 0)) (by (with_reducible repeat (first | refine blk_drewN ?_ _ | refine blk_drew ?_ | refine blk_alloc ?_ _)); exact BK264.out) hb); have n1_ := Aside0.mk (below_step (by repeat (first | (with_reducible first | exact HB.out | apply below_alloc | apply pw_below_drewN | apply below_drew1 | refine below_set ?_ GE264.out) | exact HB.out)) hb); clear BK264; clear HB; have BK264 := n0_; have HB := n1_; clear n0_ n1_; (try clear hb); (try clear hb2); (try clear hk); (try clear hi)) | ((with_reducible refine gate_dst (N := 54) rfl ?_); refine Kd.R_lit (Kd.int .u8) _ 5 ?hg (N := 54) ?hd (xs := ([t271] : List Int)) (inner := [.int .u8 t271]) (ok := fun _ => True) (okp := fun _ => True) ?hr ?hp (fun _ hk => hk) trivial (Below.refl _ _) (Nat.le_refl _) (by simp) ?_; (case hd => rfl); (case hg => rfl); (case hr => first | (go_simp; done) | (go_simp; rfl)); (case hp => exact (Reps.one (show Kd.M (Kd.int .u8) _ _ _ t271 [.int .u8 t271] from rfl) (Reps.none _ _))); intro v273 w38 ho39 hb hg_ hnew_; clear hg_ hnew_; (first | rw [← Ny272.out] at ho39 | (simp only [Int.reduceToNat] at ho39; rw [← Ny272.out] at ho39)); have n0_ := Aside0.mk (Kd.R_lower ho39 (below_size (by repeat (first | (with_reducible first | exact HB.out | apply below_alloc | apply pw_below_drewN | apply below_drew1 | refine below_set ?_ GE264.out) | exact HB.out)))); have n1_ := Aside0.mk (blk_below (g := gb264) (o := .cells #[.bool a0_0, .string a0_1, .int .i64 a0_2] 23 (0, 0)) (by (with_reducible repeat (first | refine blk_drewN ?_ _ | refine blk_drew ?_ | refine blk_alloc ?_ _)); exact BK264.out) hb); have n2_ := Aside0.mk (below_step (by repeat (first | (with_reducible first | exact HB.out | apply below_alloc | apply pw_below_drewN | apply below_drew1 | refine below_set ?_ GE264.out) | exact HB.out)) hb); clear BK264; clear HB; have HO274 := n0_; have BK264 := n1_; have HB := n2_; clear n0_ n1_ n2_; clear hb ho39; have hcv40 := own_string (P := Tryd.prog) Tryd.underlying47 Tryd.underlying5 Tryd.underlying9 (Kd.own_of_R HO274.out)))
                              go_roundg kj21
                              case measure => have := HJ3.out; have := HJ15.out; have := HK3.out; have := HJ21.out; omega
                              case rel => exact ⟨(x4_3 ++ (strOfNums y272)), (wrap64 (x7_3 + 1)), (by first | rfl | (simp; done) | (simp [*]; done)), (by first | rfl | (simp; done) | (simp [*]; done)), H', ⟨by have := HJ3.out; have := HJ15.out; have := HK3.out; have := HJ21.out; omega⟩, ⟨by (with_reducible repeat (first | refine blk_drewN ?_ _ | refine blk_drew ?_ | refine blk_alloc ?_ _)); exact BK264.out⟩, ⟨by repeat (first | (with_reducible first | exact HB.out | apply below_alloc | apply pw_below_drewN | apply below_drew1 | refine below_set ?_ GE264.out) | exact HB.out)⟩⟩
                            · rw [if_neg c35] at H
                              exact absurd H (by simp)
                        · replace c24 := Bool.eq_false_iff.mpr c24
                          subst c24
                          have H1 : (some x4_3) = some r := by rw [if_neg (show ¬ (false = true) by decide)] at H; exact H
                          clear H
                          have H := H1
                          clear H1
                          obtain rfl := Option.some.inj H
                          go_wp2
                          go_ret
                          exact ⟨by first | rfl | (simp [errW_none, errW_some] <;> rfl) | (simp [*, errW_none, errW_some] <;> rfl), by repeat (first | (with_reducible first | exact HB.out | apply below_alloc | apply pw_below_drewN | apply below_drew1 | refine below_set ?_ GE264.out) | exact HB.out)⟩
              · replace c21 := Bool.eq_false_iff.mpr c21
                subst c21
                have H1 : (if t266 ≥ (-5) then (tabardref7_Print.j4 kj15 x4_3 t266 (a0_1.size : Int) (decide (t266 ≤ 0)) a0_0 a0_1 a0_2) else (tabardref7_Print.j4 kj15 x4_3 t266 (a0_1.size : Int) false a0_0 a0_1 a0_2)) = some r := by rw [if_neg (show ¬ (false = true) by decide)] at H; exact H
                clear H
                have H := H1
                clear H1
                have HC41 := Aside0.mk H
                clear H
                go_upto_region 19 with (fail)
                go_cut [58] (fun v58 wc => ∃ (kq : Nat) (x58_40 : Bool), v58 = .bool x58_40 ∧ Aside0 (tabardref7_Print.j4 kq x4_3 t266 (a0_1.size : Int) x58_40 a0_0 a0_1 a0_2 = some r) ∧ Aside0 (kq ≤ kj15) ∧ Aside0 (wc.heap[gb264]? = some (.cells #[.bool a0_0, .string a0_1, .int .i64 a0_2] 23 (0, 0))) ∧ Aside0 (Below w.heap.size w wc))
                case first =>
                  have H := HC41.out
                  clear HC41
                  by_cases c42 : t266 ≥ (-5)
                  · rw [if_pos c42] at H
                    have c42b0 : decide ((-5) ≤ t266) = true := decide_eq_true c42
                    clear c42
                    (first | rw [c42b0] | (simp only [i64_w, i32_w]; rw [c42b0]) | skip)
                    have H' := Aside0.mk H
                    clear H
                    go_wp2
                    go_meet
                    case rel => exact ⟨_, (decide (t266 ≤ 0)), (by first | rfl | (simp; done) | (simp [*]; done)), H', ⟨by have := HJ3.out; have := HJ15.out; first | omega | exact Nat.le_refl _⟩, ⟨by (with_reducible repeat (first | refine blk_drewN ?_ _ | refine blk_drew ?_ | refine blk_alloc ?_ _)); exact BK264.out⟩, ⟨by repeat (first | (with_reducible first | exact HB.out | apply below_alloc | apply pw_below_drewN | apply below_drew1 | refine below_set ?_ GE264.out) | exact HB.out)⟩⟩
                  · rw [if_neg c42] at H
                    have c42b0 : decide ((-5) ≤ t266) = false := decide_eq_false c42
                    clear c42
                    (first | rw [c42b0] | (simp only [i64_w, i32_w]; rw [c42b0]) | skip)
                    have H' := Aside0.mk H
                    clear H
                    go_wp2
                    go_meet
                    case rel => exact ⟨_, (false), (by first | rfl | (simp; done) | (simp [*]; done)), H', ⟨by have := HJ3.out; have := HJ15.out; first | omega | exact Nat.le_refl _⟩, ⟨by (with_reducible repeat (first | refine blk_drewN ?_ _ | refine blk_drew ?_ | refine blk_alloc ?_ _)); exact BK264.out⟩, ⟨by repeat (first | (with_reducible first | exact HB.out | apply below_alloc | apply pw_below_drewN | apply below_drew1 | refine below_set ?_ GE264.out) | exact HB.out)⟩⟩
                case rest =>
                  clear HC41
                  try clear c1
                  try clear c2
                  try clear p2
                  try clear c3
                  try clear hcv3
                  try clear c4
                  try clear hcv4
                  try clear p6
                  try clear c9
                  try clear c11
                  try clear c11b0
                  try clear c11b1
                  try clear c12
                  try clear c12b0
                  try clear c12b1
                  try clear c12b2
                  try clear c16
                  try clear c20
                  try clear c20b0
                  try clear c21
                  try clear c22
                  try clear c23
                  try clear c23b0
                  try clear c24
                  try clear c25
                  try clear c25b0
                  try clear c25b1
                  try clear c26
                  try clear c26b0
                  try clear c26b1
                  try clear c26b2
                  try clear c28
                  try clear c28b0
                  try clear c28b1
                  try clear c28b2
                  try clear hcv33
                  try clear c34
                  try clear c35
                  try clear c35b0
                  try clear c35b1
                  try clear c35b2
                  try clear hcv40
                  try clear c42
                  try clear c42b0
                  try clear hcz13_0
                  try clear hcz13_1
                  try clear hcz13_2
                  try clear hcz15_0
                  try clear hcz15_1
                  try clear hcz15_2
                  try clear hcz17_0
                  try clear hcz17_1
                  try clear hcz17_2
                  try clear hcz19_0
                  try clear hcz19_1
                  try clear hcz19_2
                  try clear hcz29_0
                  try clear hcz29_1
                  try clear hcz29_2
                  try clear hcz36_0
                  try clear hcz36_1
                  try clear hcz36_2
                  try clear hcz6_0
                  try clear hcz6_1
                  try clear hcz6_2
                  try clear hcz8_0
                  try clear hcz8_1
                  try clear hcz8_2
                  try clear hfz13_0
                  try clear hfz13_1
                  try clear hfz13_2
                  try clear hfz15_0
                  try clear hfz15_1
                  try clear hfz15_2
                  try clear hfz17_0
                  try clear hfz17_1
                  try clear hfz17_2
                  try clear hfz19_0
                  try clear hfz19_1
                  try clear hfz19_2
                  try clear hfz29_0
                  try clear hfz29_1
                  try clear hfz29_2
                  try clear hfz36_0
                  try clear hfz36_1
                  try clear hfz36_2
                  try clear hfz6_0
                  try clear hfz6_1
                  try clear hfz6_2
                  try clear hfz8_0
                  try clear hfz8_1
                  try clear hfz8_2
                  try clear p2
                  obtain ⟨kq, x58_40, rfl, HA, HJ40, BK264, HB⟩ := hcut
                  cases kq with
                  | zero => exact absurd HA.out (by simp [tabardref7_Print.j4])
                  | succ kj40 =>
                    have H := HA.out
                    clear HA
                    simp only [tabardref7_Print.j4] at H
                    by_cases c43 : x58_40 = true
                    · subst c43
                      have H1 : (if x4_3.size + 2 ≤ 9223372036854775807 then (tabardref7_Print.l1 kj40 (x4_3 ++ (⟨#[48, 46]⟩ : ByteArray)) t266 0 a0_0 a0_1 a0_2) else (none)) = some r := by rw [if_pos rfl] at H; exact H
                      clear H
                      have H := H1
                      clear H1
                      by_cases c44 : x4_3.size + 2 ≤ 9223372036854775807
                      · rw [if_pos c44] at H
                        have c44b0 := eq_true c44
                        have c44b1 : decide (x4_3.size + 2 ≤ 9223372036854775807) = true := decide_eq_true c44
                        try have c44b2 : (9223372036854775807 < x4_3.size + 2) = False := eq_false (Nat.not_lt.2 c44)
                        have H' := Aside0.mk H
                        clear H
                        go_wp2
                        go_loopg [4, 8] kj40 (fun kq v4 v8 w' => ∃ (x4_4 : ByteArray) (x8_4 : Int), v4 = .string x4_4 ∧ v8 = .int .i64 x8_4 ∧ Aside0 (tabardref7_Print.l1 kq x4_4 t266 x8_4 a0_0 a0_1 a0_2 = some r) ∧ Aside0 (kq ≤ kj40) ∧ Aside0 (w'.heap[gb264]? = some (.cells #[.bool a0_0, .string a0_1, .int .i64 a0_2] 23 (0, 0))) ∧ Aside0 (Below w.heap.size w w'))
                        case atStart => exact ⟨(x4_3 ++ (⟨#[48, 46]⟩ : ByteArray)), (0), (by first | rfl | (simp; done) | (simp [*]; done)), (by first | rfl | (simp; done) | (simp [*]; done)), H', ⟨Nat.le_refl _⟩, ⟨by (with_reducible repeat (first | refine blk_drewN ?_ _ | refine blk_drew ?_ | refine blk_alloc ?_ _)); exact BK264.out⟩, ⟨by repeat (first | (with_reducible first | exact HB.out | apply below_alloc | apply pw_below_drewN | apply below_drew1 | refine below_set ?_ GE264.out) | exact HB.out)⟩⟩
                        case round =>
                          clear H'
                          try clear c1
                          try clear c2
                          try clear p2
                          try clear c3
                          try clear hcv3
                          try clear c4
                          try clear hcv4
                          try clear p6
                          try clear c9
                          try clear c11
                          try clear c11b0
                          try clear c11b1
                          try clear c12
                          try clear c12b0
                          try clear c12b1
                          try clear c12b2
                          try clear c16
                          try clear c20
                          try clear c20b0
                          try clear c21
                          try clear c22
                          try clear c23
                          try clear c23b0
                          try clear c24
                          try clear c25
                          try clear c25b0
                          try clear c25b1
                          try clear c26
                          try clear c26b0
                          try clear c26b1
                          try clear c26b2
                          try clear c28
                          try clear c28b0
                          try clear c28b1
                          try clear c28b2
                          try clear hcv33
                          try clear c34
                          try clear c35
                          try clear c35b0
                          try clear c35b1
                          try clear c35b2
                          try clear hcv40
                          try clear c42
                          try clear c42b0
                          try clear c43
                          try clear c44
                          try clear c44b0
                          try clear c44b1
                          try clear c44b2
                          try clear hcz13_0
                          try clear hcz13_1
                          try clear hcz13_2
                          try clear hcz15_0
                          try clear hcz15_1
                          try clear hcz15_2
                          try clear hcz17_0
                          try clear hcz17_1
                          try clear hcz17_2
                          try clear hcz19_0
                          try clear hcz19_1
                          try clear hcz19_2
                          try clear hcz29_0
                          try clear hcz29_1
                          try clear hcz29_2
                          try clear hcz36_0
                          try clear hcz36_1
                          try clear hcz36_2
                          try clear hcz6_0
                          try clear hcz6_1
                          try clear hcz6_2
                          try clear hcz8_0
                          try clear hcz8_1
                          try clear hcz8_2
                          try clear hfz13_0
                          try clear hfz13_1
                          try clear hfz13_2
                          try clear hfz15_0
                          try clear hfz15_1
                          try clear hfz15_2
                          try clear hfz17_0
                          try clear hfz17_1
                          try clear hfz17_2
                          try clear hfz19_0
                          try clear hfz19_1
                          try clear hfz19_2
                          try clear hfz29_0
                          try clear hfz29_1
                          try clear hfz29_2
                          try clear hfz36_0
                          try clear hfz36_1
                          try clear hfz36_2
                          try clear hfz6_0
                          try clear hfz6_1
                          try clear hfz6_2
                          try clear hfz8_0
                          try clear hfz8_1
                          try clear hfz8_2
                          try clear p2
                          try clear p6
                          obtain ⟨x4_4, x8_4, rfl, rfl, HA, HK4, BK264, HB⟩ := hrel
                          cases gk with
                          | zero => exact absurd HA.out (by simp [tabardref7_Print.l1])
                          | succ k4 =>
                            have H := HA.out
                            clear HA
                            simp only [tabardref7_Print.l1] at H
                            by_cases c45 : x8_4 < (wrap64 (-t266))
                            · rw [if_pos c45] at H
                              have c45b0 : decide (x8_4 < (wrap64 (-t266))) = true := decide_eq_true c45
                              clear c45
                              by_cases c46 : x4_4.size + 1 ≤ 9223372036854775807
                              · rw [if_pos c46] at H
                                have c46b0 := eq_true c46
                                have c46b1 : decide (x4_4.size + 1 ≤ 9223372036854775807) = true := decide_eq_true c46
                                try have c46b2 : (9223372036854775807 < x4_4.size + 1) = False := eq_false (Nat.not_lt.2 c46)
                                have H' := Aside0.mk H
                                clear H
                                go_wp2
                                go_roundg k4
                                case measure => have := HJ3.out; have := HJ15.out; have := HJ40.out; have := HK4.out; omega
                                case rel => exact ⟨(x4_4 ++ (⟨#[48]⟩ : ByteArray)), (wrap64 (x8_4 + 1)), (by first | rfl | (simp; done) | (simp [*]; done)), (by first | rfl | (simp; done) | (simp [*]; done)), H', ⟨by have := HJ3.out; have := HJ15.out; have := HJ40.out; have := HK4.out; omega⟩, ⟨by (with_reducible repeat (first | refine blk_drewN ?_ _ | refine blk_drew ?_ | refine blk_alloc ?_ _)); exact BK264.out⟩, ⟨by repeat (first | (with_reducible first | exact HB.out | apply below_alloc | apply pw_below_drewN | apply below_drew1 | refine below_set ?_ GE264.out) | exact HB.out)⟩⟩
                              · rw [if_neg c46] at H
                                exact absurd H (by simp)
                            · rw [if_neg c45] at H
                              have c45b0 : decide (x8_4 < (wrap64 (-t266))) = false := decide_eq_false c45
                              clear c45
                              by_cases c47 : x4_4.size + a0_1.size ≤ 9223372036854775807
                              · rw [if_pos c47] at H
                                have c47b0 := eq_true c47
                                have c47b1 : decide (x4_4.size + a0_1.size ≤ 9223372036854775807) = true := decide_eq_true c47
                                try have c47b2 : (9223372036854775807 < x4_4.size + a0_1.size) = False := eq_false (Nat.not_lt.2 c47)
                                obtain rfl := Option.some.inj H
                                have hcz48_0 : wr.cell? ⟨gb264, 0, none⟩ = some (.bool a0_0) := (blk_cell BK264.out 0).trans rfl
                                have hcz48_1 : wr.cell? ⟨gb264, 1, none⟩ = some (.string a0_1) := (blk_cell BK264.out 1).trans rfl
                                have hcz48_2 : wr.cell? ⟨gb264, 2, none⟩ = some (.int .i64 a0_2) := (blk_cell BK264.out 2).trans rfl
                                have hfz48_0 := blk_frozen BK264.out 0
                                have hfz48_1 := blk_frozen BK264.out 1
                                have hfz48_2 := blk_frozen BK264.out 2
                                go_wp2
                                go_ret
                                exact ⟨by first | rfl | (simp [errW_none, errW_some] <;> rfl) | (simp [*, errW_none, errW_some] <;> rfl), by repeat (first | (with_reducible first | exact HB.out | apply below_alloc | apply pw_below_drewN | apply below_drew1 | refine below_set ?_ GE264.out) | exact HB.out)⟩
                              · rw [if_neg c47] at H
                                exact absurd H (by simp)
                      · rw [if_neg c44] at H
                        exact absurd H (by simp)
                    · replace c43 := Bool.eq_false_iff.mpr c43
                      subst c43
                      have H1 : (if 0 ≤ 1 then (if 1 ≤ (a0_1.size : Int) then (if x4_3.size + (a0_1.extract 0 1).size ≤ 9223372036854775807 then (if (a0_1.size : Int) > 1 then (if (x4_3 ++ (a0_1.extract 0 1)).size + 1 ≤ 9223372036854775807 then (if ((x4_3 ++ (a0_1.extract 0 1)) ++ (⟨#[46]⟩ : ByteArray)).size + (a0_1.extract 1 a0_1.size).size ≤ 9223372036854775807 then (tabardref7_Print.j6 kj40 (((x4_3 ++ (a0_1.extract 0 1)) ++ (⟨#[46]⟩ : ByteArray)) ++ (a0_1.extract 1 a0_1.size)) t266) else (none)) else (none)) else (tabardref7_Print.j6 kj40 (x4_3 ++ (a0_1.extract 0 1)) t266)) else (none)) else (none)) else (none)) = some r := by rw [if_neg (show ¬ (false = true) by decide)] at H; exact H
                      clear H
                      have H := H1
                      clear H1
                      by_cases c49 : 0 ≤ 1
                      · rw [if_pos c49] at H
                        have c49b0 := eq_true c49
                        have c49b1 : decide (0 ≤ 1) = true := decide_eq_true c49
                        clear c49
                        by_cases c50 : 1 ≤ (a0_1.size : Int)
                        · rw [if_pos c50] at H
                          have c50b0 := eq_true c50
                          have c50b1 : decide (1 ≤ (a0_1.size : Int)) = true := decide_eq_true c50
                          clear c50
                          by_cases c51 : x4_3.size + (a0_1.extract 0 1).size ≤ 9223372036854775807
                          · rw [if_pos c51] at H
                            have c51b0 := eq_true c51
                            have c51b1 : decide (x4_3.size + (a0_1.extract 0 1).size ≤ 9223372036854775807) = true := decide_eq_true c51
                            try have c51b2 : (9223372036854775807 < x4_3.size + (a0_1.extract 0 1).size) = False := eq_false (Nat.not_lt.2 c51)
                            (try (have c51z := c51; simp [ByteArray.size_extract, ByteArray.size_append, size_lit] at c51z))
                            (try (have c51z2 := eq_false (Nat.not_lt.2 c51z)))
                            have HC52 := Aside0.mk H
                            clear H
                            have hcz53_0 : wc.cell? ⟨gb264, 0, none⟩ = some (.bool a0_0) := (blk_cell BK264.out 0).trans rfl
                            have hcz53_1 : wc.cell? ⟨gb264, 1, none⟩ = some (.string a0_1) := (blk_cell BK264.out 1).trans rfl
                            have hcz53_2 : wc.cell? ⟨gb264, 2, none⟩ = some (.int .i64 a0_2) := (blk_cell BK264.out 2).trans rfl
                            have hfz53_0 := blk_frozen BK264.out 0
                            have hfz53_1 := blk_frozen BK264.out 1
                            have hfz53_2 := blk_frozen BK264.out 2
                            go_upto_if 85 with (fail)
                            go_cut [4] (fun v4 wc => ∃ (kq : Nat) (x4_51 : ByteArray), v4 = .string x4_51 ∧ Aside0 (tabardref7_Print.j6 kq x4_51 t266 = some r) ∧ Aside0 (kq ≤ kj40) ∧ Aside0 (wc.heap[gb264]? = some (.cells #[.bool a0_0, .string a0_1, .int .i64 a0_2] 23 (0, 0))) ∧ Aside0 (Below w.heap.size w wc))
                            case first =>
                              have H := HC52.out
                              clear HC52
                              by_cases c54 : (a0_1.size : Int) > 1
                              · rw [if_pos c54] at H
                                have c54b0 : decide (1 < (a0_1.size : Int)) = true := decide_eq_true c54
                                have c54b1 : decide (1 < a0_1.size) = true := decide_eq_true (by omega)
                                clear c54
                                (first | rw [c54b0] | (simp only [i64_w, i32_w]; rw [c54b0]) | skip)
                                by_cases c55 : (x4_3 ++ (a0_1.extract 0 1)).size + 1 ≤ 9223372036854775807
                                · rw [if_pos c55] at H
                                  have c55b0 := eq_true c55
                                  have c55b1 : decide ((x4_3 ++ (a0_1.extract 0 1)).size + 1 ≤ 9223372036854775807) = true := decide_eq_true c55
                                  try have c55b2 : (9223372036854775807 < (x4_3 ++ (a0_1.extract 0 1)).size + 1) = False := eq_false (Nat.not_lt.2 c55)
                                  (try (have c55z := c55; simp [ByteArray.size_extract, ByteArray.size_append, size_lit] at c55z))
                                  (try (have c55z2 := eq_false (Nat.not_lt.2 c55z)))
                                  have c56b0 := eq_true (of_decide_eq_true (by first | (with_reducible assumption) | assumption) : 1 ≤ (a0_1.size : Int))
                                  by_cases c57 : ((x4_3 ++ (a0_1.extract 0 1)) ++ (⟨#[46]⟩ : ByteArray)).size + (a0_1.extract 1 a0_1.size).size ≤ 9223372036854775807
                                  · rw [if_pos c57] at H
                                    have c57b0 := eq_true c57
                                    have c57b1 : decide (((x4_3 ++ (a0_1.extract 0 1)) ++ (⟨#[46]⟩ : ByteArray)).size + (a0_1.extract 1 a0_1.size).size ≤ 9223372036854775807) = true := decide_eq_true c57
                                    try have c57b2 : (9223372036854775807 < ((x4_3 ++ (a0_1.extract 0 1)) ++ (⟨#[46]⟩ : ByteArray)).size + (a0_1.extract 1 a0_1.size).size) = False := eq_false (Nat.not_lt.2 c57)
                                    (try (have c57z := c57; simp [ByteArray.size_extract, ByteArray.size_append, size_lit] at c57z))
                                    (try (have c57z2 := eq_false (Nat.not_lt.2 c57z)))
                                    have H' := Aside0.mk H
                                    clear H
                                    have hcz58_0 : wc.cell? ⟨gb264, 0, none⟩ = some (.bool a0_0) := (blk_cell BK264.out 0).trans rfl
                                    have hcz58_1 : wc.cell? ⟨gb264, 1, none⟩ = some (.string a0_1) := (blk_cell BK264.out 1).trans rfl
                                    have hcz58_2 : wc.cell? ⟨gb264, 2, none⟩ = some (.int .i64 a0_2) := (blk_cell BK264.out 2).trans rfl
                                    have hfz58_0 := blk_frozen BK264.out 0
                                    have hfz58_1 := blk_frozen BK264.out 1
                                    have hfz58_2 := blk_frozen BK264.out 2
                                    go_wp2
                                    go_meet
                                    case rel => exact ⟨_, (((x4_3 ++ (a0_1.extract 0 1)) ++ (⟨#[46]⟩ : ByteArray)) ++ (a0_1.extract 1 a0_1.size)), (by first | rfl | (simp; done) | (simp [*]; done)), H', ⟨by have := HJ3.out; have := HJ15.out; have := HJ40.out; first | omega | exact Nat.le_refl _⟩, ⟨by (with_reducible repeat (first | refine blk_drewN ?_ _ | refine blk_drew ?_ | refine blk_alloc ?_ _)); exact BK264.out⟩, ⟨by repeat (first | (with_reducible first | exact HB.out | apply below_alloc | apply pw_below_drewN | apply below_drew1 | refine below_set ?_ GE264.out) | exact HB.out)⟩⟩
                                  · rw [if_neg c57] at H
                                    exact absurd H (by simp)
                                · rw [if_neg c55] at H
                                  exact absurd H (by simp)
                              · rw [if_neg c54] at H
                                have c54b0 : decide (1 < (a0_1.size : Int)) = false := decide_eq_false c54
                                have c54b1 : decide (1 < a0_1.size) = false := decide_eq_false (by omega)
                                clear c54
                                (first | rw [c54b0] | (simp only [i64_w, i32_w]; rw [c54b0]) | skip)
                                have H' := Aside0.mk H
                                clear H
                                go_wp2
                                go_meet
                                case rel => exact ⟨_, (x4_3 ++ (a0_1.extract 0 1)), (by first | rfl | (simp; done) | (simp [*]; done)), H', ⟨by have := HJ3.out; have := HJ15.out; have := HJ40.out; first | omega | exact Nat.le_refl _⟩, ⟨by (with_reducible repeat (first | refine blk_drewN ?_ _ | refine blk_drew ?_ | refine blk_alloc ?_ _)); exact BK264.out⟩, ⟨by repeat (first | (with_reducible first | exact HB.out | apply below_alloc | apply pw_below_drewN | apply below_drew1 | refine below_set ?_ GE264.out) | exact HB.out)⟩⟩
                            case rest =>
                              clear HC52
                              try clear c1
                              try clear c2
                              try clear p2
                              try clear c3
                              try clear hcv3
                              try clear c4
                              try clear hcv4
                              try clear c5
                              try clear p6
                              try clear c9
                              try clear c11
                              try clear c11b0
                              try clear c11b1
                              try clear c12
                              try clear c12b0
                              try clear c12b1
                              try clear c12b2
                              try clear c16
                              try clear c20
                              try clear c20b0
                              try clear c21
                              try clear c22
                              try clear c23
                              try clear c23b0
                              try clear c24
                              try clear c25
                              try clear c25b0
                              try clear c25b1
                              try clear c26
                              try clear c26b0
                              try clear c26b1
                              try clear c26b2
                              try clear c28
                              try clear c28b0
                              try clear c28b1
                              try clear c28b2
                              try clear hcv33
                              try clear c34
                              try clear c35
                              try clear c35b0
                              try clear c35b1
                              try clear c35b2
                              try clear hcv40
                              try clear c42
                              try clear c42b0
                              try clear c43
                              try clear c44
                              try clear c44b0
                              try clear c44b1
                              try clear c44b2
                              try clear c45
                              try clear c45b0
                              try clear c46
                              try clear c46b0
                              try clear c46b1
                              try clear c46b2
                              try clear c47
                              try clear c47b0
                              try clear c47b1
                              try clear c47b2
                              try clear c49
                              try clear c49b0
                              try clear c49b1
                              try clear c50
                              try clear c50b0
                              try clear c50b1
                              try clear c51
                              try clear c51b0
                              try clear c51b1
                              try clear c51b2
                              try clear c54
                              try clear c54b0
                              try clear c54b1
                              try clear c55
                              try clear c55b0
                              try clear c55b1
                              try clear c55b2
                              try clear c56
                              try clear c56b0
                              try clear c57
                              try clear c57b0
                              try clear c57b1
                              try clear c57b2
                              try clear hcz13_0
                              try clear hcz13_1
                              try clear hcz13_2
                              try clear hcz15_0
                              try clear hcz15_1
                              try clear hcz15_2
                              try clear hcz17_0
                              try clear hcz17_1
                              try clear hcz17_2
                              try clear hcz19_0
                              try clear hcz19_1
                              try clear hcz19_2
                              try clear hcz29_0
                              try clear hcz29_1
                              try clear hcz29_2
                              try clear hcz36_0
                              try clear hcz36_1
                              try clear hcz36_2
                              try clear hcz48_0
                              try clear hcz48_1
                              try clear hcz48_2
                              try clear hcz53_0
                              try clear hcz53_1
                              try clear hcz53_2
                              try clear hcz58_0
                              try clear hcz58_1
                              try clear hcz58_2
                              try clear hcz6_0
                              try clear hcz6_1
                              try clear hcz6_2
                              try clear hcz8_0
                              try clear hcz8_1
                              try clear hcz8_2
                              try clear hfz13_0
                              try clear hfz13_1
                              try clear hfz13_2
                              try clear hfz15_0
                              try clear hfz15_1
                              try clear hfz15_2
                              try clear hfz17_0
                              try clear hfz17_1
                              try clear hfz17_2
                              try clear hfz19_0
                              try clear hfz19_1
                              try clear hfz19_2
                              try clear hfz29_0
                              try clear hfz29_1
                              try clear hfz29_2
                              try clear hfz36_0
                              try clear hfz36_1
                              try clear hfz36_2
                              try clear hfz48_0
                              try clear hfz48_1
                              try clear hfz48_2
                              try clear hfz53_0
                              try clear hfz53_1
                              try clear hfz53_2
                              try clear hfz58_0
                              try clear hfz58_1
                              try clear hfz58_2
                              try clear hfz6_0
                              try clear hfz6_1
                              try clear hfz6_2
                              try clear hfz8_0
                              try clear hfz8_1
                              try clear hfz8_2
                              try clear p2
                              try clear p6
                              obtain ⟨kq, x4_51, rfl, HA, HJ51, BK264, HB⟩ := hcut
                              cases kq with
                              | zero => exact absurd HA.out (by simp [tabardref7_Print.j6])
                              | succ kj51 =>
                                have H := HA.out
                                clear HA
                                simp only [tabardref7_Print.j6] at H
                                by_cases c59 : (wrap64 (t266 - 1)) < 0
                                · rw [if_pos c59] at H
                                  have c59b0 : decide ((wrap64 (t266 - 1)) < 0) = true := decide_eq_true c59
                                  clear c59
                                  by_cases c60 : x4_51.size + 2 ≤ 9223372036854775807
                                  · rw [if_pos c60] at H
                                    have c60b0 := eq_true c60
                                    have c60b1 : decide (x4_51.size + 2 ≤ 9223372036854775807) = true := decide_eq_true c60
                                    try have c60b2 : (9223372036854775807 < x4_51.size + 2) = False := eq_false (Nat.not_lt.2 c60)
                                    replace H := Option.bind_eq_some_iff.mp H
                                    obtain ⟨t275, A610, H⟩ := H
                                    replace H : (if (x4_51 ++ (⟨#[101, 45]⟩ : ByteArray)).size + t275.size ≤ 9223372036854775807 then (some ((x4_51 ++ (⟨#[101, 45]⟩ : ByteArray)) ++ t275)) else (none)) = some r := H
                                    have A61 := Aside0.mk A610
                                    clear A610
                                    by_cases c62 : (x4_51 ++ (⟨#[101, 45]⟩ : ByteArray)).size + t275.size ≤ 9223372036854775807
                                    · rw [if_pos c62] at H
                                      have c62b0 := eq_true c62
                                      have c62b1 : decide ((x4_51 ++ (⟨#[101, 45]⟩ : ByteArray)).size + t275.size ≤ 9223372036854775807) = true := decide_eq_true c62
                                      try have c62b2 : (9223372036854775807 < (x4_51 ++ (⟨#[101, 45]⟩ : ByteArray)).size + t275.size) = False := eq_false (Nat.not_lt.2 c62)
                                      (try (have c62z := c62; simp [ByteArray.size_extract, ByteArray.size_append, size_lit] at c62z))
                                      (try (have c62z2 := eq_false (Nat.not_lt.2 c62z)))
                                      obtain rfl := Option.some.inj H
                                      go_wp2_with (first | ((with_reducible refine gate_callee (f := 35) rfl ?_); refine goesL_ (some 99) rfl rfl Tryd.func35 (by kernel_rfl) rfl #[.int .i64 (wrap64 (1 - t266))] rfl (by (try simp only [List.map_toArray, List.map_cons, List.map_nil]); first | done | rfl | (simp only [List.length_drop, List.length_take]; rfl)) ?_; (with_reducible refine (tabardref7_number.calls kj51 (wrap64 (1 - t266)) t275 _ A61.out).mono ?_); rintro e w' ⟨rfl, ⟨nd, rfl⟩⟩; refine ⟨_, rfl, ?_⟩))
                                      go_ret
                                      exact ⟨by first | rfl | (simp [errW_none, errW_some] <;> rfl) | (simp [*, errW_none, errW_some] <;> rfl), by repeat (first | (with_reducible first | exact HB.out | apply below_alloc | apply pw_below_drewN | apply below_drew1 | refine below_set ?_ GE264.out) | exact HB.out)⟩
                                    · rw [if_neg c62] at H
                                      exact absurd H (by simp)
                                  · rw [if_neg c60] at H
                                    exact absurd H (by simp)
                                · rw [if_neg c59] at H
                                  have c59b0 : decide ((wrap64 (t266 - 1)) < 0) = false := decide_eq_false c59
                                  clear c59
                                  by_cases c63 : x4_51.size + 2 ≤ 9223372036854775807
                                  · rw [if_pos c63] at H
                                    have c63b0 := eq_true c63
                                    have c63b1 : decide (x4_51.size + 2 ≤ 9223372036854775807) = true := decide_eq_true c63
                                    try have c63b2 : (9223372036854775807 < x4_51.size + 2) = False := eq_false (Nat.not_lt.2 c63)
                                    replace H := Option.bind_eq_some_iff.mp H
                                    obtain ⟨t276, A640, H⟩ := H
                                    replace H : (if (x4_51 ++ (⟨#[101, 43]⟩ : ByteArray)).size + t276.size ≤ 9223372036854775807 then (some ((x4_51 ++ (⟨#[101, 43]⟩ : ByteArray)) ++ t276)) else (none)) = some r := H
                                    have A64 := Aside0.mk A640
                                    clear A640
                                    by_cases c65 : (x4_51 ++ (⟨#[101, 43]⟩ : ByteArray)).size + t276.size ≤ 9223372036854775807
                                    · rw [if_pos c65] at H
                                      have c65b0 := eq_true c65
                                      have c65b1 : decide ((x4_51 ++ (⟨#[101, 43]⟩ : ByteArray)).size + t276.size ≤ 9223372036854775807) = true := decide_eq_true c65
                                      try have c65b2 : (9223372036854775807 < (x4_51 ++ (⟨#[101, 43]⟩ : ByteArray)).size + t276.size) = False := eq_false (Nat.not_lt.2 c65)
                                      (try (have c65z := c65; simp [ByteArray.size_extract, ByteArray.size_append, size_lit] at c65z))
                                      (try (have c65z2 := eq_false (Nat.not_lt.2 c65z)))
                                      obtain rfl := Option.some.inj H
                                      go_wp2_with (first | ((with_reducible refine gate_callee (f := 35) rfl ?_); refine goesL_ (some 105) rfl rfl Tryd.func35 (by kernel_rfl) rfl #[.int .i64 (wrap64 (t266 - 1))] rfl (by (try simp only [List.map_toArray, List.map_cons, List.map_nil]); first | done | rfl | (simp only [List.length_drop, List.length_take]; rfl)) ?_; (with_reducible refine (tabardref7_number.calls kj51 (wrap64 (t266 - 1)) t276 _ A64.out).mono ?_); rintro e w' ⟨rfl, ⟨nd, rfl⟩⟩; refine ⟨_, rfl, ?_⟩))
                                      go_ret
                                      exact ⟨by first | rfl | (simp [errW_none, errW_some] <;> rfl) | (simp [*, errW_none, errW_some] <;> rfl), by repeat (first | (with_reducible first | exact HB.out | apply below_alloc | apply pw_below_drewN | apply below_drew1 | refine below_set ?_ GE264.out) | exact HB.out)⟩
                                    · rw [if_neg c65] at H
                                      exact absurd H (by simp)
                                  · rw [if_neg c63] at H
                                    exact absurd H (by simp)
                          · rw [if_neg c51] at H
                            exact absurd H (by simp)
                        · rw [if_neg c50] at H
                          exact absurd H (by simp)
                      · rw [if_neg c49] at H
                        exact absurd H (by simp)
  · replace c3 := Bool.eq_false_iff.mpr c3
    subst c3
    have H1 : (some (⟨#[]⟩ : ByteArray)) = some r := by rw [if_neg (show ¬ (false = true) by decide)] at H; exact H
    clear H
    have H := H1
    clear H1
    obtain rfl := Option.some.inj H
    go_enter Tryd.func16, Tryd.ntmps16
    go_wp2_with (first | ((with_reducible refine gate_dst (N := 1) rfl ?_); refine box_event ?hg (N := 1) ?hd (cs := #[.bool a0_0, .string a0_1, .int .i64 a0_2]) (t := 23) ?hr ?_; (case hd => rfl); (case hg => rfl); (case hr => first | (go_simp; done) | (go_simp; rfl)); intro gb264 hg w66 hbox hb; have n0_ := Aside0.mk (below_step (by repeat (first | (with_reducible first | exact HB.out | apply below_alloc | apply pw_below_drewN | apply below_drew1) | exact HB.out)) hb); have n1_ := Aside0.mk (hbox); have n2_ := Aside0.mk ((by rw [hg]; exact (below_size (by repeat (first | (with_reducible first | exact HB.out | apply below_alloc | apply pw_below_drewN | apply below_drew1) | exact HB.out))) : w.heap.size ≤ gb264)); have n3_ := Aside0.mk ((by rw [hg]; exact (below_size (by repeat (first | (with_reducible first | exact HB.out | apply below_alloc | apply pw_below_drewN | apply below_drew1) | exact HB.out))) : w.heap.size ≤ gb264)); clear HB; have HB := n0_; have BK264 := n1_; have GW264 := n2_; have GE264 := n3_; clear n0_ n1_ n2_ n3_; clear hb hbox hg; have hcz67_0 : w66.cell? ⟨gb264, 0, none⟩ = some (.bool a0_0) := (blk_cell BK264.out 0).trans rfl; have hcz67_1 : w66.cell? ⟨gb264, 1, none⟩ = some (.string a0_1) := (blk_cell BK264.out 1).trans rfl; have hcz67_2 : w66.cell? ⟨gb264, 2, none⟩ = some (.int .i64 a0_2) := (blk_cell BK264.out 2).trans rfl; have hfz67_0 := blk_frozen BK264.out 0; have hfz67_1 := blk_frozen BK264.out 1; have hfz67_2 := blk_frozen BK264.out 2) | ((with_reducible refine gate_callee (f := 22) rfl ?_); refine goesL_ (some 10) rfl rfl Tryd.func22 (by kernel_rfl) rfl #[.agg #[.bool a0_0, .string a0_1, .int .i64 a0_2]] rfl (by (try simp only [List.map_toArray, List.map_cons, List.map_nil]); first | done | rfl | (simp only [List.length_drop, List.length_take]; rfl)) ?_; (with_reducible refine (tabardref7_Right.calls k a0_0 a0_1 a0_2 false _ A2.out).mono ?_); rintro e w68 ⟨rfl, hb⟩; refine ⟨_, rfl, ?_⟩; have n0_ := Aside0.mk (blk_below (g := gb264) (o := .cells #[.bool a0_0, .string a0_1, .int .i64 a0_2] 23 (0, 0)) (by (with_reducible repeat (first | refine blk_drewN ?_ _ | refine blk_drew ?_ | refine blk_alloc ?_ _)); exact BK264.out) hb); have n1_ := Aside0.mk (below_step (by repeat (first | (with_reducible first | exact HB.out | apply below_alloc | apply pw_below_drewN | apply below_drew1 | refine below_set ?_ GE264.out) | exact HB.out)) hb); clear BK264; clear HB; have BK264 := n0_; have HB := n1_; clear n0_ n1_; (try clear hb); (try clear hb2); (try clear hk); (try clear hi)))
    go_ret
    exact ⟨by first | rfl | (simp [errW_none, errW_some] <;> rfl) | (simp [*, errW_none, errW_some] <;> rfl), by repeat (first | (with_reducible first | exact HB.out | apply below_alloc | apply pw_below_drewN | apply below_drew1 | refine below_set ?_ GE264.out) | exact HB.out)⟩

end Go.Proofs.YtneeeaafhjaooaaDoor.P
