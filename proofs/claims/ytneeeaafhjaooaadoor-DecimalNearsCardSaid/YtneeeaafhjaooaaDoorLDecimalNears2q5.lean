-- Printed by a program of this session (wip/tools) over the kit's print: not trusted, Lean checks it.
import Derived.Test.YtneeeaafhjaooaaDoorLDecimalNears0q5
import Derived.Test.YtneeeaafhjaooaaDoorProg
import Derived.Test.YtneeeaafhjaooaaDoorShownq5
import Derived.Test.YtneeeaafhjaooaaDoorS1q5
import Derived.Test.YtneeeaafhjaooaaDoorP0q5
import Derived.Test.YtneeeaafhjaooaaDoorElibq5
import Derived.Test.YtneeeaafhjaooaaDoorP1q5
import Derived.Test.YtneeeaafhjaooaaDoorP2q5
import Derived.Test.YtneeeaafhjaooaaDoorP3q5
import Derived.Test.YtneeeaafhjaooaaDoorP4q5
import Derived.Test.YtneeeaafhjaooaaDoorDecGq5
import Derived.Test.YtneeeaafhjaooaaDoorLDecimalNears1q5
import Derived.Test.YtneeeaafhjaooaaDoorLibsq5
import Derived.Lib.Atoi
import Derived.Lib.ItoaLen
import Derived.Lib.ItoaMem
namespace Go.Proofs.YtneeeaafhjaooaaDoor.LDecimalNears
set_option linter.all false
open Go.Proofs.YtneeeaafhjaooaaDoor.P
open Go.RowKit Go.Proofs.YtneeeaafhjaooaaDoorW.PrintWords Go.Proofs.YtneeeaafhjaooaaDoorW.PrintLast Go.Proofs.YtneeeaafhjaooaaDoorW.PrintMore
attribute [local go_sem] max2_int min2_int max_two min_two max_three min_three max_four min_four   -- for this text's walks alone
attribute [local go_sem] cell_after
set_option linter.unusedVariables false
set_option linter.unusedSimpArgs false

attribute [local go_sem high] eqA23
/-! ### tabardlaw7_DecimalNears: function 7 -/
mutual
def tabardlaw7_DecimalNears.j0 : Nat → Int → Bool → Bool → Bool → ByteArray → Int → Option (Bool)
  | 0, _, _, _, _, _, _ => none
  | k + 1, x1, x5, x36, x102000, x102001, x102002 => if x36 = true then (some x5) else ((decimal_Place.f k x102000 x102001 x102002 x1 4).bind fun bt104 => ((decimal_Place.f k x102000 x102001 x102002 x1 5).bind fun bt109 => (if bt104.2.2.2 = 0 then (tabardlaw7_DecimalNears.j1 k x1 bt104.2.2.2 bt109.2.2.2 (bt109.2.2.2 != 0) x102000 x102001 x102002 bt104.1 bt104.2.1 bt104.2.2.1 bt109.1 bt109.2.1 bt109.2.2.1) else (tabardlaw7_DecimalNears.j1 k x1 bt104.2.2.2 bt109.2.2.2 true x102000 x102001 x102002 bt104.1 bt104.2.1 bt104.2.2.1 bt109.1 bt109.2.1 bt109.2.2.1))))
def tabardlaw7_DecimalNears.j1 : Nat → Int → Int → Int → Bool → Bool → ByteArray → Int → Bool → ByteArray → Int → Bool → ByteArray → Int → Option (Bool)
  | 0, _, _, _, _, _, _, _, _, _, _, _, _, _ => none
  | k + 1, x1, x8, x10, x55, x102000, x102001, x102002, x109000, x109001, x109002, x114000, x114001, x114002 => if x55 = true then (if x8 = x10 then (some true) else (some (decide (x102002 > 90000)))) else ((decimal_Cmp.f k x109000 x109001 x109002 x102000 x102001 x102002).bind fun t114 => (if t114 > 0 then (tabardlaw7_DecimalNears.j2 k x1 true x102000 x102001 x102002 x109000 x109001 x109002 x114000 x114001 x114002) else ((decimal_Cmp.f k x102000 x102001 x102002 x114000 x114001 x114002).bind fun t115 => (if t115 > 0 then (tabardlaw7_DecimalNears.j2 k x1 true x102000 x102001 x102002 x109000 x109001 x109002 x114000 x114001 x114002) else (if (x109000 != x102000) = true then (tabardlaw7_DecimalNears.j2 k x1 true x102000 x102001 x102002 x109000 x109001 x109002 x114000 x114001 x114002) else (tabardlaw7_DecimalNears.j2 k x1 (x114000 != x102000) x102000 x102001 x102002 x109000 x109001 x109002 x114000 x114001 x114002))))))
def tabardlaw7_DecimalNears.j2 : Nat → Int → Bool → Bool → ByteArray → Int → Bool → ByteArray → Int → Bool → ByteArray → Int → Option (Bool)
  | 0, _, _, _, _, _, _, _, _, _, _, _ => none
  | k + 1, x1, x87, x102000, x102001, x102002, x109000, x109001, x109002, x114000, x114001, x114002 => if x87 = true then (some false) else (tabardlaw7_DecimalNears.l0 k x1 0 x102000 x102001 x102002 x109000 x109001 x109002 x114000 x114001 x114002)
def tabardlaw7_DecimalNears.l0 : Nat → Int → Int → Bool → ByteArray → Int → Bool → ByteArray → Int → Bool → ByteArray → Int → Option (Bool)
  | 0, _, _, _, _, _, _, _, _, _, _, _ => none
  | k + 1, x1, x11, x102000, x102001, x102002, x109000, x109001, x109002, x114000, x114001, x114002 => if x11 < 6 then ((decimal_Place.f k x102000 x102001 x102002 x1 x11).bind fun bt116 => ((decimal_Place.f k bt116.1 bt116.2.1 bt116.2.2.1 x1 (wrap64 (5 - x11))).bind fun bt121 => ((decimal_Right.f bt116.1 bt116.2.1 bt116.2.2.1).bind fun t126 => (if bt116.2.2.2 = 0 then (if bt121.2.2.2 = 0 then (if t126 = true then (if (!(bt116.1 == bt121.1) || (!(bt116.2.1.toList == bt121.2.1.toList) || (!(bt116.2.2.1 == bt121.2.2.1)))) = true then (tabardlaw7_DecimalNears.j4 k x1 x11 true x102000 x102001 x102002 x109000 x109001 x109002 x114000 x114001 x114002) else (if (!(bt116.1 == x109000) || (!(bt116.2.1.toList == x109001.toList) || (!(bt116.2.2.1 == x109002)))) = true then (if (!(bt116.1 == x114000) || (!(bt116.2.1.toList == x114001.toList) || (!(bt116.2.2.1 == x114002)))) = true then (tabardlaw7_DecimalNears.j4 k x1 x11 true x102000 x102001 x102002 x109000 x109001 x109002 x114000 x114001 x114002) else (if (bt116.2.1.size : Int) > 0 then (if bt116.2.2.1 < (wrap64 (-x1)) then (tabardlaw7_DecimalNears.j4 k x1 x11 (!(bt116.1 == x102000) || (!(bt116.2.1.toList == x102001.toList) || (!(bt116.2.2.1 == x102002)))) x102000 x102001 x102002 x109000 x109001 x109002 x114000 x114001 x114002) else (tabardlaw7_DecimalNears.j4 k x1 x11 false x102000 x102001 x102002 x109000 x109001 x109002 x114000 x114001 x114002)) else (tabardlaw7_DecimalNears.j4 k x1 x11 false x102000 x102001 x102002 x109000 x109001 x109002 x114000 x114001 x114002))) else (if (bt116.2.1.size : Int) > 0 then (if bt116.2.2.1 < (wrap64 (-x1)) then (tabardlaw7_DecimalNears.j4 k x1 x11 (!(bt116.1 == x102000) || (!(bt116.2.1.toList == x102001.toList) || (!(bt116.2.2.1 == x102002)))) x102000 x102001 x102002 x109000 x109001 x109002 x114000 x114001 x114002) else (tabardlaw7_DecimalNears.j4 k x1 x11 false x102000 x102001 x102002 x109000 x109001 x109002 x114000 x114001 x114002)) else (tabardlaw7_DecimalNears.j4 k x1 x11 false x102000 x102001 x102002 x109000 x109001 x109002 x114000 x114001 x114002)))) else (tabardlaw7_DecimalNears.j4 k x1 x11 true x102000 x102001 x102002 x109000 x109001 x109002 x114000 x114001 x114002)) else (tabardlaw7_DecimalNears.j4 k x1 x11 true x102000 x102001 x102002 x109000 x109001 x109002 x114000 x114001 x114002)) else (tabardlaw7_DecimalNears.j4 k x1 x11 true x102000 x102001 x102002 x109000 x109001 x109002 x114000 x114001 x114002))))) else ((decimal_Sig.f k x102000 x102001 x102002 (wrap64 (1 + (wrap64 ((x102001.size : Int) / 2)))) 0).bind fun bt127 => (if bt127.2.2.2 = 0 then (if (bt127.2.1.size : Int) ≤ (wrap64 (1 + (wrap64 ((x102001.size : Int) / 2)))) then (some (bt127.1 == x102000)) else (some false)) else (some true)))
def tabardlaw7_DecimalNears.j4 : Nat → Int → Int → Bool → Bool → ByteArray → Int → Bool → ByteArray → Int → Bool → ByteArray → Int → Option (Bool)
  | 0, _, _, _, _, _, _, _, _, _, _, _, _ => none
  | k + 1, x1, x11, x151, x102000, x102001, x102002, x109000, x109001, x109002, x114000, x114001, x114002 => if x151 = true then (some false) else (tabardlaw7_DecimalNears.l0 k x1 (wrap64 (x11 + 1)) x102000 x102001 x102002 x109000 x109001 x109002 x114000 x114001 x114002)
end
def tabardlaw7_DecimalNears.f (k : Nat) (a0_0 : Bool) (a0_1 : ByteArray) (a0_2 : Int) (a1 : Int) : Option (Bool) := (tabardlaw7_shown.f).bind fun t102 => ((decimal_Right.f a0_0 a0_1 a0_2).bind fun t103 => (if t102 = true then (if t103 = true then (if a1 < (-90000) then (tabardlaw7_DecimalNears.j0 k a1 t102 true a0_0 a0_1 a0_2) else (tabardlaw7_DecimalNears.j0 k a1 t102 (decide (a1 > 90000)) a0_0 a0_1 a0_2)) else (tabardlaw7_DecimalNears.j0 k a1 t102 true a0_0 a0_1 a0_2)) else (tabardlaw7_DecimalNears.j0 k a1 t102 true a0_0 a0_1 a0_2)))
set_option maxHeartbeats 8000000 in
set_option maxRecDepth 100000 in
theorem tabardlaw7_DecimalNears.calls (k : Nat) (a0_0 : Bool) (a0_1 : ByteArray) (a0_2 : Int) (a1 : Int) (r : Bool) (w : World) (hT : Tabs w) (h : tabardlaw7_DecimalNears.f k a0_0 a0_1 a0_2 a1 = some r) :
    Calls Tryd.prog 7 #[.agg #[.bool a0_0, .string a0_1, .int .i64 a0_2], .int .i64 a1] w fun e w' => e = .returned (.bool r) ∧ Below w.heap.size w w' := by
  have hu23 := Tryd.underlying23
  have HT := Aside0.mk hT
  clear hT
  have HB := Aside0.mk (Below.refl w.heap.size w)
  have H : ((tabardlaw7_shown.f).bind fun t102 => ((decimal_Right.f a0_0 a0_1 a0_2).bind fun t103 => (if t102 = true then (if t103 = true then (if a1 < (-90000) then (tabardlaw7_DecimalNears.j0 k a1 t102 true a0_0 a0_1 a0_2) else (tabardlaw7_DecimalNears.j0 k a1 t102 (decide (a1 > 90000)) a0_0 a0_1 a0_2)) else (tabardlaw7_DecimalNears.j0 k a1 t102 true a0_0 a0_1 a0_2)) else (tabardlaw7_DecimalNears.j0 k a1 t102 true a0_0 a0_1 a0_2)))) = some r := h
  clear h
  replace H := Option.bind_eq_some_iff.mp H
  obtain ⟨t102, A30, H⟩ := H
  replace H : ((decimal_Right.f a0_0 a0_1 a0_2).bind fun t103 => (if t102 = true then (if t103 = true then (if a1 < (-90000) then (tabardlaw7_DecimalNears.j0 k a1 t102 true a0_0 a0_1 a0_2) else (tabardlaw7_DecimalNears.j0 k a1 t102 (decide (a1 > 90000)) a0_0 a0_1 a0_2)) else (tabardlaw7_DecimalNears.j0 k a1 t102 true a0_0 a0_1 a0_2)) else (tabardlaw7_DecimalNears.j0 k a1 t102 true a0_0 a0_1 a0_2))) = some r := H
  have A3 := Aside0.mk A30
  clear A30
  replace H := Option.bind_eq_some_iff.mp H
  obtain ⟨t103, A40, H⟩ := H
  replace H : (if t102 = true then (if t103 = true then (if a1 < (-90000) then (tabardlaw7_DecimalNears.j0 k a1 t102 true a0_0 a0_1 a0_2) else (tabardlaw7_DecimalNears.j0 k a1 t102 (decide (a1 > 90000)) a0_0 a0_1 a0_2)) else (tabardlaw7_DecimalNears.j0 k a1 t102 true a0_0 a0_1 a0_2)) else (tabardlaw7_DecimalNears.j0 k a1 t102 true a0_0 a0_1 a0_2)) = some r := H
  have A4 := Aside0.mk A40
  clear A40
  have HC5 := Aside0.mk H
  clear H
  go_enter Tryd.func7, Tryd.ntmps7
  go_upto_region 3 with (first | ((with_reducible refine gate_dst (N := 2) rfl ?_); (try (refine gate_guard (by rfl) ?_; dsimp only)); refine box_event ?hg (N := 2) ?hd (cs := #[.bool a0_0, .string a0_1, .int .i64 a0_2]) (t := 23) ?hr ?_; (case hd => rfl); (case hg => rfl); (case hr => first | (go_simp; done) | (go_simp; rfl)); intro gb101 hg w6 hbox hb; have n0_ := Aside0.mk (below_step (by repeat (first | (with_reducible first | exact HB.out | apply below_alloc | apply pw_below_drewN | apply below_drew1) | exact HB.out)) hb); have n1_ := Aside0.mk (hbox); have n2_ := Aside0.mk ((by rw [hg]; exact (below_size (by repeat (first | (with_reducible first | exact HB.out | apply below_alloc | apply pw_below_drewN | apply below_drew1) | exact HB.out))) : w.heap.size ≤ gb101)); have n3_ := Aside0.mk ((by rw [hg]; exact (below_size (by repeat (first | (with_reducible first | exact HB.out | apply below_alloc | apply pw_below_drewN | apply below_drew1) | exact HB.out))) : w.heap.size ≤ gb101)); clear HB; have HB := n0_; have BK101 := n1_; have GW101 := n2_; have GE101 := n3_; clear n0_ n1_ n2_ n3_; clear hb hbox hg) | ((with_reducible refine gate_callee (f := 8) rfl ?_); refine goesL_ (some 20) rfl rfl Tryd.func8 (by kernel_rfl) rfl #[] rfl (by (try simp only [List.map_toArray, List.map_cons, List.map_nil]); first | done | rfl | (simp only [List.length_drop, List.length_take]; rfl)) ?_; (with_reducible refine (tabardlaw7_shown.calls  t102 _ ?side1 A3.out).mono ?_); (case side1 => exact Tabs.below HT.out (by repeat (first | (with_reducible first | exact HB.out | apply below_alloc | apply pw_below_drewN | apply below_drew1 | refine below_set ?_ GE101.out) | exact HB.out))); rintro e w7 ⟨rfl, hb⟩; refine ⟨_, rfl, ?_⟩; have n0_ := Aside0.mk (blk_below (g := gb101) (o := .cells #[.bool a0_0, .string a0_1, .int .i64 a0_2] 23 (0, 0)) (by (with_reducible repeat (first | refine blk_drewN ?_ _ | refine blk_drew ?_ | refine blk_alloc ?_ _)); exact BK101.out) hb); have n1_ := Aside0.mk (below_step (by repeat (first | (with_reducible first | exact HB.out | apply below_alloc | apply pw_below_drewN | apply below_drew1 | refine below_set ?_ GE101.out) | exact HB.out)) hb); clear BK101; clear HB; have BK101 := n0_; have HB := n1_; clear n0_ n1_; (try clear hb); (try clear hb2); (try clear hk); (try clear hi); have hcz8_0 : w7.cell? ⟨gb101, 0, none⟩ = some (.bool a0_0) := (blk_cell BK101.out 0).trans rfl; have hcz8_1 : w7.cell? ⟨gb101, 1, none⟩ = some (.string a0_1) := (blk_cell BK101.out 1).trans rfl; have hcz8_2 : w7.cell? ⟨gb101, 2, none⟩ = some (.int .i64 a0_2) := (blk_cell BK101.out 2).trans rfl; have hfz8_0 := blk_frozen BK101.out 0; have hfz8_1 := blk_frozen BK101.out 1; have hfz8_2 := blk_frozen BK101.out 2) | ((with_reducible refine gate_callee (f := 17) rfl ?_); refine goesL_ (some 22) rfl rfl Tryd.func17 (by kernel_rfl) rfl #[.agg #[.bool a0_0, .string a0_1, .int .i64 a0_2]] rfl (by (try simp only [List.map_toArray, List.map_cons, List.map_nil]); first | done | rfl | (simp only [List.length_drop, List.length_take]; rfl)) ?_; (with_reducible refine (decimal_Right.calls a0_0 a0_1 a0_2 t103 _ A4.out).mono ?_); rintro e w9 ⟨rfl, hb⟩; refine ⟨_, rfl, ?_⟩; have n0_ := Aside0.mk (blk_below (g := gb101) (o := .cells #[.bool a0_0, .string a0_1, .int .i64 a0_2] 23 (0, 0)) (by (with_reducible repeat (first | refine blk_drewN ?_ _ | refine blk_drew ?_ | refine blk_alloc ?_ _)); exact BK101.out) hb); have n1_ := Aside0.mk (below_step (by repeat (first | (with_reducible first | exact HB.out | apply below_alloc | apply pw_below_drewN | apply below_drew1 | refine below_set ?_ GE101.out) | exact HB.out)) hb); clear BK101; clear HB; have BK101 := n0_; have HB := n1_; clear n0_ n1_; (try clear hb); (try clear hb2); (try clear hk); (try clear hi)))
  (try simp only [Act.put, List.setIfInBounds_toArray, List.set_cons_zero, List.set_cons_succ])
  go_cut [36] (fun v36 wc => ∃ (kq : Nat) (x36_4 : Bool), v36 = .bool x36_4 ∧ Aside0 (tabardlaw7_DecimalNears.j0 kq a1 t102 x36_4 a0_0 a0_1 a0_2 = some r) ∧ Aside0 (kq ≤ k) ∧ Aside0 (wc.heap[gb101]? = some (.cells #[.bool a0_0, .string a0_1, .int .i64 a0_2] 23 (0, 0))) ∧ Aside0 (Below w.heap.size w wc))
  case first =>
    have H := HC5.out
    clear HC5
    by_cases c10 : t102 = true
    · subst c10
      have H1 : (if t103 = true then (if a1 < (-90000) then (tabardlaw7_DecimalNears.j0 k a1 true true a0_0 a0_1 a0_2) else (tabardlaw7_DecimalNears.j0 k a1 true (decide (a1 > 90000)) a0_0 a0_1 a0_2)) else (tabardlaw7_DecimalNears.j0 k a1 true true a0_0 a0_1 a0_2)) = some r := by rw [if_pos rfl] at H; exact H
      clear H
      have H := H1
      clear H1
      by_cases c11 : t103 = true
      · subst c11
        have H1 : (if a1 < (-90000) then (tabardlaw7_DecimalNears.j0 k a1 true true a0_0 a0_1 a0_2) else (tabardlaw7_DecimalNears.j0 k a1 true (decide (a1 > 90000)) a0_0 a0_1 a0_2)) = some r := by rw [if_pos rfl] at H; exact H
        clear H
        have H := H1
        clear H1
        by_cases c12 : a1 < (-90000)
        · rw [if_pos c12] at H
          have c12b0 : decide (a1 < (-90000)) = true := decide_eq_true c12
          clear c12
          (first | rw [c12b0] | (simp only [i64_w, i32_w]; rw [c12b0]) | skip)
          have H' := Aside0.mk H
          clear H
          go_wp2
          go_meet
          case rel => exact ⟨_, (true), (by first | rfl | (simp; done) | (simp [*]; done)), H', ⟨by first | omega | exact Nat.le_refl _⟩, ⟨by (with_reducible repeat (first | refine blk_drewN ?_ _ | refine blk_drew ?_ | refine blk_alloc ?_ _)); exact BK101.out⟩, ⟨by repeat (first | (with_reducible first | exact HB.out | apply below_alloc | apply pw_below_drewN | apply below_drew1 | refine below_set ?_ GE101.out) | exact HB.out)⟩⟩
        · rw [if_neg c12] at H
          have c12b0 : decide (a1 < (-90000)) = false := decide_eq_false c12
          clear c12
          (first | rw [c12b0] | (simp only [i64_w, i32_w]; rw [c12b0]) | skip)
          have H' := Aside0.mk H
          clear H
          go_wp2
          go_meet
          case rel => exact ⟨_, (decide (a1 > 90000)), (by first | rfl | (simp; done) | (simp [*]; done)), H', ⟨by first | omega | exact Nat.le_refl _⟩, ⟨by (with_reducible repeat (first | refine blk_drewN ?_ _ | refine blk_drew ?_ | refine blk_alloc ?_ _)); exact BK101.out⟩, ⟨by repeat (first | (with_reducible first | exact HB.out | apply below_alloc | apply pw_below_drewN | apply below_drew1 | refine below_set ?_ GE101.out) | exact HB.out)⟩⟩
      · replace c11 := Bool.eq_false_iff.mpr c11
        subst c11
        have H1 : (tabardlaw7_DecimalNears.j0 k a1 true true a0_0 a0_1 a0_2) = some r := by rw [if_neg (show ¬ (false = true) by decide)] at H; exact H
        clear H
        have H := H1
        clear H1
        have H' := Aside0.mk H
        clear H
        go_wp2
        go_meet
        case rel => exact ⟨_, (true), (by first | rfl | (simp; done) | (simp [*]; done)), H', ⟨by first | omega | exact Nat.le_refl _⟩, ⟨by (with_reducible repeat (first | refine blk_drewN ?_ _ | refine blk_drew ?_ | refine blk_alloc ?_ _)); exact BK101.out⟩, ⟨by repeat (first | (with_reducible first | exact HB.out | apply below_alloc | apply pw_below_drewN | apply below_drew1 | refine below_set ?_ GE101.out) | exact HB.out)⟩⟩
    · replace c10 := Bool.eq_false_iff.mpr c10
      subst c10
      have H1 : (tabardlaw7_DecimalNears.j0 k a1 false true a0_0 a0_1 a0_2) = some r := by rw [if_neg (show ¬ (false = true) by decide)] at H; exact H
      clear H
      have H := H1
      clear H1
      have H' := Aside0.mk H
      clear H
      go_wp2
      go_meet
      case rel => exact ⟨_, (true), (by first | rfl | (simp; done) | (simp [*]; done)), H', ⟨by first | omega | exact Nat.le_refl _⟩, ⟨by (with_reducible repeat (first | refine blk_drewN ?_ _ | refine blk_drew ?_ | refine blk_alloc ?_ _)); exact BK101.out⟩, ⟨by repeat (first | (with_reducible first | exact HB.out | apply below_alloc | apply pw_below_drewN | apply below_drew1 | refine below_set ?_ GE101.out) | exact HB.out)⟩⟩
  case rest =>
    clear HC5
    try clear c1
    try clear p2
    try clear c7
    try clear c8
    try clear c10
    try clear c11
    try clear c12
    try clear c12b0
    try clear hcz8_0
    try clear hcz8_1
    try clear hcz8_2
    try clear hfz8_0
    try clear hfz8_1
    try clear hfz8_2
    obtain ⟨kq, x36_4, rfl, HA, HJ4, BK101, HB⟩ := hcut
    cases kq with
    | zero => exact absurd HA.out (by simp [tabardlaw7_DecimalNears.j0])
    | succ kj4 =>
      have H := HA.out
      clear HA
      simp only [tabardlaw7_DecimalNears.j0] at H
      by_cases c13 : x36_4 = true
      · subst c13
        have H1 : (some t102) = some r := by rw [if_pos rfl] at H; exact H
        clear H
        have H := H1
        clear H1
        obtain rfl := Option.some.inj H
        go_wp2
        go_ret
        exact ⟨by first | rfl | (simp [errW_none, errW_some] <;> rfl) | (simp [*, errW_none, errW_some] <;> rfl), by repeat (first | (with_reducible first | exact HB.out | apply below_alloc | apply pw_below_drewN | apply below_drew1 | refine below_set ?_ GE101.out) | exact HB.out)⟩
      · replace c13 := Bool.eq_false_iff.mpr c13
        subst c13
        have H1 : ((decimal_Place.f kj4 a0_0 a0_1 a0_2 a1 4).bind fun bt104 => ((decimal_Place.f kj4 a0_0 a0_1 a0_2 a1 5).bind fun bt109 => (if bt104.2.2.2 = 0 then (tabardlaw7_DecimalNears.j1 kj4 a1 bt104.2.2.2 bt109.2.2.2 (bt109.2.2.2 != 0) a0_0 a0_1 a0_2 bt104.1 bt104.2.1 bt104.2.2.1 bt109.1 bt109.2.1 bt109.2.2.1) else (tabardlaw7_DecimalNears.j1 kj4 a1 bt104.2.2.2 bt109.2.2.2 true a0_0 a0_1 a0_2 bt104.1 bt104.2.1 bt104.2.2.1 bt109.1 bt109.2.1 bt109.2.2.1)))) = some r := by rw [if_neg (show ¬ (false = true) by decide)] at H; exact H
        clear H
        have H := H1
        clear H1
        replace H := Option.bind_eq_some_iff.mp H
        obtain ⟨⟨t104, t105, t106, t107⟩, A140, H⟩ := H
        replace H : ((decimal_Place.f kj4 a0_0 a0_1 a0_2 a1 5).bind fun bt109 => (if t107 = 0 then (tabardlaw7_DecimalNears.j1 kj4 a1 t107 bt109.2.2.2 (bt109.2.2.2 != 0) a0_0 a0_1 a0_2 t104 t105 t106 bt109.1 bt109.2.1 bt109.2.2.1) else (tabardlaw7_DecimalNears.j1 kj4 a1 t107 bt109.2.2.2 true a0_0 a0_1 a0_2 t104 t105 t106 bt109.1 bt109.2.1 bt109.2.2.1))) = some r := H
        have A14 := Aside0.mk A140
        clear A140
        replace H := Option.bind_eq_some_iff.mp H
        obtain ⟨⟨t109, t110, t111, t112⟩, A150, H⟩ := H
        replace H : (if t107 = 0 then (tabardlaw7_DecimalNears.j1 kj4 a1 t107 t112 (t112 != 0) a0_0 a0_1 a0_2 t104 t105 t106 t109 t110 t111) else (tabardlaw7_DecimalNears.j1 kj4 a1 t107 t112 true a0_0 a0_1 a0_2 t104 t105 t106 t109 t110 t111)) = some r := H
        have A15 := Aside0.mk A150
        clear A150
        have HC16 := Aside0.mk H
        clear H
        have hcz17_0 : wc.cell? ⟨gb101, 0, none⟩ = some (.bool a0_0) := (blk_cell BK101.out 0).trans rfl
        have hcz17_1 : wc.cell? ⟨gb101, 1, none⟩ = some (.string a0_1) := (blk_cell BK101.out 1).trans rfl
        have hcz17_2 : wc.cell? ⟨gb101, 2, none⟩ = some (.int .i64 a0_2) := (blk_cell BK101.out 2).trans rfl
        have hfz17_0 := blk_frozen BK101.out 0
        have hfz17_1 := blk_frozen BK101.out 1
        have hfz17_2 := blk_frozen BK101.out 2
        go_upto_region 7 with (first | ((with_reducible refine gate_callee (f := 11) rfl ?_); refine goesL_ (some 41) rfl rfl Tryd.func11 (by kernel_rfl) rfl #[.agg #[.bool a0_0, .string a0_1, .int .i64 a0_2], .int .i64 a1, .int .i64 4] rfl (by (try simp only [List.map_toArray, List.map_cons, List.map_nil]); first | done | rfl | (simp only [List.length_drop, List.length_take]; rfl)) ?_; (with_reducible refine (decimal_Place.calls kj4 a0_0 a0_1 a0_2 a1 4 t104 t105 t106 t107 _ A14.out).mono ?_); rintro e w18 ⟨rfl, hb⟩; refine ⟨_, rfl, ?_⟩; have n0_ := Aside0.mk (blk_below (g := gb101) (o := .cells #[.bool a0_0, .string a0_1, .int .i64 a0_2] 23 (0, 0)) (by (with_reducible repeat (first | refine blk_drewN ?_ _ | refine blk_drew ?_ | refine blk_alloc ?_ _)); exact BK101.out) hb); have n1_ := Aside0.mk (below_step (by repeat (first | (with_reducible first | exact HB.out | apply below_alloc | apply pw_below_drewN | apply below_drew1 | refine below_set ?_ GE101.out) | exact HB.out)) hb); clear BK101; clear HB; have BK101 := n0_; have HB := n1_; clear n0_ n1_; (try clear hb); (try clear hb2); (try clear hk); (try clear hi)) | ((with_reducible refine gate_dst (N := 7) rfl ?_); (try (refine gate_guard (by rfl) ?_; dsimp only)); refine box_event ?hg (N := 7) ?hd (cs := #[.bool false, .string (⟨#[]⟩ : ByteArray), .int .i64 0]) (t := 23) ?hr ?_; (case hd => rfl); (case hg => rfl); (case hr => first | (go_simp; done) | (go_simp; rfl)); intro gb108 hg w19 hbox hb; have n0_ := Aside0.mk (blk_below (g := gb101) (o := .cells #[.bool a0_0, .string a0_1, .int .i64 a0_2] 23 (0, 0)) (by (with_reducible repeat (first | refine blk_drewN ?_ _ | refine blk_drew ?_ | refine blk_alloc ?_ _)); exact BK101.out) hb); have n1_ := Aside0.mk (below_step (by repeat (first | (with_reducible first | exact HB.out | apply below_alloc | apply pw_below_drewN | apply below_drew1 | refine below_set ?_ GE101.out) | exact HB.out)) hb); have n2_ := Aside0.mk (hbox); have n3_ := Aside0.mk ((by rw [hg]; exact (below_size (by repeat (first | (with_reducible first | exact HB.out | apply below_alloc | apply pw_below_drewN | apply below_drew1 | refine below_set ?_ GE101.out) | exact HB.out))) : w.heap.size ≤ gb108)); have n4_ := Aside0.mk ((by rw [hg]; exact (below_size (by repeat (first | (with_reducible first | exact HB.out | apply below_alloc | apply pw_below_drewN | apply below_drew1 | refine below_set ?_ GE101.out) | exact HB.out))) : w.heap.size ≤ gb108)); have n5_ := Aside0.mk ((by rw [hg]; exact Nat.ne_of_lt (blk_lt (g := gb101) (o := .cells #[.bool a0_0, .string a0_1, .int .i64 a0_2] 23 (0, 0)) (by (with_reducible repeat (first | refine blk_drewN ?_ _ | refine blk_drew ?_ | refine blk_alloc ?_ _)); exact BK101.out)) : gb101 ≠ gb108)); have n6_ := Aside0.mk ((by rw [hg]; exact Nat.ne_of_gt (blk_lt (g := gb101) (o := .cells #[.bool a0_0, .string a0_1, .int .i64 a0_2] 23 (0, 0)) (by (with_reducible repeat (first | refine blk_drewN ?_ _ | refine blk_drew ?_ | refine blk_alloc ?_ _)); exact BK101.out)) : gb108 ≠ gb101)); clear BK101; clear HB; have BK101 := n0_; have HB := n1_; have BK108 := n2_; have GW108 := n3_; have GE108 := n4_; have NB101_108 := n5_; have NB108_101 := n6_; clear n0_ n1_ n2_ n3_ n4_ n5_ n6_; clear hb hbox hg; have hnb20 := NB108_101.out; have hnc20 := NB101_108.out; have hcz21_0 : w19.cell? ⟨gb108, 0, none⟩ = some (.bool false) := (blk_cell BK108.out 0).trans rfl; have hcz21_1 : w19.cell? ⟨gb108, 1, none⟩ = some (.string (⟨#[]⟩ : ByteArray)) := (blk_cell BK108.out 1).trans rfl; have hcz21_2 : w19.cell? ⟨gb108, 2, none⟩ = some (.int .i64 0) := (blk_cell BK108.out 2).trans rfl; have hfz21_0 := blk_frozen BK108.out 0; have hfz21_1 := blk_frozen BK108.out 1; have hfz21_2 := blk_frozen BK108.out 2; have hcz22_0 : w19.cell? ⟨gb101, 0, none⟩ = some (.bool a0_0) := (blk_cell BK101.out 0).trans rfl; have hcz22_1 : w19.cell? ⟨gb101, 1, none⟩ = some (.string a0_1) := (blk_cell BK101.out 1).trans rfl; have hcz22_2 : w19.cell? ⟨gb101, 2, none⟩ = some (.int .i64 a0_2) := (blk_cell BK101.out 2).trans rfl; have hfz22_0 := blk_frozen BK101.out 0; have hfz22_1 := blk_frozen BK101.out 1; have hfz22_2 := blk_frozen BK101.out 2) | ((with_reducible refine gate_callee (f := 11) rfl ?_); refine goesL_ (some 47) rfl rfl Tryd.func11 (by kernel_rfl) rfl #[.agg #[.bool a0_0, .string a0_1, .int .i64 a0_2], .int .i64 a1, .int .i64 5] rfl (by (try simp only [List.map_toArray, List.map_cons, List.map_nil]); first | done | rfl | (simp only [List.length_drop, List.length_take]; rfl)) ?_; (with_reducible refine (decimal_Place.calls kj4 a0_0 a0_1 a0_2 a1 5 t109 t110 t111 t112 _ A15.out).mono ?_); rintro e w23 ⟨rfl, hb⟩; refine ⟨_, rfl, ?_⟩; have n0_ := Aside0.mk (blk_below (g := gb101) (o := .cells #[.bool a0_0, .string a0_1, .int .i64 a0_2] 23 (0, 0)) (by (with_reducible repeat (first | refine blk_drewN ?_ _ | refine blk_drew ?_ | refine blk_alloc ?_ _)); refine blk_far ?_ NB101_108.out _; (with_reducible repeat (first | refine blk_drewN ?_ _ | refine blk_drew ?_ | refine blk_alloc ?_ _)); refine blk_far ?_ NB101_108.out _; (with_reducible repeat (first | refine blk_drewN ?_ _ | refine blk_drew ?_ | refine blk_alloc ?_ _)); refine blk_far ?_ NB101_108.out _; (with_reducible repeat (first | refine blk_drewN ?_ _ | refine blk_drew ?_ | refine blk_alloc ?_ _)); exact BK101.out) hb); have n1_ := Aside0.mk (blk_below (g := gb108) (o := .cells #[.bool t104, .string t105, .int .i64 t106] 23 (0, 0)) (by (with_reducible repeat (first | refine blk_drewN ?_ _ | refine blk_drew ?_ | refine blk_alloc ?_ _)); refine blk_put (cs := #[.bool t104, .string t105, .int .i64 0]) ?_ 2 _ rfl; (with_reducible repeat (first | refine blk_drewN ?_ _ | refine blk_drew ?_ | refine blk_alloc ?_ _)); refine blk_put (cs := #[.bool t104, .string (⟨#[]⟩ : ByteArray), .int .i64 0]) ?_ 1 _ rfl; (with_reducible repeat (first | refine blk_drewN ?_ _ | refine blk_drew ?_ | refine blk_alloc ?_ _)); refine blk_put (cs := #[.bool false, .string (⟨#[]⟩ : ByteArray), .int .i64 0]) ?_ 0 _ rfl; (with_reducible repeat (first | refine blk_drewN ?_ _ | refine blk_drew ?_ | refine blk_alloc ?_ _)); exact BK108.out) hb); have n2_ := Aside0.mk (below_step (by repeat (first | (with_reducible first | exact HB.out | apply below_alloc | apply pw_below_drewN | apply below_drew1 | refine below_set ?_ GE101.out | refine below_set ?_ GE108.out) | exact HB.out)) hb); clear BK101; clear BK108; clear HB; have BK101 := n0_; have BK108 := n1_; have HB := n2_; clear n0_ n1_ n2_; (try clear hb); (try clear hb2); (try clear hk); (try clear hi)) | ((with_reducible refine gate_dst (N := 9) rfl ?_); (try (refine gate_guard (by rfl) ?_; dsimp only)); refine box_event ?hg (N := 9) ?hd (cs := #[.bool false, .string (⟨#[]⟩ : ByteArray), .int .i64 0]) (t := 23) ?hr ?_; (case hd => rfl); (case hg => rfl); (case hr => first | (go_simp; done) | (go_simp; rfl)); intro gb113 hg w24 hbox hb; have n0_ := Aside0.mk (blk_below (g := gb101) (o := .cells #[.bool a0_0, .string a0_1, .int .i64 a0_2] 23 (0, 0)) (by (with_reducible repeat (first | refine blk_drewN ?_ _ | refine blk_drew ?_ | refine blk_alloc ?_ _)); exact BK101.out) hb); have n1_ := Aside0.mk (blk_below (g := gb108) (o := .cells #[.bool t104, .string t105, .int .i64 t106] 23 (0, 0)) (by (with_reducible repeat (first | refine blk_drewN ?_ _ | refine blk_drew ?_ | refine blk_alloc ?_ _)); exact BK108.out) hb); have n2_ := Aside0.mk (below_step (by repeat (first | (with_reducible first | exact HB.out | apply below_alloc | apply pw_below_drewN | apply below_drew1 | refine below_set ?_ GE101.out | refine below_set ?_ GE108.out) | exact HB.out)) hb); have n3_ := Aside0.mk (hbox); have n4_ := Aside0.mk ((by rw [hg]; exact (below_size (by repeat (first | (with_reducible first | exact HB.out | apply below_alloc | apply pw_below_drewN | apply below_drew1 | refine below_set ?_ GE101.out | refine below_set ?_ GE108.out) | exact HB.out))) : w.heap.size ≤ gb113)); have n5_ := Aside0.mk ((by rw [hg]; exact (below_size (by repeat (first | (with_reducible first | exact HB.out | apply below_alloc | apply pw_below_drewN | apply below_drew1 | refine below_set ?_ GE101.out | refine below_set ?_ GE108.out) | exact HB.out))) : w.heap.size ≤ gb113)); have n6_ := Aside0.mk ((by rw [hg]; exact Nat.ne_of_lt (blk_lt (g := gb101) (o := .cells #[.bool a0_0, .string a0_1, .int .i64 a0_2] 23 (0, 0)) (by (with_reducible repeat (first | refine blk_drewN ?_ _ | refine blk_drew ?_ | refine blk_alloc ?_ _)); exact BK101.out)) : gb101 ≠ gb113)); have n7_ := Aside0.mk ((by rw [hg]; exact Nat.ne_of_gt (blk_lt (g := gb101) (o := .cells #[.bool a0_0, .string a0_1, .int .i64 a0_2] 23 (0, 0)) (by (with_reducible repeat (first | refine blk_drewN ?_ _ | refine blk_drew ?_ | refine blk_alloc ?_ _)); exact BK101.out)) : gb113 ≠ gb101)); have n8_ := Aside0.mk ((by rw [hg]; exact Nat.ne_of_lt (blk_lt (g := gb108) (o := .cells #[.bool t104, .string t105, .int .i64 t106] 23 (0, 0)) (by (with_reducible repeat (first | refine blk_drewN ?_ _ | refine blk_drew ?_ | refine blk_alloc ?_ _)); exact BK108.out)) : gb108 ≠ gb113)); have n9_ := Aside0.mk ((by rw [hg]; exact Nat.ne_of_gt (blk_lt (g := gb108) (o := .cells #[.bool t104, .string t105, .int .i64 t106] 23 (0, 0)) (by (with_reducible repeat (first | refine blk_drewN ?_ _ | refine blk_drew ?_ | refine blk_alloc ?_ _)); exact BK108.out)) : gb113 ≠ gb108)); clear BK101; clear BK108; clear HB; have BK101 := n0_; have BK108 := n1_; have HB := n2_; have BK113 := n3_; have GW113 := n4_; have GE113 := n5_; have NB101_113 := n6_; have NB113_101 := n7_; have NB108_113 := n8_; have NB113_108 := n9_; clear n0_ n1_ n2_ n3_ n4_ n5_ n6_ n7_ n8_ n9_; clear hb hbox hg; have hnb25 := NB113_101.out; have hnc25 := NB101_113.out; have hnb26 := NB113_108.out; have hnc26 := NB108_113.out; have hcz27_0 : w24.cell? ⟨gb113, 0, none⟩ = some (.bool false) := (blk_cell BK113.out 0).trans rfl; have hcz27_1 : w24.cell? ⟨gb113, 1, none⟩ = some (.string (⟨#[]⟩ : ByteArray)) := (blk_cell BK113.out 1).trans rfl; have hcz27_2 : w24.cell? ⟨gb113, 2, none⟩ = some (.int .i64 0) := (blk_cell BK113.out 2).trans rfl; have hfz27_0 := blk_frozen BK113.out 0; have hfz27_1 := blk_frozen BK113.out 1; have hfz27_2 := blk_frozen BK113.out 2))
        (try simp only [Act.put, List.setIfInBounds_toArray, List.set_cons_zero, List.set_cons_succ])
        go_cut [55] (fun v55 wc => ∃ (kq : Nat) (x55_15 : Bool), v55 = .bool x55_15 ∧ Aside0 (tabardlaw7_DecimalNears.j1 kq a1 t107 t112 x55_15 a0_0 a0_1 a0_2 t104 t105 t106 t109 t110 t111 = some r) ∧ Aside0 (kq ≤ kj4) ∧ Aside0 (wc.heap[gb101]? = some (.cells #[.bool a0_0, .string a0_1, .int .i64 a0_2] 23 (0, 0))) ∧ Aside0 (wc.heap[gb108]? = some (.cells #[.bool t104, .string t105, .int .i64 t106] 23 (0, 0))) ∧ Aside0 (wc.heap[gb113]? = some (.cells #[.bool t109, .string t110, .int .i64 t111] 23 (0, 0))) ∧ Aside0 (Below w.heap.size w wc))
        case first =>
          have H := HC16.out
          clear HC16
          by_cases c28 : t107 = 0
          · rw [if_pos c28] at H
            have c28b0 : (t107 == 0) = true := beq_iff_eq.mpr c28
            have c28b1 : (t107 != 0) = false := bne_eq_false_iff_eq.mpr c28
            clear c28
            (first | rw [c28b0] | (simp only [i64_w, i32_w]; rw [c28b0]) | skip)
            have H' := Aside0.mk H
            clear H
            go_wp2
            go_meet
            case rel => exact ⟨_, ((t112 != 0)), (by first | rfl | (simp; done) | (simp [*]; done)), H', ⟨by have := HJ4.out; first | omega | exact Nat.le_refl _⟩, ⟨by (with_reducible repeat (first | refine blk_drewN ?_ _ | refine blk_drew ?_ | refine blk_alloc ?_ _)); refine blk_far ?_ NB101_113.out _; (with_reducible repeat (first | refine blk_drewN ?_ _ | refine blk_drew ?_ | refine blk_alloc ?_ _)); refine blk_far ?_ NB101_113.out _; (with_reducible repeat (first | refine blk_drewN ?_ _ | refine blk_drew ?_ | refine blk_alloc ?_ _)); refine blk_far ?_ NB101_113.out _; (with_reducible repeat (first | refine blk_drewN ?_ _ | refine blk_drew ?_ | refine blk_alloc ?_ _)); exact BK101.out⟩, ⟨by (with_reducible repeat (first | refine blk_drewN ?_ _ | refine blk_drew ?_ | refine blk_alloc ?_ _)); refine blk_far ?_ NB108_113.out _; (with_reducible repeat (first | refine blk_drewN ?_ _ | refine blk_drew ?_ | refine blk_alloc ?_ _)); refine blk_far ?_ NB108_113.out _; (with_reducible repeat (first | refine blk_drewN ?_ _ | refine blk_drew ?_ | refine blk_alloc ?_ _)); refine blk_far ?_ NB108_113.out _; (with_reducible repeat (first | refine blk_drewN ?_ _ | refine blk_drew ?_ | refine blk_alloc ?_ _)); exact BK108.out⟩, ⟨by (with_reducible repeat (first | refine blk_drewN ?_ _ | refine blk_drew ?_ | refine blk_alloc ?_ _)); refine blk_put (cs := #[.bool t109, .string t110, .int .i64 0]) ?_ 2 _ rfl; (with_reducible repeat (first | refine blk_drewN ?_ _ | refine blk_drew ?_ | refine blk_alloc ?_ _)); refine blk_put (cs := #[.bool t109, .string (⟨#[]⟩ : ByteArray), .int .i64 0]) ?_ 1 _ rfl; (with_reducible repeat (first | refine blk_drewN ?_ _ | refine blk_drew ?_ | refine blk_alloc ?_ _)); refine blk_put (cs := #[.bool false, .string (⟨#[]⟩ : ByteArray), .int .i64 0]) ?_ 0 _ rfl; (with_reducible repeat (first | refine blk_drewN ?_ _ | refine blk_drew ?_ | refine blk_alloc ?_ _)); exact BK113.out⟩, ⟨by repeat (first | (with_reducible first | exact HB.out | apply below_alloc | apply pw_below_drewN | apply below_drew1 | refine below_set ?_ GE101.out | refine below_set ?_ GE108.out | refine below_set ?_ GE113.out) | exact HB.out)⟩⟩
          · rw [if_neg c28] at H
            have c28b0 : (t107 == 0) = false := beq_eq_false_iff_ne.mpr c28
            have c28b1 : (t107 != 0) = true := bne_iff_ne.mpr c28
            (first | rw [c28b0] | (simp only [i64_w, i32_w]; rw [c28b0]) | skip)
            have H' := Aside0.mk H
            clear H
            go_wp2
            go_meet
            case rel => exact ⟨_, (true), (by first | rfl | (simp; done) | (simp [*]; done)), H', ⟨by have := HJ4.out; first | omega | exact Nat.le_refl _⟩, ⟨by (with_reducible repeat (first | refine blk_drewN ?_ _ | refine blk_drew ?_ | refine blk_alloc ?_ _)); refine blk_far ?_ NB101_113.out _; (with_reducible repeat (first | refine blk_drewN ?_ _ | refine blk_drew ?_ | refine blk_alloc ?_ _)); refine blk_far ?_ NB101_113.out _; (with_reducible repeat (first | refine blk_drewN ?_ _ | refine blk_drew ?_ | refine blk_alloc ?_ _)); refine blk_far ?_ NB101_113.out _; (with_reducible repeat (first | refine blk_drewN ?_ _ | refine blk_drew ?_ | refine blk_alloc ?_ _)); exact BK101.out⟩, ⟨by (with_reducible repeat (first | refine blk_drewN ?_ _ | refine blk_drew ?_ | refine blk_alloc ?_ _)); refine blk_far ?_ NB108_113.out _; (with_reducible repeat (first | refine blk_drewN ?_ _ | refine blk_drew ?_ | refine blk_alloc ?_ _)); refine blk_far ?_ NB108_113.out _; (with_reducible repeat (first | refine blk_drewN ?_ _ | refine blk_drew ?_ | refine blk_alloc ?_ _)); refine blk_far ?_ NB108_113.out _; (with_reducible repeat (first | refine blk_drewN ?_ _ | refine blk_drew ?_ | refine blk_alloc ?_ _)); exact BK108.out⟩, ⟨by (with_reducible repeat (first | refine blk_drewN ?_ _ | refine blk_drew ?_ | refine blk_alloc ?_ _)); refine blk_put (cs := #[.bool t109, .string t110, .int .i64 0]) ?_ 2 _ rfl; (with_reducible repeat (first | refine blk_drewN ?_ _ | refine blk_drew ?_ | refine blk_alloc ?_ _)); refine blk_put (cs := #[.bool t109, .string (⟨#[]⟩ : ByteArray), .int .i64 0]) ?_ 1 _ rfl; (with_reducible repeat (first | refine blk_drewN ?_ _ | refine blk_drew ?_ | refine blk_alloc ?_ _)); refine blk_put (cs := #[.bool false, .string (⟨#[]⟩ : ByteArray), .int .i64 0]) ?_ 0 _ rfl; (with_reducible repeat (first | refine blk_drewN ?_ _ | refine blk_drew ?_ | refine blk_alloc ?_ _)); exact BK113.out⟩, ⟨by repeat (first | (with_reducible first | exact HB.out | apply below_alloc | apply pw_below_drewN | apply below_drew1 | refine below_set ?_ GE101.out | refine below_set ?_ GE108.out | refine below_set ?_ GE113.out) | exact HB.out)⟩⟩
        case rest =>
          clear HC16
          try clear c1
          try clear c2
          try clear p2
          try clear c7
          try clear c8
          try clear c10
          try clear c11
          try clear c12
          try clear c12b0
          try clear c13
          try clear c17
          try clear c20
          try clear c25
          try clear c26
          try clear c28
          try clear c28b0
          try clear c28b1
          try clear hcz17_0
          try clear hcz17_1
          try clear hcz17_2
          try clear hcz21_0
          try clear hcz21_1
          try clear hcz21_2
          try clear hcz22_0
          try clear hcz22_1
          try clear hcz22_2
          try clear hcz27_0
          try clear hcz27_1
          try clear hcz27_2
          try clear hcz8_0
          try clear hcz8_1
          try clear hcz8_2
          try clear hfz17_0
          try clear hfz17_1
          try clear hfz17_2
          try clear hfz21_0
          try clear hfz21_1
          try clear hfz21_2
          try clear hfz22_0
          try clear hfz22_1
          try clear hfz22_2
          try clear hfz27_0
          try clear hfz27_1
          try clear hfz27_2
          try clear hfz8_0
          try clear hfz8_1
          try clear hfz8_2
          try clear p2
          obtain ⟨kq, x55_15, rfl, HA, HJ15, BK101, BK108, BK113, HB⟩ := hcut
          cases kq with
          | zero => exact absurd HA.out (by simp [tabardlaw7_DecimalNears.j1])
          | succ kj15 =>
            have H := HA.out
            clear HA
            simp only [tabardlaw7_DecimalNears.j1] at H
            by_cases c29 : x55_15 = true
            · subst c29
              have H1 : (if t107 = t112 then (some true) else (some (decide (a0_2 > 90000)))) = some r := by rw [if_pos rfl] at H; exact H
              clear H
              have H := H1
              clear H1
              by_cases c30 : t107 = t112
              · rw [if_pos c30] at H
                have c30b0 : (t107 == t112) = true := beq_iff_eq.mpr c30
                have c30b1 : (t107 != t112) = false := bne_eq_false_iff_eq.mpr c30
                clear c30
                obtain rfl := Option.some.inj H
                go_wp2
                go_ret
                exact ⟨by first | rfl | (simp [errW_none, errW_some] <;> rfl) | (simp [*, errW_none, errW_some] <;> rfl), by repeat (first | (with_reducible first | exact HB.out | apply below_alloc | apply pw_below_drewN | apply below_drew1 | refine below_set ?_ GE101.out | refine below_set ?_ GE108.out | refine below_set ?_ GE113.out) | exact HB.out)⟩
              · rw [if_neg c30] at H
                have c30b0 : (t107 == t112) = false := beq_eq_false_iff_ne.mpr c30
                have c30b1 : (t107 != t112) = true := bne_iff_ne.mpr c30
                obtain rfl := Option.some.inj H
                have hnb31 := NB101_108.out
                have hnc31 := NB108_101.out
                have hnb32 := NB101_113.out
                have hnc32 := NB113_101.out
                have hcz33_0 : wc.cell? ⟨gb101, 0, none⟩ = some (.bool a0_0) := (blk_cell BK101.out 0).trans rfl
                have hcz33_1 : wc.cell? ⟨gb101, 1, none⟩ = some (.string a0_1) := (blk_cell BK101.out 1).trans rfl
                have hcz33_2 : wc.cell? ⟨gb101, 2, none⟩ = some (.int .i64 a0_2) := (blk_cell BK101.out 2).trans rfl
                have hfz33_0 := blk_frozen BK101.out 0
                have hfz33_1 := blk_frozen BK101.out 1
                have hfz33_2 := blk_frozen BK101.out 2
                go_wp2
                go_ret
                exact ⟨by first | rfl | (simp [errW_none, errW_some] <;> rfl) | (simp [*, errW_none, errW_some] <;> rfl), by repeat (first | (with_reducible first | exact HB.out | apply below_alloc | apply pw_below_drewN | apply below_drew1 | refine below_set ?_ GE101.out | refine below_set ?_ GE108.out | refine below_set ?_ GE113.out) | exact HB.out)⟩
            · replace c29 := Bool.eq_false_iff.mpr c29
              subst c29
              have H1 : ((decimal_Cmp.f kj15 t104 t105 t106 a0_0 a0_1 a0_2).bind fun t114 => (if t114 > 0 then (tabardlaw7_DecimalNears.j2 kj15 a1 true a0_0 a0_1 a0_2 t104 t105 t106 t109 t110 t111) else ((decimal_Cmp.f kj15 a0_0 a0_1 a0_2 t109 t110 t111).bind fun t115 => (if t115 > 0 then (tabardlaw7_DecimalNears.j2 kj15 a1 true a0_0 a0_1 a0_2 t104 t105 t106 t109 t110 t111) else (if (t104 != a0_0) = true then (tabardlaw7_DecimalNears.j2 kj15 a1 true a0_0 a0_1 a0_2 t104 t105 t106 t109 t110 t111) else (tabardlaw7_DecimalNears.j2 kj15 a1 (t109 != a0_0) a0_0 a0_1 a0_2 t104 t105 t106 t109 t110 t111)))))) = some r := by rw [if_neg (show ¬ (false = true) by decide)] at H; exact H
              clear H
              have H := H1
              clear H1
              have HC34 := Aside0.mk H
              clear H
              go_upto_region 9 with (fail)
              go_cut [87] (fun v87 wc => ∃ (kq : Nat) (x87_33 : Bool), v87 = .bool x87_33 ∧ Aside0 (tabardlaw7_DecimalNears.j2 kq a1 x87_33 a0_0 a0_1 a0_2 t104 t105 t106 t109 t110 t111 = some r) ∧ Aside0 (kq ≤ kj15) ∧ Aside0 (wc.heap[gb101]? = some (.cells #[.bool a0_0, .string a0_1, .int .i64 a0_2] 23 (0, 0))) ∧ Aside0 (wc.heap[gb108]? = some (.cells #[.bool t104, .string t105, .int .i64 t106] 23 (0, 0))) ∧ Aside0 (wc.heap[gb113]? = some (.cells #[.bool t109, .string t110, .int .i64 t111] 23 (0, 0))) ∧ Aside0 (Below w.heap.size w wc))
              case first =>
                have H := HC34.out
                clear HC34
                replace H := Option.bind_eq_some_iff.mp H
                obtain ⟨t114, A350, H⟩ := H
                replace H : (if t114 > 0 then (tabardlaw7_DecimalNears.j2 kj15 a1 true a0_0 a0_1 a0_2 t104 t105 t106 t109 t110 t111) else ((decimal_Cmp.f kj15 a0_0 a0_1 a0_2 t109 t110 t111).bind fun t115 => (if t115 > 0 then (tabardlaw7_DecimalNears.j2 kj15 a1 true a0_0 a0_1 a0_2 t104 t105 t106 t109 t110 t111) else (if (t104 != a0_0) = true then (tabardlaw7_DecimalNears.j2 kj15 a1 true a0_0 a0_1 a0_2 t104 t105 t106 t109 t110 t111) else (tabardlaw7_DecimalNears.j2 kj15 a1 (t109 != a0_0) a0_0 a0_1 a0_2 t104 t105 t106 t109 t110 t111))))) = some r := H
                have A35 := Aside0.mk A350
                clear A350
                by_cases c36 : t114 > 0
                · rw [if_pos c36] at H
                  have c36b0 : decide (0 < t114) = true := decide_eq_true c36
                  clear c36
                  (first | rw [c36b0] | (simp only [i64_w, i32_w]; rw [c36b0]) | skip)
                  have H' := Aside0.mk H
                  clear H
                  have hnb37 := NB108_101.out
                  have hnc37 := NB101_108.out
                  have hnb38 := NB108_113.out
                  have hnc38 := NB113_108.out
                  have hcz39_0 : wc.cell? ⟨gb108, 0, none⟩ = some (.bool t104) := (blk_cell BK108.out 0).trans rfl
                  have hcz39_1 : wc.cell? ⟨gb108, 1, none⟩ = some (.string t105) := (blk_cell BK108.out 1).trans rfl
                  have hcz39_2 : wc.cell? ⟨gb108, 2, none⟩ = some (.int .i64 t106) := (blk_cell BK108.out 2).trans rfl
                  have hfz39_0 := blk_frozen BK108.out 0
                  have hfz39_1 := blk_frozen BK108.out 1
                  have hfz39_2 := blk_frozen BK108.out 2
                  have hnb40 := NB101_113.out
                  have hnc40 := NB113_101.out
                  have hcz41_0 : wc.cell? ⟨gb101, 0, none⟩ = some (.bool a0_0) := (blk_cell BK101.out 0).trans rfl
                  have hcz41_1 : wc.cell? ⟨gb101, 1, none⟩ = some (.string a0_1) := (blk_cell BK101.out 1).trans rfl
                  have hcz41_2 : wc.cell? ⟨gb101, 2, none⟩ = some (.int .i64 a0_2) := (blk_cell BK101.out 2).trans rfl
                  have hfz41_0 := blk_frozen BK101.out 0
                  have hfz41_1 := blk_frozen BK101.out 1
                  have hfz41_2 := blk_frozen BK101.out 2
                  go_wp2_with (first | ((with_reducible refine gate_callee (f := 18) rfl ?_); refine goesL_ (some 66) rfl rfl Tryd.func18 (by kernel_rfl) rfl #[.agg #[.bool t104, .string t105, .int .i64 t106], .agg #[.bool a0_0, .string a0_1, .int .i64 a0_2]] rfl (by (try simp only [List.map_toArray, List.map_cons, List.map_nil]); first | done | rfl | (simp only [List.length_drop, List.length_take]; rfl)) ?_; (with_reducible refine (decimal_Cmp.calls kj15 t104 t105 t106 a0_0 a0_1 a0_2 t114 _ A35.out).mono ?_); rintro e w42 ⟨rfl, hb⟩; refine ⟨_, rfl, ?_⟩; have n0_ := Aside0.mk (blk_below (g := gb101) (o := .cells #[.bool a0_0, .string a0_1, .int .i64 a0_2] 23 (0, 0)) (by (with_reducible repeat (first | refine blk_drewN ?_ _ | refine blk_drew ?_ | refine blk_alloc ?_ _)); exact BK101.out) hb); have n1_ := Aside0.mk (blk_below (g := gb108) (o := .cells #[.bool t104, .string t105, .int .i64 t106] 23 (0, 0)) (by (with_reducible repeat (first | refine blk_drewN ?_ _ | refine blk_drew ?_ | refine blk_alloc ?_ _)); exact BK108.out) hb); have n2_ := Aside0.mk (blk_below (g := gb113) (o := .cells #[.bool t109, .string t110, .int .i64 t111] 23 (0, 0)) (by (with_reducible repeat (first | refine blk_drewN ?_ _ | refine blk_drew ?_ | refine blk_alloc ?_ _)); exact BK113.out) hb); have n3_ := Aside0.mk (below_step (by repeat (first | (with_reducible first | exact HB.out | apply below_alloc | apply pw_below_drewN | apply below_drew1 | refine below_set ?_ GE101.out | refine below_set ?_ GE108.out | refine below_set ?_ GE113.out) | exact HB.out)) hb); clear BK101; clear BK108; clear BK113; clear HB; have BK101 := n0_; have BK108 := n1_; have BK113 := n2_; have HB := n3_; clear n0_ n1_ n2_ n3_; (try clear hb); (try clear hb2); (try clear hk); (try clear hi)))
                  go_meet
                  case rel => exact ⟨_, (true), (by first | rfl | (simp; done) | (simp [*]; done)), H', ⟨by have := HJ4.out; have := HJ15.out; first | omega | exact Nat.le_refl _⟩, ⟨by (with_reducible repeat (first | refine blk_drewN ?_ _ | refine blk_drew ?_ | refine blk_alloc ?_ _)); exact BK101.out⟩, ⟨by (with_reducible repeat (first | refine blk_drewN ?_ _ | refine blk_drew ?_ | refine blk_alloc ?_ _)); exact BK108.out⟩, ⟨by (with_reducible repeat (first | refine blk_drewN ?_ _ | refine blk_drew ?_ | refine blk_alloc ?_ _)); exact BK113.out⟩, ⟨by repeat (first | (with_reducible first | exact HB.out | apply below_alloc | apply pw_below_drewN | apply below_drew1 | refine below_set ?_ GE101.out | refine below_set ?_ GE108.out | refine below_set ?_ GE113.out) | exact HB.out)⟩⟩
                · rw [if_neg c36] at H
                  have c36b0 : decide (0 < t114) = false := decide_eq_false c36
                  clear c36
                  (first | rw [c36b0] | (simp only [i64_w, i32_w]; rw [c36b0]) | skip)
                  replace H := Option.bind_eq_some_iff.mp H
                  obtain ⟨t115, A430, H⟩ := H
                  replace H : (if t115 > 0 then (tabardlaw7_DecimalNears.j2 kj15 a1 true a0_0 a0_1 a0_2 t104 t105 t106 t109 t110 t111) else (if (t104 != a0_0) = true then (tabardlaw7_DecimalNears.j2 kj15 a1 true a0_0 a0_1 a0_2 t104 t105 t106 t109 t110 t111) else (tabardlaw7_DecimalNears.j2 kj15 a1 (t109 != a0_0) a0_0 a0_1 a0_2 t104 t105 t106 t109 t110 t111))) = some r := H
                  have A43 := Aside0.mk A430
                  clear A430
                  by_cases c44 : t115 > 0
                  · rw [if_pos c44] at H
                    have c44b0 : decide (0 < t115) = true := decide_eq_true c44
                    clear c44
                    have H' := Aside0.mk H
                    clear H
                    have hnb45 := NB108_101.out
                    have hnc45 := NB101_108.out
                    have hnb46 := NB108_113.out
                    have hnc46 := NB113_108.out
                    have hcz47_0 : wc.cell? ⟨gb108, 0, none⟩ = some (.bool t104) := (blk_cell BK108.out 0).trans rfl
                    have hcz47_1 : wc.cell? ⟨gb108, 1, none⟩ = some (.string t105) := (blk_cell BK108.out 1).trans rfl
                    have hcz47_2 : wc.cell? ⟨gb108, 2, none⟩ = some (.int .i64 t106) := (blk_cell BK108.out 2).trans rfl
                    have hfz47_0 := blk_frozen BK108.out 0
                    have hfz47_1 := blk_frozen BK108.out 1
                    have hfz47_2 := blk_frozen BK108.out 2
                    have hnb48 := NB101_113.out
                    have hnc48 := NB113_101.out
                    have hcz49_0 : wc.cell? ⟨gb101, 0, none⟩ = some (.bool a0_0) := (blk_cell BK101.out 0).trans rfl
                    have hcz49_1 : wc.cell? ⟨gb101, 1, none⟩ = some (.string a0_1) := (blk_cell BK101.out 1).trans rfl
                    have hcz49_2 : wc.cell? ⟨gb101, 2, none⟩ = some (.int .i64 a0_2) := (blk_cell BK101.out 2).trans rfl
                    have hfz49_0 := blk_frozen BK101.out 0
                    have hfz49_1 := blk_frozen BK101.out 1
                    have hfz49_2 := blk_frozen BK101.out 2
                    go_wp2_with (first | ((with_reducible refine gate_callee (f := 18) rfl ?_); refine goesL_ (some 66) rfl rfl Tryd.func18 (by kernel_rfl) rfl #[.agg #[.bool t104, .string t105, .int .i64 t106], .agg #[.bool a0_0, .string a0_1, .int .i64 a0_2]] rfl (by (try simp only [List.map_toArray, List.map_cons, List.map_nil]); first | done | rfl | (simp only [List.length_drop, List.length_take]; rfl)) ?_; (with_reducible refine (decimal_Cmp.calls kj15 t104 t105 t106 a0_0 a0_1 a0_2 t114 _ A35.out).mono ?_); rintro e w50 ⟨rfl, hb⟩; refine ⟨_, rfl, ?_⟩; have n0_ := Aside0.mk (blk_below (g := gb101) (o := .cells #[.bool a0_0, .string a0_1, .int .i64 a0_2] 23 (0, 0)) (by (with_reducible repeat (first | refine blk_drewN ?_ _ | refine blk_drew ?_ | refine blk_alloc ?_ _)); exact BK101.out) hb); have n1_ := Aside0.mk (blk_below (g := gb108) (o := .cells #[.bool t104, .string t105, .int .i64 t106] 23 (0, 0)) (by (with_reducible repeat (first | refine blk_drewN ?_ _ | refine blk_drew ?_ | refine blk_alloc ?_ _)); exact BK108.out) hb); have n2_ := Aside0.mk (blk_below (g := gb113) (o := .cells #[.bool t109, .string t110, .int .i64 t111] 23 (0, 0)) (by (with_reducible repeat (first | refine blk_drewN ?_ _ | refine blk_drew ?_ | refine blk_alloc ?_ _)); exact BK113.out) hb); have n3_ := Aside0.mk (below_step (by repeat (first | (with_reducible first | exact HB.out | apply below_alloc | apply pw_below_drewN | apply below_drew1 | refine below_set ?_ GE101.out | refine below_set ?_ GE108.out | refine below_set ?_ GE113.out) | exact HB.out)) hb); clear BK101; clear BK108; clear BK113; clear HB; have BK101 := n0_; have BK108 := n1_; have BK113 := n2_; have HB := n3_; clear n0_ n1_ n2_ n3_; (try clear hb); (try clear hb2); (try clear hk); (try clear hi); have hcz51_0 : w50.cell? ⟨gb101, 0, none⟩ = some (.bool a0_0) := (blk_cell BK101.out 0).trans rfl; have hcz51_1 : w50.cell? ⟨gb101, 1, none⟩ = some (.string a0_1) := (blk_cell BK101.out 1).trans rfl; have hcz51_2 : w50.cell? ⟨gb101, 2, none⟩ = some (.int .i64 a0_2) := (blk_cell BK101.out 2).trans rfl; have hfz51_0 := blk_frozen BK101.out 0; have hfz51_1 := blk_frozen BK101.out 1; have hfz51_2 := blk_frozen BK101.out 2; have hcz52_0 : w50.cell? ⟨gb113, 0, none⟩ = some (.bool t109) := (blk_cell BK113.out 0).trans rfl; have hcz52_1 : w50.cell? ⟨gb113, 1, none⟩ = some (.string t110) := (blk_cell BK113.out 1).trans rfl; have hcz52_2 : w50.cell? ⟨gb113, 2, none⟩ = some (.int .i64 t111) := (blk_cell BK113.out 2).trans rfl; have hfz52_0 := blk_frozen BK113.out 0; have hfz52_1 := blk_frozen BK113.out 1; have hfz52_2 := blk_frozen BK113.out 2) | (go_at_call 18; (with_reducible refine (decimal_Cmp.calls kj15 a0_0 a0_1 a0_2 t109 t110 t111 t115 _ A43.out).mono ?_); rintro e w53 ⟨rfl, hb⟩; have n0_ := Aside0.mk (blk_below (g := gb101) (o := .cells #[.bool a0_0, .string a0_1, .int .i64 a0_2] 23 (0, 0)) (by (with_reducible repeat (first | refine blk_drewN ?_ _ | refine blk_drew ?_ | refine blk_alloc ?_ _)); exact BK101.out) hb); have n1_ := Aside0.mk (blk_below (g := gb108) (o := .cells #[.bool t104, .string t105, .int .i64 t106] 23 (0, 0)) (by (with_reducible repeat (first | refine blk_drewN ?_ _ | refine blk_drew ?_ | refine blk_alloc ?_ _)); exact BK108.out) hb); have n2_ := Aside0.mk (blk_below (g := gb113) (o := .cells #[.bool t109, .string t110, .int .i64 t111] 23 (0, 0)) (by (with_reducible repeat (first | refine blk_drewN ?_ _ | refine blk_drew ?_ | refine blk_alloc ?_ _)); exact BK113.out) hb); have n3_ := Aside0.mk (below_step (by repeat (first | (with_reducible first | exact HB.out | apply below_alloc | apply pw_below_drewN | apply below_drew1 | refine below_set ?_ GE101.out | refine below_set ?_ GE108.out | refine below_set ?_ GE113.out) | exact HB.out)) hb); clear BK101; clear BK108; clear BK113; clear HB; have BK101 := n0_; have BK108 := n1_; have BK113 := n2_; have HB := n3_; clear n0_ n1_ n2_ n3_; (try clear hb); (try clear hb2); (try clear hk); (try clear hi)))
                    go_meet
                    case rel => exact ⟨_, (true), (by first | rfl | (simp; done) | (simp [*]; done)), H', ⟨by have := HJ4.out; have := HJ15.out; first | omega | exact Nat.le_refl _⟩, ⟨by (with_reducible repeat (first | refine blk_drewN ?_ _ | refine blk_drew ?_ | refine blk_alloc ?_ _)); exact BK101.out⟩, ⟨by (with_reducible repeat (first | refine blk_drewN ?_ _ | refine blk_drew ?_ | refine blk_alloc ?_ _)); exact BK108.out⟩, ⟨by (with_reducible repeat (first | refine blk_drewN ?_ _ | refine blk_drew ?_ | refine blk_alloc ?_ _)); exact BK113.out⟩, ⟨by repeat (first | (with_reducible first | exact HB.out | apply below_alloc | apply pw_below_drewN | apply below_drew1 | refine below_set ?_ GE101.out | refine below_set ?_ GE108.out | refine below_set ?_ GE113.out) | exact HB.out)⟩⟩
                  · rw [if_neg c44] at H
                    have c44b0 : decide (0 < t115) = false := decide_eq_false c44
                    clear c44
                    by_cases c54 : (t104 != a0_0) = true
                    · rw [if_pos c54] at H
                      have c54b0 : (t104 != a0_0) = true := c54
                      (try (have c54b1 : decide (t104 = a0_0) = false := by simpa using c54))
                      (try (have c54b2 : (t104 == a0_0) = false := by simpa using c54))
                      (try (have c54b3 : ¬ (t104 = a0_0) := by simpa using c54))
                      clear c54
                      have H' := Aside0.mk H
                      clear H
                      have hnb55 := NB108_101.out
                      have hnc55 := NB101_108.out
                      have hnb56 := NB108_113.out
                      have hnc56 := NB113_108.out
                      have hcz57_0 : wc.cell? ⟨gb108, 0, none⟩ = some (.bool t104) := (blk_cell BK108.out 0).trans rfl
                      have hcz57_1 : wc.cell? ⟨gb108, 1, none⟩ = some (.string t105) := (blk_cell BK108.out 1).trans rfl
                      have hcz57_2 : wc.cell? ⟨gb108, 2, none⟩ = some (.int .i64 t106) := (blk_cell BK108.out 2).trans rfl
                      have hfz57_0 := blk_frozen BK108.out 0
                      have hfz57_1 := blk_frozen BK108.out 1
                      have hfz57_2 := blk_frozen BK108.out 2
                      have hnb58 := NB101_113.out
                      have hnc58 := NB113_101.out
                      have hcz59_0 : wc.cell? ⟨gb101, 0, none⟩ = some (.bool a0_0) := (blk_cell BK101.out 0).trans rfl
                      have hcz59_1 : wc.cell? ⟨gb101, 1, none⟩ = some (.string a0_1) := (blk_cell BK101.out 1).trans rfl
                      have hcz59_2 : wc.cell? ⟨gb101, 2, none⟩ = some (.int .i64 a0_2) := (blk_cell BK101.out 2).trans rfl
                      have hfz59_0 := blk_frozen BK101.out 0
                      have hfz59_1 := blk_frozen BK101.out 1
                      have hfz59_2 := blk_frozen BK101.out 2
                      go_wp2_with (first | ((with_reducible refine gate_callee (f := 18) rfl ?_); refine goesL_ (some 66) rfl rfl Tryd.func18 (by kernel_rfl) rfl #[.agg #[.bool t104, .string t105, .int .i64 t106], .agg #[.bool a0_0, .string a0_1, .int .i64 a0_2]] rfl (by (try simp only [List.map_toArray, List.map_cons, List.map_nil]); first | done | rfl | (simp only [List.length_drop, List.length_take]; rfl)) ?_; (with_reducible refine (decimal_Cmp.calls kj15 t104 t105 t106 a0_0 a0_1 a0_2 t114 _ A35.out).mono ?_); rintro e w60 ⟨rfl, hb⟩; refine ⟨_, rfl, ?_⟩; have n0_ := Aside0.mk (blk_below (g := gb101) (o := .cells #[.bool a0_0, .string a0_1, .int .i64 a0_2] 23 (0, 0)) (by (with_reducible repeat (first | refine blk_drewN ?_ _ | refine blk_drew ?_ | refine blk_alloc ?_ _)); exact BK101.out) hb); have n1_ := Aside0.mk (blk_below (g := gb108) (o := .cells #[.bool t104, .string t105, .int .i64 t106] 23 (0, 0)) (by (with_reducible repeat (first | refine blk_drewN ?_ _ | refine blk_drew ?_ | refine blk_alloc ?_ _)); exact BK108.out) hb); have n2_ := Aside0.mk (blk_below (g := gb113) (o := .cells #[.bool t109, .string t110, .int .i64 t111] 23 (0, 0)) (by (with_reducible repeat (first | refine blk_drewN ?_ _ | refine blk_drew ?_ | refine blk_alloc ?_ _)); exact BK113.out) hb); have n3_ := Aside0.mk (below_step (by repeat (first | (with_reducible first | exact HB.out | apply below_alloc | apply pw_below_drewN | apply below_drew1 | refine below_set ?_ GE101.out | refine below_set ?_ GE108.out | refine below_set ?_ GE113.out) | exact HB.out)) hb); clear BK101; clear BK108; clear BK113; clear HB; have BK101 := n0_; have BK108 := n1_; have BK113 := n2_; have HB := n3_; clear n0_ n1_ n2_ n3_; (try clear hb); (try clear hb2); (try clear hk); (try clear hi); have hcz61_0 : w60.cell? ⟨gb101, 0, none⟩ = some (.bool a0_0) := (blk_cell BK101.out 0).trans rfl; have hcz61_1 : w60.cell? ⟨gb101, 1, none⟩ = some (.string a0_1) := (blk_cell BK101.out 1).trans rfl; have hcz61_2 : w60.cell? ⟨gb101, 2, none⟩ = some (.int .i64 a0_2) := (blk_cell BK101.out 2).trans rfl; have hfz61_0 := blk_frozen BK101.out 0; have hfz61_1 := blk_frozen BK101.out 1; have hfz61_2 := blk_frozen BK101.out 2; have hcz62_0 : w60.cell? ⟨gb113, 0, none⟩ = some (.bool t109) := (blk_cell BK113.out 0).trans rfl; have hcz62_1 : w60.cell? ⟨gb113, 1, none⟩ = some (.string t110) := (blk_cell BK113.out 1).trans rfl; have hcz62_2 : w60.cell? ⟨gb113, 2, none⟩ = some (.int .i64 t111) := (blk_cell BK113.out 2).trans rfl; have hfz62_0 := blk_frozen BK113.out 0; have hfz62_1 := blk_frozen BK113.out 1; have hfz62_2 := blk_frozen BK113.out 2) | (go_at_call 18; (with_reducible refine (decimal_Cmp.calls kj15 a0_0 a0_1 a0_2 t109 t110 t111 t115 _ A43.out).mono ?_); rintro e w63 ⟨rfl, hb⟩; have n0_ := Aside0.mk (blk_below (g := gb101) (o := .cells #[.bool a0_0, .string a0_1, .int .i64 a0_2] 23 (0, 0)) (by (with_reducible repeat (first | refine blk_drewN ?_ _ | refine blk_drew ?_ | refine blk_alloc ?_ _)); exact BK101.out) hb); have n1_ := Aside0.mk (blk_below (g := gb108) (o := .cells #[.bool t104, .string t105, .int .i64 t106] 23 (0, 0)) (by (with_reducible repeat (first | refine blk_drewN ?_ _ | refine blk_drew ?_ | refine blk_alloc ?_ _)); exact BK108.out) hb); have n2_ := Aside0.mk (blk_below (g := gb113) (o := .cells #[.bool t109, .string t110, .int .i64 t111] 23 (0, 0)) (by (with_reducible repeat (first | refine blk_drewN ?_ _ | refine blk_drew ?_ | refine blk_alloc ?_ _)); exact BK113.out) hb); have n3_ := Aside0.mk (below_step (by repeat (first | (with_reducible first | exact HB.out | apply below_alloc | apply pw_below_drewN | apply below_drew1 | refine below_set ?_ GE101.out | refine below_set ?_ GE108.out | refine below_set ?_ GE113.out) | exact HB.out)) hb); clear BK101; clear BK108; clear BK113; clear HB; have BK101 := n0_; have BK108 := n1_; have BK113 := n2_; have HB := n3_; clear n0_ n1_ n2_ n3_; (try clear hb); (try clear hb2); (try clear hk); (try clear hi); have hcz64_0 : w63.cell? ⟨gb108, 0, none⟩ = some (.bool t104) := (blk_cell BK108.out 0).trans rfl; have hcz64_1 : w63.cell? ⟨gb108, 1, none⟩ = some (.string t105) := (blk_cell BK108.out 1).trans rfl; have hcz64_2 : w63.cell? ⟨gb108, 2, none⟩ = some (.int .i64 t106) := (blk_cell BK108.out 2).trans rfl; have hfz64_0 := blk_frozen BK108.out 0; have hfz64_1 := blk_frozen BK108.out 1; have hfz64_2 := blk_frozen BK108.out 2; have hcz65_0 : w63.cell? ⟨gb101, 0, none⟩ = some (.bool a0_0) := (blk_cell BK101.out 0).trans rfl; have hcz65_1 : w63.cell? ⟨gb101, 1, none⟩ = some (.string a0_1) := (blk_cell BK101.out 1).trans rfl; have hcz65_2 : w63.cell? ⟨gb101, 2, none⟩ = some (.int .i64 a0_2) := (blk_cell BK101.out 2).trans rfl; have hfz65_0 := blk_frozen BK101.out 0; have hfz65_1 := blk_frozen BK101.out 1; have hfz65_2 := blk_frozen BK101.out 2))
                      go_meet
                      case rel => exact ⟨_, (true), (by first | rfl | (simp; done) | (simp [*]; done)), H', ⟨by have := HJ4.out; have := HJ15.out; first | omega | exact Nat.le_refl _⟩, ⟨by (with_reducible repeat (first | refine blk_drewN ?_ _ | refine blk_drew ?_ | refine blk_alloc ?_ _)); exact BK101.out⟩, ⟨by (with_reducible repeat (first | refine blk_drewN ?_ _ | refine blk_drew ?_ | refine blk_alloc ?_ _)); exact BK108.out⟩, ⟨by (with_reducible repeat (first | refine blk_drewN ?_ _ | refine blk_drew ?_ | refine blk_alloc ?_ _)); exact BK113.out⟩, ⟨by repeat (first | (with_reducible first | exact HB.out | apply below_alloc | apply pw_below_drewN | apply below_drew1 | refine below_set ?_ GE101.out | refine below_set ?_ GE108.out | refine below_set ?_ GE113.out) | exact HB.out)⟩⟩
                    · rw [if_neg c54] at H
                      have c54b0 : (t104 != a0_0) = false := by simpa using c54
                      (try (have c54b1 : decide (t104 = a0_0) = true := by simpa using c54))
                      (try (have c54b2 : (t104 == a0_0) = true := by simpa using c54))
                      clear c54
                      have H' := Aside0.mk H
                      clear H
                      have hnb66 := NB108_101.out
                      have hnc66 := NB101_108.out
                      have hnb67 := NB108_113.out
                      have hnc67 := NB113_108.out
                      have hcz68_0 : wc.cell? ⟨gb108, 0, none⟩ = some (.bool t104) := (blk_cell BK108.out 0).trans rfl
                      have hcz68_1 : wc.cell? ⟨gb108, 1, none⟩ = some (.string t105) := (blk_cell BK108.out 1).trans rfl
                      have hcz68_2 : wc.cell? ⟨gb108, 2, none⟩ = some (.int .i64 t106) := (blk_cell BK108.out 2).trans rfl
                      have hfz68_0 := blk_frozen BK108.out 0
                      have hfz68_1 := blk_frozen BK108.out 1
                      have hfz68_2 := blk_frozen BK108.out 2
                      have hnb69 := NB101_113.out
                      have hnc69 := NB113_101.out
                      have hcz70_0 : wc.cell? ⟨gb101, 0, none⟩ = some (.bool a0_0) := (blk_cell BK101.out 0).trans rfl
                      have hcz70_1 : wc.cell? ⟨gb101, 1, none⟩ = some (.string a0_1) := (blk_cell BK101.out 1).trans rfl
                      have hcz70_2 : wc.cell? ⟨gb101, 2, none⟩ = some (.int .i64 a0_2) := (blk_cell BK101.out 2).trans rfl
                      have hfz70_0 := blk_frozen BK101.out 0
                      have hfz70_1 := blk_frozen BK101.out 1
                      have hfz70_2 := blk_frozen BK101.out 2
                      go_wp2_with (first | ((with_reducible refine gate_callee (f := 18) rfl ?_); refine goesL_ (some 66) rfl rfl Tryd.func18 (by kernel_rfl) rfl #[.agg #[.bool t104, .string t105, .int .i64 t106], .agg #[.bool a0_0, .string a0_1, .int .i64 a0_2]] rfl (by (try simp only [List.map_toArray, List.map_cons, List.map_nil]); first | done | rfl | (simp only [List.length_drop, List.length_take]; rfl)) ?_; (with_reducible refine (decimal_Cmp.calls kj15 t104 t105 t106 a0_0 a0_1 a0_2 t114 _ A35.out).mono ?_); rintro e w71 ⟨rfl, hb⟩; refine ⟨_, rfl, ?_⟩; have n0_ := Aside0.mk (blk_below (g := gb101) (o := .cells #[.bool a0_0, .string a0_1, .int .i64 a0_2] 23 (0, 0)) (by (with_reducible repeat (first | refine blk_drewN ?_ _ | refine blk_drew ?_ | refine blk_alloc ?_ _)); exact BK101.out) hb); have n1_ := Aside0.mk (blk_below (g := gb108) (o := .cells #[.bool t104, .string t105, .int .i64 t106] 23 (0, 0)) (by (with_reducible repeat (first | refine blk_drewN ?_ _ | refine blk_drew ?_ | refine blk_alloc ?_ _)); exact BK108.out) hb); have n2_ := Aside0.mk (blk_below (g := gb113) (o := .cells #[.bool t109, .string t110, .int .i64 t111] 23 (0, 0)) (by (with_reducible repeat (first | refine blk_drewN ?_ _ | refine blk_drew ?_ | refine blk_alloc ?_ _)); exact BK113.out) hb); have n3_ := Aside0.mk (below_step (by repeat (first | (with_reducible first | exact HB.out | apply below_alloc | apply pw_below_drewN | apply below_drew1 | refine below_set ?_ GE101.out | refine below_set ?_ GE108.out | refine below_set ?_ GE113.out) | exact HB.out)) hb); clear BK101; clear BK108; clear BK113; clear HB; have BK101 := n0_; have BK108 := n1_; have BK113 := n2_; have HB := n3_; clear n0_ n1_ n2_ n3_; (try clear hb); (try clear hb2); (try clear hk); (try clear hi); have hcz72_0 : w71.cell? ⟨gb101, 0, none⟩ = some (.bool a0_0) := (blk_cell BK101.out 0).trans rfl; have hcz72_1 : w71.cell? ⟨gb101, 1, none⟩ = some (.string a0_1) := (blk_cell BK101.out 1).trans rfl; have hcz72_2 : w71.cell? ⟨gb101, 2, none⟩ = some (.int .i64 a0_2) := (blk_cell BK101.out 2).trans rfl; have hfz72_0 := blk_frozen BK101.out 0; have hfz72_1 := blk_frozen BK101.out 1; have hfz72_2 := blk_frozen BK101.out 2; have hcz73_0 : w71.cell? ⟨gb113, 0, none⟩ = some (.bool t109) := (blk_cell BK113.out 0).trans rfl; have hcz73_1 : w71.cell? ⟨gb113, 1, none⟩ = some (.string t110) := (blk_cell BK113.out 1).trans rfl; have hcz73_2 : w71.cell? ⟨gb113, 2, none⟩ = some (.int .i64 t111) := (blk_cell BK113.out 2).trans rfl; have hfz73_0 := blk_frozen BK113.out 0; have hfz73_1 := blk_frozen BK113.out 1; have hfz73_2 := blk_frozen BK113.out 2) | (go_at_call 18; (with_reducible refine (decimal_Cmp.calls kj15 a0_0 a0_1 a0_2 t109 t110 t111 t115 _ A43.out).mono ?_); rintro e w74 ⟨rfl, hb⟩; have n0_ := Aside0.mk (blk_below (g := gb101) (o := .cells #[.bool a0_0, .string a0_1, .int .i64 a0_2] 23 (0, 0)) (by (with_reducible repeat (first | refine blk_drewN ?_ _ | refine blk_drew ?_ | refine blk_alloc ?_ _)); exact BK101.out) hb); have n1_ := Aside0.mk (blk_below (g := gb108) (o := .cells #[.bool t104, .string t105, .int .i64 t106] 23 (0, 0)) (by (with_reducible repeat (first | refine blk_drewN ?_ _ | refine blk_drew ?_ | refine blk_alloc ?_ _)); exact BK108.out) hb); have n2_ := Aside0.mk (blk_below (g := gb113) (o := .cells #[.bool t109, .string t110, .int .i64 t111] 23 (0, 0)) (by (with_reducible repeat (first | refine blk_drewN ?_ _ | refine blk_drew ?_ | refine blk_alloc ?_ _)); exact BK113.out) hb); have n3_ := Aside0.mk (below_step (by repeat (first | (with_reducible first | exact HB.out | apply below_alloc | apply pw_below_drewN | apply below_drew1 | refine below_set ?_ GE101.out | refine below_set ?_ GE108.out | refine below_set ?_ GE113.out) | exact HB.out)) hb); clear BK101; clear BK108; clear BK113; clear HB; have BK101 := n0_; have BK108 := n1_; have BK113 := n2_; have HB := n3_; clear n0_ n1_ n2_ n3_; (try clear hb); (try clear hb2); (try clear hk); (try clear hi); have hcz75_0 : w74.cell? ⟨gb108, 0, none⟩ = some (.bool t104) := (blk_cell BK108.out 0).trans rfl; have hcz75_1 : w74.cell? ⟨gb108, 1, none⟩ = some (.string t105) := (blk_cell BK108.out 1).trans rfl; have hcz75_2 : w74.cell? ⟨gb108, 2, none⟩ = some (.int .i64 t106) := (blk_cell BK108.out 2).trans rfl; have hfz75_0 := blk_frozen BK108.out 0; have hfz75_1 := blk_frozen BK108.out 1; have hfz75_2 := blk_frozen BK108.out 2; have hcz76_0 : w74.cell? ⟨gb101, 0, none⟩ = some (.bool a0_0) := (blk_cell BK101.out 0).trans rfl; have hcz76_1 : w74.cell? ⟨gb101, 1, none⟩ = some (.string a0_1) := (blk_cell BK101.out 1).trans rfl; have hcz76_2 : w74.cell? ⟨gb101, 2, none⟩ = some (.int .i64 a0_2) := (blk_cell BK101.out 2).trans rfl; have hfz76_0 := blk_frozen BK101.out 0; have hfz76_1 := blk_frozen BK101.out 1; have hfz76_2 := blk_frozen BK101.out 2; have hcz77_0 : w74.cell? ⟨gb113, 0, none⟩ = some (.bool t109) := (blk_cell BK113.out 0).trans rfl; have hcz77_1 : w74.cell? ⟨gb113, 1, none⟩ = some (.string t110) := (blk_cell BK113.out 1).trans rfl; have hcz77_2 : w74.cell? ⟨gb113, 2, none⟩ = some (.int .i64 t111) := (blk_cell BK113.out 2).trans rfl; have hfz77_0 := blk_frozen BK113.out 0; have hfz77_1 := blk_frozen BK113.out 1; have hfz77_2 := blk_frozen BK113.out 2))
                      go_meet
                      case rel => exact ⟨_, ((t109 != a0_0)), (by first | rfl | (simp; done) | (simp [*]; done)), H', ⟨by have := HJ4.out; have := HJ15.out; first | omega | exact Nat.le_refl _⟩, ⟨by (with_reducible repeat (first | refine blk_drewN ?_ _ | refine blk_drew ?_ | refine blk_alloc ?_ _)); exact BK101.out⟩, ⟨by (with_reducible repeat (first | refine blk_drewN ?_ _ | refine blk_drew ?_ | refine blk_alloc ?_ _)); exact BK108.out⟩, ⟨by (with_reducible repeat (first | refine blk_drewN ?_ _ | refine blk_drew ?_ | refine blk_alloc ?_ _)); exact BK113.out⟩, ⟨by repeat (first | (with_reducible first | exact HB.out | apply below_alloc | apply pw_below_drewN | apply below_drew1 | refine below_set ?_ GE101.out | refine below_set ?_ GE108.out | refine below_set ?_ GE113.out) | exact HB.out)⟩⟩
              case rest =>
                clear HC34
                try clear c1
                try clear c2
                try clear p2
                try clear c3
                try clear c4
                try clear c5
                try clear c6
                try clear c7
                try clear c8
                try clear c10
                try clear c11
                try clear c12
                try clear c12b0
                try clear c13
                try clear c17
                try clear c18
                try clear c20
                try clear c25
                try clear c26
                try clear c28
                try clear c28b0
                try clear c28b1
                try clear c29
                try clear c30
                try clear c30b0
                try clear c30b1
                try clear c31
                try clear c32
                try clear c36
                try clear c36b0
                try clear c37
                try clear c38
                try clear c40
                try clear c44
                try clear c44b0
                try clear c45
                try clear c46
                try clear c48
                try clear c54
                try clear c54b0
                try clear c54b1
                try clear c54b2
                try clear c55
                try clear c56
                try clear c58
                try clear c66
                try clear c67
                try clear c69
                try clear hcz17_0
                try clear hcz17_1
                try clear hcz17_2
                try clear hcz21_0
                try clear hcz21_1
                try clear hcz21_2
                try clear hcz22_0
                try clear hcz22_1
                try clear hcz22_2
                try clear hcz27_0
                try clear hcz27_1
                try clear hcz27_2
                try clear hcz33_0
                try clear hcz33_1
                try clear hcz33_2
                try clear hcz39_0
                try clear hcz39_1
                try clear hcz39_2
                try clear hcz41_0
                try clear hcz41_1
                try clear hcz41_2
                try clear hcz47_0
                try clear hcz47_1
                try clear hcz47_2
                try clear hcz49_0
                try clear hcz49_1
                try clear hcz49_2
                try clear hcz51_0
                try clear hcz51_1
                try clear hcz51_2
                try clear hcz52_0
                try clear hcz52_1
                try clear hcz52_2
                try clear hcz57_0
                try clear hcz57_1
                try clear hcz57_2
                try clear hcz59_0
                try clear hcz59_1
                try clear hcz59_2
                try clear hcz61_0
                try clear hcz61_1
                try clear hcz61_2
                try clear hcz62_0
                try clear hcz62_1
                try clear hcz62_2
                try clear hcz64_0
                try clear hcz64_1
                try clear hcz64_2
                try clear hcz65_0
                try clear hcz65_1
                try clear hcz65_2
                try clear hcz68_0
                try clear hcz68_1
                try clear hcz68_2
                try clear hcz70_0
                try clear hcz70_1
                try clear hcz70_2
                try clear hcz72_0
                try clear hcz72_1
                try clear hcz72_2
                try clear hcz73_0
                try clear hcz73_1
                try clear hcz73_2
                try clear hcz75_0
                try clear hcz75_1
                try clear hcz75_2
                try clear hcz76_0
                try clear hcz76_1
                try clear hcz76_2
                try clear hcz77_0
                try clear hcz77_1
                try clear hcz77_2
                try clear hcz8_0
                try clear hcz8_1
                try clear hcz8_2
                try clear hfz17_0
                try clear hfz17_1
                try clear hfz17_2
                try clear hfz21_0
                try clear hfz21_1
                try clear hfz21_2
                try clear hfz22_0
                try clear hfz22_1
                try clear hfz22_2
                try clear hfz27_0
                try clear hfz27_1
                try clear hfz27_2
                try clear hfz33_0
                try clear hfz33_1
                try clear hfz33_2
                try clear hfz39_0
                try clear hfz39_1
                try clear hfz39_2
                try clear hfz41_0
                try clear hfz41_1
                try clear hfz41_2
                try clear hfz47_0
                try clear hfz47_1
                try clear hfz47_2
                try clear hfz49_0
                try clear hfz49_1
                try clear hfz49_2
                try clear hfz51_0
                try clear hfz51_1
                try clear hfz51_2
                try clear hfz52_0
                try clear hfz52_1
                try clear hfz52_2
                try clear hfz57_0
                try clear hfz57_1
                try clear hfz57_2
                try clear hfz59_0
                try clear hfz59_1
                try clear hfz59_2
                try clear hfz61_0
                try clear hfz61_1
                try clear hfz61_2
                try clear hfz62_0
                try clear hfz62_1
                try clear hfz62_2
                try clear hfz64_0
                try clear hfz64_1
                try clear hfz64_2
                try clear hfz65_0
                try clear hfz65_1
                try clear hfz65_2
                try clear hfz68_0
                try clear hfz68_1
                try clear hfz68_2
                try clear hfz70_0
                try clear hfz70_1
                try clear hfz70_2
                try clear hfz72_0
                try clear hfz72_1
                try clear hfz72_2
                try clear hfz73_0
                try clear hfz73_1
                try clear hfz73_2
                try clear hfz75_0
                try clear hfz75_1
                try clear hfz75_2
                try clear hfz76_0
                try clear hfz76_1
                try clear hfz76_2
                try clear hfz77_0
                try clear hfz77_1
                try clear hfz77_2
                try clear hfz8_0
                try clear hfz8_1
                try clear hfz8_2
                try clear p2
                obtain ⟨kq, x87_33, rfl, HA, HJ33, BK101, BK108, BK113, HB⟩ := hcut
                cases kq with
                | zero => exact absurd HA.out (by simp [tabardlaw7_DecimalNears.j2])
                | succ kj33 =>
                  have H := HA.out
                  clear HA
                  simp only [tabardlaw7_DecimalNears.j2] at H
                  by_cases c78 : x87_33 = true
                  · subst c78
                    have H1 : (some false) = some r := by rw [if_pos rfl] at H; exact H
                    clear H
                    have H := H1
                    clear H1
                    obtain rfl := Option.some.inj H
                    go_wp2
                    go_ret
                    exact ⟨by first | rfl | (simp [errW_none, errW_some] <;> rfl) | (simp [*, errW_none, errW_some] <;> rfl), by repeat (first | (with_reducible first | exact HB.out | apply below_alloc | apply pw_below_drewN | apply below_drew1 | refine below_set ?_ GE101.out | refine below_set ?_ GE108.out | refine below_set ?_ GE113.out) | exact HB.out)⟩
                  · replace c78 := Bool.eq_false_iff.mpr c78
                    subst c78
                    have H1 : (tabardlaw7_DecimalNears.l0 kj33 a1 0 a0_0 a0_1 a0_2 t104 t105 t106 t109 t110 t111) = some r := by rw [if_neg (show ¬ (false = true) by decide)] at H; exact H
                    clear H
                    have H := H1
                    clear H1
                    have H' := Aside0.mk H
                    clear H
                    go_wp2
                    go_loopg [11] kj33 (fun kq v11 w' => ∃ (x11_4 : Int), v11 = .int .i64 x11_4 ∧ Aside0 (tabardlaw7_DecimalNears.l0 kq a1 x11_4 a0_0 a0_1 a0_2 t104 t105 t106 t109 t110 t111 = some r) ∧ Aside0 (kq ≤ kj33) ∧ Aside0 (w'.heap[gb101]? = some (.cells #[.bool a0_0, .string a0_1, .int .i64 a0_2] 23 (0, 0))) ∧ Aside0 (w'.heap[gb108]? = some (.cells #[.bool t104, .string t105, .int .i64 t106] 23 (0, 0))) ∧ Aside0 (w'.heap[gb113]? = some (.cells #[.bool t109, .string t110, .int .i64 t111] 23 (0, 0))) ∧ Aside0 (Below w.heap.size w w'))
                    case atStart => exact ⟨(0), (by first | rfl | (simp; done) | (simp [*]; done)), H', ⟨Nat.le_refl _⟩, ⟨by (with_reducible repeat (first | refine blk_drewN ?_ _ | refine blk_drew ?_ | refine blk_alloc ?_ _)); exact BK101.out⟩, ⟨by (with_reducible repeat (first | refine blk_drewN ?_ _ | refine blk_drew ?_ | refine blk_alloc ?_ _)); exact BK108.out⟩, ⟨by (with_reducible repeat (first | refine blk_drewN ?_ _ | refine blk_drew ?_ | refine blk_alloc ?_ _)); exact BK113.out⟩, ⟨by repeat (first | (with_reducible first | exact HB.out | apply below_alloc | apply pw_below_drewN | apply below_drew1 | refine below_set ?_ GE101.out | refine below_set ?_ GE108.out | refine below_set ?_ GE113.out) | exact HB.out)⟩⟩
                    case round =>
                      clear H'
                      try clear c1
                      try clear c2
                      try clear p2
                      try clear c3
                      try clear c4
                      try clear c5
                      try clear c6
                      try clear c7
                      try clear c8
                      try clear c10
                      try clear c11
                      try clear c12
                      try clear c12b0
                      try clear c13
                      try clear c17
                      try clear c18
                      try clear c20
                      try clear c25
                      try clear c26
                      try clear c28
                      try clear c28b0
                      try clear c28b1
                      try clear c29
                      try clear c30
                      try clear c30b0
                      try clear c30b1
                      try clear c31
                      try clear c32
                      try clear c36
                      try clear c36b0
                      try clear c37
                      try clear c38
                      try clear c40
                      try clear c44
                      try clear c44b0
                      try clear c45
                      try clear c46
                      try clear c48
                      try clear c54
                      try clear c54b0
                      try clear c54b1
                      try clear c54b2
                      try clear c55
                      try clear c56
                      try clear c58
                      try clear c66
                      try clear c67
                      try clear c69
                      try clear c78
                      try clear hcz17_0
                      try clear hcz17_1
                      try clear hcz17_2
                      try clear hcz21_0
                      try clear hcz21_1
                      try clear hcz21_2
                      try clear hcz22_0
                      try clear hcz22_1
                      try clear hcz22_2
                      try clear hcz27_0
                      try clear hcz27_1
                      try clear hcz27_2
                      try clear hcz33_0
                      try clear hcz33_1
                      try clear hcz33_2
                      try clear hcz39_0
                      try clear hcz39_1
                      try clear hcz39_2
                      try clear hcz41_0
                      try clear hcz41_1
                      try clear hcz41_2
                      try clear hcz47_0
                      try clear hcz47_1
                      try clear hcz47_2
                      try clear hcz49_0
                      try clear hcz49_1
                      try clear hcz49_2
                      try clear hcz51_0
                      try clear hcz51_1
                      try clear hcz51_2
                      try clear hcz52_0
                      try clear hcz52_1
                      try clear hcz52_2
                      try clear hcz57_0
                      try clear hcz57_1
                      try clear hcz57_2
                      try clear hcz59_0
                      try clear hcz59_1
                      try clear hcz59_2
                      try clear hcz61_0
                      try clear hcz61_1
                      try clear hcz61_2
                      try clear hcz62_0
                      try clear hcz62_1
                      try clear hcz62_2
                      try clear hcz64_0
                      try clear hcz64_1
                      try clear hcz64_2
                      try clear hcz65_0
                      try clear hcz65_1
                      try clear hcz65_2
                      try clear hcz68_0
                      try clear hcz68_1
                      try clear hcz68_2
                      try clear hcz70_0
                      try clear hcz70_1
                      try clear hcz70_2
                      try clear hcz72_0
                      try clear hcz72_1
                      try clear hcz72_2
                      try clear hcz73_0
                      try clear hcz73_1
                      try clear hcz73_2
                      try clear hcz75_0
                      try clear hcz75_1
                      try clear hcz75_2
                      try clear hcz76_0
                      try clear hcz76_1
                      try clear hcz76_2
                      try clear hcz77_0
                      try clear hcz77_1
                      try clear hcz77_2
                      try clear hcz8_0
                      try clear hcz8_1
                      try clear hcz8_2
                      try clear hfz17_0
                      try clear hfz17_1
                      try clear hfz17_2
                      try clear hfz21_0
                      try clear hfz21_1
                      try clear hfz21_2
                      try clear hfz22_0
                      try clear hfz22_1
                      try clear hfz22_2
                      try clear hfz27_0
                      try clear hfz27_1
                      try clear hfz27_2
                      try clear hfz33_0
                      try clear hfz33_1
                      try clear hfz33_2
                      try clear hfz39_0
                      try clear hfz39_1
                      try clear hfz39_2
                      try clear hfz41_0
                      try clear hfz41_1
                      try clear hfz41_2
                      try clear hfz47_0
                      try clear hfz47_1
                      try clear hfz47_2
                      try clear hfz49_0
                      try clear hfz49_1
                      try clear hfz49_2
                      try clear hfz51_0
                      try clear hfz51_1
                      try clear hfz51_2
                      try clear hfz52_0
                      try clear hfz52_1
                      try clear hfz52_2
                      try clear hfz57_0
                      try clear hfz57_1
                      try clear hfz57_2
                      try clear hfz59_0
                      try clear hfz59_1
                      try clear hfz59_2
                      try clear hfz61_0
                      try clear hfz61_1
                      try clear hfz61_2
                      try clear hfz62_0
                      try clear hfz62_1
                      try clear hfz62_2
                      try clear hfz64_0
                      try clear hfz64_1
                      try clear hfz64_2
                      try clear hfz65_0
                      try clear hfz65_1
                      try clear hfz65_2
                      try clear hfz68_0
                      try clear hfz68_1
                      try clear hfz68_2
                      try clear hfz70_0
                      try clear hfz70_1
                      try clear hfz70_2
                      try clear hfz72_0
                      try clear hfz72_1
                      try clear hfz72_2
                      try clear hfz73_0
                      try clear hfz73_1
                      try clear hfz73_2
                      try clear hfz75_0
                      try clear hfz75_1
                      try clear hfz75_2
                      try clear hfz76_0
                      try clear hfz76_1
                      try clear hfz76_2
                      try clear hfz77_0
                      try clear hfz77_1
                      try clear hfz77_2
                      try clear hfz8_0
                      try clear hfz8_1
                      try clear hfz8_2
                      try clear p2
                      obtain ⟨x11_4, rfl, HA, HK4, BK101, BK108, BK113, HB⟩ := hrel
                      cases gk with
                      | zero => exact absurd HA.out (by simp [tabardlaw7_DecimalNears.l0])
                      | succ k4 =>
                        have H := HA.out
                        clear HA
                        simp only [tabardlaw7_DecimalNears.l0] at H
                        by_cases c79 : x11_4 < 6
                        · rw [if_pos c79] at H
                          have c79b0 : decide (x11_4 < 6) = true := decide_eq_true c79
                          clear c79
                          replace H := Option.bind_eq_some_iff.mp H
                          obtain ⟨⟨t116, t117, t118, t119⟩, A800, H⟩ := H
                          replace H : ((decimal_Place.f k4 t116 t117 t118 a1 (wrap64 (5 - x11_4))).bind fun bt121 => ((decimal_Right.f t116 t117 t118).bind fun t126 => (if t119 = 0 then (if bt121.2.2.2 = 0 then (if t126 = true then (if (!(t116 == bt121.1) || (!(t117.toList == bt121.2.1.toList) || (!(t118 == bt121.2.2.1)))) = true then (tabardlaw7_DecimalNears.j4 k4 a1 x11_4 true a0_0 a0_1 a0_2 t104 t105 t106 t109 t110 t111) else (if (!(t116 == t104) || (!(t117.toList == t105.toList) || (!(t118 == t106)))) = true then (if (!(t116 == t109) || (!(t117.toList == t110.toList) || (!(t118 == t111)))) = true then (tabardlaw7_DecimalNears.j4 k4 a1 x11_4 true a0_0 a0_1 a0_2 t104 t105 t106 t109 t110 t111) else (if (t117.size : Int) > 0 then (if t118 < (wrap64 (-a1)) then (tabardlaw7_DecimalNears.j4 k4 a1 x11_4 (!(t116 == a0_0) || (!(t117.toList == a0_1.toList) || (!(t118 == a0_2)))) a0_0 a0_1 a0_2 t104 t105 t106 t109 t110 t111) else (tabardlaw7_DecimalNears.j4 k4 a1 x11_4 false a0_0 a0_1 a0_2 t104 t105 t106 t109 t110 t111)) else (tabardlaw7_DecimalNears.j4 k4 a1 x11_4 false a0_0 a0_1 a0_2 t104 t105 t106 t109 t110 t111))) else (if (t117.size : Int) > 0 then (if t118 < (wrap64 (-a1)) then (tabardlaw7_DecimalNears.j4 k4 a1 x11_4 (!(t116 == a0_0) || (!(t117.toList == a0_1.toList) || (!(t118 == a0_2)))) a0_0 a0_1 a0_2 t104 t105 t106 t109 t110 t111) else (tabardlaw7_DecimalNears.j4 k4 a1 x11_4 false a0_0 a0_1 a0_2 t104 t105 t106 t109 t110 t111)) else (tabardlaw7_DecimalNears.j4 k4 a1 x11_4 false a0_0 a0_1 a0_2 t104 t105 t106 t109 t110 t111)))) else (tabardlaw7_DecimalNears.j4 k4 a1 x11_4 true a0_0 a0_1 a0_2 t104 t105 t106 t109 t110 t111)) else (tabardlaw7_DecimalNears.j4 k4 a1 x11_4 true a0_0 a0_1 a0_2 t104 t105 t106 t109 t110 t111)) else (tabardlaw7_DecimalNears.j4 k4 a1 x11_4 true a0_0 a0_1 a0_2 t104 t105 t106 t109 t110 t111)))) = some r := H
                          have A80 := Aside0.mk A800
                          clear A800
                          replace H := Option.bind_eq_some_iff.mp H
                          obtain ⟨⟨t121, t122, t123, t124⟩, A810, H⟩ := H
                          replace H : ((decimal_Right.f t116 t117 t118).bind fun t126 => (if t119 = 0 then (if t124 = 0 then (if t126 = true then (if (!(t116 == t121) || (!(t117.toList == t122.toList) || (!(t118 == t123)))) = true then (tabardlaw7_DecimalNears.j4 k4 a1 x11_4 true a0_0 a0_1 a0_2 t104 t105 t106 t109 t110 t111) else (if (!(t116 == t104) || (!(t117.toList == t105.toList) || (!(t118 == t106)))) = true then (if (!(t116 == t109) || (!(t117.toList == t110.toList) || (!(t118 == t111)))) = true then (tabardlaw7_DecimalNears.j4 k4 a1 x11_4 true a0_0 a0_1 a0_2 t104 t105 t106 t109 t110 t111) else (if (t117.size : Int) > 0 then (if t118 < (wrap64 (-a1)) then (tabardlaw7_DecimalNears.j4 k4 a1 x11_4 (!(t116 == a0_0) || (!(t117.toList == a0_1.toList) || (!(t118 == a0_2)))) a0_0 a0_1 a0_2 t104 t105 t106 t109 t110 t111) else (tabardlaw7_DecimalNears.j4 k4 a1 x11_4 false a0_0 a0_1 a0_2 t104 t105 t106 t109 t110 t111)) else (tabardlaw7_DecimalNears.j4 k4 a1 x11_4 false a0_0 a0_1 a0_2 t104 t105 t106 t109 t110 t111))) else (if (t117.size : Int) > 0 then (if t118 < (wrap64 (-a1)) then (tabardlaw7_DecimalNears.j4 k4 a1 x11_4 (!(t116 == a0_0) || (!(t117.toList == a0_1.toList) || (!(t118 == a0_2)))) a0_0 a0_1 a0_2 t104 t105 t106 t109 t110 t111) else (tabardlaw7_DecimalNears.j4 k4 a1 x11_4 false a0_0 a0_1 a0_2 t104 t105 t106 t109 t110 t111)) else (tabardlaw7_DecimalNears.j4 k4 a1 x11_4 false a0_0 a0_1 a0_2 t104 t105 t106 t109 t110 t111)))) else (tabardlaw7_DecimalNears.j4 k4 a1 x11_4 true a0_0 a0_1 a0_2 t104 t105 t106 t109 t110 t111)) else (tabardlaw7_DecimalNears.j4 k4 a1 x11_4 true a0_0 a0_1 a0_2 t104 t105 t106 t109 t110 t111)) else (tabardlaw7_DecimalNears.j4 k4 a1 x11_4 true a0_0 a0_1 a0_2 t104 t105 t106 t109 t110 t111))) = some r := H
                          have A81 := Aside0.mk A810
                          clear A810
                          replace H := Option.bind_eq_some_iff.mp H
                          obtain ⟨t126, A820, H⟩ := H
                          replace H : (if t119 = 0 then (if t124 = 0 then (if t126 = true then (if (!(t116 == t121) || (!(t117.toList == t122.toList) || (!(t118 == t123)))) = true then (tabardlaw7_DecimalNears.j4 k4 a1 x11_4 true a0_0 a0_1 a0_2 t104 t105 t106 t109 t110 t111) else (if (!(t116 == t104) || (!(t117.toList == t105.toList) || (!(t118 == t106)))) = true then (if (!(t116 == t109) || (!(t117.toList == t110.toList) || (!(t118 == t111)))) = true then (tabardlaw7_DecimalNears.j4 k4 a1 x11_4 true a0_0 a0_1 a0_2 t104 t105 t106 t109 t110 t111) else (if (t117.size : Int) > 0 then (if t118 < (wrap64 (-a1)) then (tabardlaw7_DecimalNears.j4 k4 a1 x11_4 (!(t116 == a0_0) || (!(t117.toList == a0_1.toList) || (!(t118 == a0_2)))) a0_0 a0_1 a0_2 t104 t105 t106 t109 t110 t111) else (tabardlaw7_DecimalNears.j4 k4 a1 x11_4 false a0_0 a0_1 a0_2 t104 t105 t106 t109 t110 t111)) else (tabardlaw7_DecimalNears.j4 k4 a1 x11_4 false a0_0 a0_1 a0_2 t104 t105 t106 t109 t110 t111))) else (if (t117.size : Int) > 0 then (if t118 < (wrap64 (-a1)) then (tabardlaw7_DecimalNears.j4 k4 a1 x11_4 (!(t116 == a0_0) || (!(t117.toList == a0_1.toList) || (!(t118 == a0_2)))) a0_0 a0_1 a0_2 t104 t105 t106 t109 t110 t111) else (tabardlaw7_DecimalNears.j4 k4 a1 x11_4 false a0_0 a0_1 a0_2 t104 t105 t106 t109 t110 t111)) else (tabardlaw7_DecimalNears.j4 k4 a1 x11_4 false a0_0 a0_1 a0_2 t104 t105 t106 t109 t110 t111)))) else (tabardlaw7_DecimalNears.j4 k4 a1 x11_4 true a0_0 a0_1 a0_2 t104 t105 t106 t109 t110 t111)) else (tabardlaw7_DecimalNears.j4 k4 a1 x11_4 true a0_0 a0_1 a0_2 t104 t105 t106 t109 t110 t111)) else (tabardlaw7_DecimalNears.j4 k4 a1 x11_4 true a0_0 a0_1 a0_2 t104 t105 t106 t109 t110 t111)) = some r := H
                          have A82 := Aside0.mk A820
                          clear A820
                          have HC83 := Aside0.mk H
                          clear H
                          have hnb84 := NB101_108.out
                          have hnc84 := NB108_101.out
                          have hnb85 := NB101_113.out
                          have hnc85 := NB113_101.out
                          have hcz86_0 : wr.cell? ⟨gb101, 0, none⟩ = some (.bool a0_0) := (blk_cell BK101.out 0).trans rfl
                          have hcz86_1 : wr.cell? ⟨gb101, 1, none⟩ = some (.string a0_1) := (blk_cell BK101.out 1).trans rfl
                          have hcz86_2 : wr.cell? ⟨gb101, 2, none⟩ = some (.int .i64 a0_2) := (blk_cell BK101.out 2).trans rfl
                          have hfz86_0 := blk_frozen BK101.out 0
                          have hfz86_1 := blk_frozen BK101.out 1
                          have hfz86_2 := blk_frozen BK101.out 2
                          go_upto_region 17 with (first | ((with_reducible refine gate_callee (f := 11) rfl ?_); refine goesL_ (some 96) rfl rfl Tryd.func11 (by kernel_rfl) rfl #[.agg #[.bool a0_0, .string a0_1, .int .i64 a0_2], .int .i64 a1, .int .i64 x11_4] rfl (by (try simp only [List.map_toArray, List.map_cons, List.map_nil]); first | done | rfl | (simp only [List.length_drop, List.length_take]; rfl)) ?_; (with_reducible refine (decimal_Place.calls k4 a0_0 a0_1 a0_2 a1 x11_4 t116 t117 t118 t119 _ A80.out).mono ?_); rintro e w87 ⟨rfl, hb⟩; refine ⟨_, rfl, ?_⟩; have n0_ := Aside0.mk (blk_below (g := gb101) (o := .cells #[.bool a0_0, .string a0_1, .int .i64 a0_2] 23 (0, 0)) (by (with_reducible repeat (first | refine blk_drewN ?_ _ | refine blk_drew ?_ | refine blk_alloc ?_ _)); exact BK101.out) hb); have n1_ := Aside0.mk (blk_below (g := gb108) (o := .cells #[.bool t104, .string t105, .int .i64 t106] 23 (0, 0)) (by (with_reducible repeat (first | refine blk_drewN ?_ _ | refine blk_drew ?_ | refine blk_alloc ?_ _)); exact BK108.out) hb); have n2_ := Aside0.mk (blk_below (g := gb113) (o := .cells #[.bool t109, .string t110, .int .i64 t111] 23 (0, 0)) (by (with_reducible repeat (first | refine blk_drewN ?_ _ | refine blk_drew ?_ | refine blk_alloc ?_ _)); exact BK113.out) hb); have n3_ := Aside0.mk (below_step (by repeat (first | (with_reducible first | exact HB.out | apply below_alloc | apply pw_below_drewN | apply below_drew1 | refine below_set ?_ GE101.out | refine below_set ?_ GE108.out | refine below_set ?_ GE113.out) | exact HB.out)) hb); clear BK101; clear BK108; clear BK113; clear HB; have BK101 := n0_; have BK108 := n1_; have BK113 := n2_; have HB := n3_; clear n0_ n1_ n2_ n3_; (try clear hb); (try clear hb2); (try clear hk); (try clear hi)) | ((with_reducible refine gate_dst (N := 12) rfl ?_); (try (refine gate_guard (by rfl) ?_; dsimp only)); refine box_event ?hg (N := 12) ?hd (cs := #[.bool false, .string (⟨#[]⟩ : ByteArray), .int .i64 0]) (t := 23) ?hr ?_; (case hd => rfl); (case hg => rfl); (case hr => first | (go_simp; done) | (go_simp; rfl)); intro gb120 hg w88 hbox hb; have n0_ := Aside0.mk (blk_below (g := gb101) (o := .cells #[.bool a0_0, .string a0_1, .int .i64 a0_2] 23 (0, 0)) (by (with_reducible repeat (first | refine blk_drewN ?_ _ | refine blk_drew ?_ | refine blk_alloc ?_ _)); exact BK101.out) hb); have n1_ := Aside0.mk (blk_below (g := gb108) (o := .cells #[.bool t104, .string t105, .int .i64 t106] 23 (0, 0)) (by (with_reducible repeat (first | refine blk_drewN ?_ _ | refine blk_drew ?_ | refine blk_alloc ?_ _)); exact BK108.out) hb); have n2_ := Aside0.mk (blk_below (g := gb113) (o := .cells #[.bool t109, .string t110, .int .i64 t111] 23 (0, 0)) (by (with_reducible repeat (first | refine blk_drewN ?_ _ | refine blk_drew ?_ | refine blk_alloc ?_ _)); exact BK113.out) hb); have n3_ := Aside0.mk (below_step (by repeat (first | (with_reducible first | exact HB.out | apply below_alloc | apply pw_below_drewN | apply below_drew1 | refine below_set ?_ GE101.out | refine below_set ?_ GE108.out | refine below_set ?_ GE113.out) | exact HB.out)) hb); have n4_ := Aside0.mk (hbox); have n5_ := Aside0.mk ((by rw [hg]; exact (below_size (by repeat (first | (with_reducible first | exact HB.out | apply below_alloc | apply pw_below_drewN | apply below_drew1 | refine below_set ?_ GE101.out | refine below_set ?_ GE108.out | refine below_set ?_ GE113.out) | exact HB.out))) : w.heap.size ≤ gb120)); have n6_ := Aside0.mk ((by rw [hg]; exact (below_size (by repeat (first | (with_reducible first | exact HB.out | apply below_alloc | apply pw_below_drewN | apply below_drew1 | refine below_set ?_ GE101.out | refine below_set ?_ GE108.out | refine below_set ?_ GE113.out) | exact HB.out))) : w.heap.size ≤ gb120)); have n7_ := Aside0.mk ((by rw [hg]; exact Nat.ne_of_lt (blk_lt (g := gb101) (o := .cells #[.bool a0_0, .string a0_1, .int .i64 a0_2] 23 (0, 0)) (by (with_reducible repeat (first | refine blk_drewN ?_ _ | refine blk_drew ?_ | refine blk_alloc ?_ _)); exact BK101.out)) : gb101 ≠ gb120)); have n8_ := Aside0.mk ((by rw [hg]; exact Nat.ne_of_gt (blk_lt (g := gb101) (o := .cells #[.bool a0_0, .string a0_1, .int .i64 a0_2] 23 (0, 0)) (by (with_reducible repeat (first | refine blk_drewN ?_ _ | refine blk_drew ?_ | refine blk_alloc ?_ _)); exact BK101.out)) : gb120 ≠ gb101)); have n9_ := Aside0.mk ((by rw [hg]; exact Nat.ne_of_lt (blk_lt (g := gb108) (o := .cells #[.bool t104, .string t105, .int .i64 t106] 23 (0, 0)) (by (with_reducible repeat (first | refine blk_drewN ?_ _ | refine blk_drew ?_ | refine blk_alloc ?_ _)); exact BK108.out)) : gb108 ≠ gb120)); have n10_ := Aside0.mk ((by rw [hg]; exact Nat.ne_of_gt (blk_lt (g := gb108) (o := .cells #[.bool t104, .string t105, .int .i64 t106] 23 (0, 0)) (by (with_reducible repeat (first | refine blk_drewN ?_ _ | refine blk_drew ?_ | refine blk_alloc ?_ _)); exact BK108.out)) : gb120 ≠ gb108)); have n11_ := Aside0.mk ((by rw [hg]; exact Nat.ne_of_lt (blk_lt (g := gb113) (o := .cells #[.bool t109, .string t110, .int .i64 t111] 23 (0, 0)) (by (with_reducible repeat (first | refine blk_drewN ?_ _ | refine blk_drew ?_ | refine blk_alloc ?_ _)); exact BK113.out)) : gb113 ≠ gb120)); have n12_ := Aside0.mk ((by rw [hg]; exact Nat.ne_of_gt (blk_lt (g := gb113) (o := .cells #[.bool t109, .string t110, .int .i64 t111] 23 (0, 0)) (by (with_reducible repeat (first | refine blk_drewN ?_ _ | refine blk_drew ?_ | refine blk_alloc ?_ _)); exact BK113.out)) : gb120 ≠ gb113)); clear BK101; clear BK108; clear BK113; clear HB; have BK101 := n0_; have BK108 := n1_; have BK113 := n2_; have HB := n3_; have BK120 := n4_; have GW120 := n5_; have GE120 := n6_; have NB101_120 := n7_; have NB120_101 := n8_; have NB108_120 := n9_; have NB120_108 := n10_; have NB113_120 := n11_; have NB120_113 := n12_; clear n0_ n1_ n2_ n3_ n4_ n5_ n6_ n7_ n8_ n9_ n10_ n11_ n12_; clear hb hbox hg; have hnb89 := NB120_101.out; have hnc89 := NB101_120.out; have hnb90 := NB120_108.out; have hnc90 := NB108_120.out; have hnb91 := NB120_113.out; have hnc91 := NB113_120.out; have hcz92_0 : w88.cell? ⟨gb120, 0, none⟩ = some (.bool false) := (blk_cell BK120.out 0).trans rfl; have hcz92_1 : w88.cell? ⟨gb120, 1, none⟩ = some (.string (⟨#[]⟩ : ByteArray)) := (blk_cell BK120.out 1).trans rfl; have hcz92_2 : w88.cell? ⟨gb120, 2, none⟩ = some (.int .i64 0) := (blk_cell BK120.out 2).trans rfl; have hfz92_0 := blk_frozen BK120.out 0; have hfz92_1 := blk_frozen BK120.out 1; have hfz92_2 := blk_frozen BK120.out 2) | ((with_reducible refine gate_callee (f := 11) rfl ?_); refine goesL_ (some 104) rfl rfl Tryd.func11 (by kernel_rfl) rfl #[.agg #[.bool t116, .string t117, .int .i64 t118], .int .i64 a1, .int .i64 (wrap64 (5 - x11_4))] rfl (by (try simp only [List.map_toArray, List.map_cons, List.map_nil]); first | done | rfl | (simp only [List.length_drop, List.length_take]; rfl)) ?_; (with_reducible refine (decimal_Place.calls k4 t116 t117 t118 a1 (wrap64 (5 - x11_4)) t121 t122 t123 t124 _ A81.out).mono ?_); rintro e w93 ⟨rfl, hb⟩; refine ⟨_, rfl, ?_⟩; have n0_ := Aside0.mk (blk_below (g := gb101) (o := .cells #[.bool a0_0, .string a0_1, .int .i64 a0_2] 23 (0, 0)) (by (with_reducible repeat (first | refine blk_drewN ?_ _ | refine blk_drew ?_ | refine blk_alloc ?_ _)); refine blk_far ?_ NB101_120.out _; (with_reducible repeat (first | refine blk_drewN ?_ _ | refine blk_drew ?_ | refine blk_alloc ?_ _)); refine blk_far ?_ NB101_120.out _; (with_reducible repeat (first | refine blk_drewN ?_ _ | refine blk_drew ?_ | refine blk_alloc ?_ _)); refine blk_far ?_ NB101_120.out _; (with_reducible repeat (first | refine blk_drewN ?_ _ | refine blk_drew ?_ | refine blk_alloc ?_ _)); exact BK101.out) hb); have n1_ := Aside0.mk (blk_below (g := gb108) (o := .cells #[.bool t104, .string t105, .int .i64 t106] 23 (0, 0)) (by (with_reducible repeat (first | refine blk_drewN ?_ _ | refine blk_drew ?_ | refine blk_alloc ?_ _)); refine blk_far ?_ NB108_120.out _; (with_reducible repeat (first | refine blk_drewN ?_ _ | refine blk_drew ?_ | refine blk_alloc ?_ _)); refine blk_far ?_ NB108_120.out _; (with_reducible repeat (first | refine blk_drewN ?_ _ | refine blk_drew ?_ | refine blk_alloc ?_ _)); refine blk_far ?_ NB108_120.out _; (with_reducible repeat (first | refine blk_drewN ?_ _ | refine blk_drew ?_ | refine blk_alloc ?_ _)); exact BK108.out) hb); have n2_ := Aside0.mk (blk_below (g := gb113) (o := .cells #[.bool t109, .string t110, .int .i64 t111] 23 (0, 0)) (by (with_reducible repeat (first | refine blk_drewN ?_ _ | refine blk_drew ?_ | refine blk_alloc ?_ _)); refine blk_far ?_ NB113_120.out _; (with_reducible repeat (first | refine blk_drewN ?_ _ | refine blk_drew ?_ | refine blk_alloc ?_ _)); refine blk_far ?_ NB113_120.out _; (with_reducible repeat (first | refine blk_drewN ?_ _ | refine blk_drew ?_ | refine blk_alloc ?_ _)); refine blk_far ?_ NB113_120.out _; (with_reducible repeat (first | refine blk_drewN ?_ _ | refine blk_drew ?_ | refine blk_alloc ?_ _)); exact BK113.out) hb); have n3_ := Aside0.mk (blk_below (g := gb120) (o := .cells #[.bool t116, .string t117, .int .i64 t118] 23 (0, 0)) (by (with_reducible repeat (first | refine blk_drewN ?_ _ | refine blk_drew ?_ | refine blk_alloc ?_ _)); refine blk_put (cs := #[.bool t116, .string t117, .int .i64 0]) ?_ 2 _ rfl; (with_reducible repeat (first | refine blk_drewN ?_ _ | refine blk_drew ?_ | refine blk_alloc ?_ _)); refine blk_put (cs := #[.bool t116, .string (⟨#[]⟩ : ByteArray), .int .i64 0]) ?_ 1 _ rfl; (with_reducible repeat (first | refine blk_drewN ?_ _ | refine blk_drew ?_ | refine blk_alloc ?_ _)); refine blk_put (cs := #[.bool false, .string (⟨#[]⟩ : ByteArray), .int .i64 0]) ?_ 0 _ rfl; (with_reducible repeat (first | refine blk_drewN ?_ _ | refine blk_drew ?_ | refine blk_alloc ?_ _)); exact BK120.out) hb); have n4_ := Aside0.mk (below_step (by repeat (first | (with_reducible first | exact HB.out | apply below_alloc | apply pw_below_drewN | apply below_drew1 | refine below_set ?_ GE101.out | refine below_set ?_ GE108.out | refine below_set ?_ GE113.out | refine below_set ?_ GE120.out) | exact HB.out)) hb); clear BK101; clear BK108; clear BK113; clear BK120; clear HB; have BK101 := n0_; have BK108 := n1_; have BK113 := n2_; have BK120 := n3_; have HB := n4_; clear n0_ n1_ n2_ n3_ n4_; (try clear hb); (try clear hb2); (try clear hk); (try clear hi)) | ((with_reducible refine gate_dst (N := 14) rfl ?_); (try (refine gate_guard (by rfl) ?_; dsimp only)); refine box_event ?hg (N := 14) ?hd (cs := #[.bool false, .string (⟨#[]⟩ : ByteArray), .int .i64 0]) (t := 23) ?hr ?_; (case hd => rfl); (case hg => rfl); (case hr => first | (go_simp; done) | (go_simp; rfl)); intro gb125 hg w94 hbox hb; have n0_ := Aside0.mk (blk_below (g := gb101) (o := .cells #[.bool a0_0, .string a0_1, .int .i64 a0_2] 23 (0, 0)) (by (with_reducible repeat (first | refine blk_drewN ?_ _ | refine blk_drew ?_ | refine blk_alloc ?_ _)); exact BK101.out) hb); have n1_ := Aside0.mk (blk_below (g := gb108) (o := .cells #[.bool t104, .string t105, .int .i64 t106] 23 (0, 0)) (by (with_reducible repeat (first | refine blk_drewN ?_ _ | refine blk_drew ?_ | refine blk_alloc ?_ _)); exact BK108.out) hb); have n2_ := Aside0.mk (blk_below (g := gb113) (o := .cells #[.bool t109, .string t110, .int .i64 t111] 23 (0, 0)) (by (with_reducible repeat (first | refine blk_drewN ?_ _ | refine blk_drew ?_ | refine blk_alloc ?_ _)); exact BK113.out) hb); have n3_ := Aside0.mk (blk_below (g := gb120) (o := .cells #[.bool t116, .string t117, .int .i64 t118] 23 (0, 0)) (by (with_reducible repeat (first | refine blk_drewN ?_ _ | refine blk_drew ?_ | refine blk_alloc ?_ _)); exact BK120.out) hb); have n4_ := Aside0.mk (below_step (by repeat (first | (with_reducible first | exact HB.out | apply below_alloc | apply pw_below_drewN | apply below_drew1 | refine below_set ?_ GE101.out | refine below_set ?_ GE108.out | refine below_set ?_ GE113.out | refine below_set ?_ GE120.out) | exact HB.out)) hb); have n5_ := Aside0.mk (hbox); have n6_ := Aside0.mk ((by rw [hg]; exact (below_size (by repeat (first | (with_reducible first | exact HB.out | apply below_alloc | apply pw_below_drewN | apply below_drew1 | refine below_set ?_ GE101.out | refine below_set ?_ GE108.out | refine below_set ?_ GE113.out | refine below_set ?_ GE120.out) | exact HB.out))) : w.heap.size ≤ gb125)); have n7_ := Aside0.mk ((by rw [hg]; exact (below_size (by repeat (first | (with_reducible first | exact HB.out | apply below_alloc | apply pw_below_drewN | apply below_drew1 | refine below_set ?_ GE101.out | refine below_set ?_ GE108.out | refine below_set ?_ GE113.out | refine below_set ?_ GE120.out) | exact HB.out))) : w.heap.size ≤ gb125)); have n8_ := Aside0.mk ((by rw [hg]; exact Nat.ne_of_lt (blk_lt (g := gb101) (o := .cells #[.bool a0_0, .string a0_1, .int .i64 a0_2] 23 (0, 0)) (by (with_reducible repeat (first | refine blk_drewN ?_ _ | refine blk_drew ?_ | refine blk_alloc ?_ _)); exact BK101.out)) : gb101 ≠ gb125)); have n9_ := Aside0.mk ((by rw [hg]; exact Nat.ne_of_gt (blk_lt (g := gb101) (o := .cells #[.bool a0_0, .string a0_1, .int .i64 a0_2] 23 (0, 0)) (by (with_reducible repeat (first | refine blk_drewN ?_ _ | refine blk_drew ?_ | refine blk_alloc ?_ _)); exact BK101.out)) : gb125 ≠ gb101)); have n10_ := Aside0.mk ((by rw [hg]; exact Nat.ne_of_lt (blk_lt (g := gb108) (o := .cells #[.bool t104, .string t105, .int .i64 t106] 23 (0, 0)) (by (with_reducible repeat (first | refine blk_drewN ?_ _ | refine blk_drew ?_ | refine blk_alloc ?_ _)); exact BK108.out)) : gb108 ≠ gb125)); have n11_ := Aside0.mk ((by rw [hg]; exact Nat.ne_of_gt (blk_lt (g := gb108) (o := .cells #[.bool t104, .string t105, .int .i64 t106] 23 (0, 0)) (by (with_reducible repeat (first | refine blk_drewN ?_ _ | refine blk_drew ?_ | refine blk_alloc ?_ _)); exact BK108.out)) : gb125 ≠ gb108)); have n12_ := Aside0.mk ((by rw [hg]; exact Nat.ne_of_lt (blk_lt (g := gb113) (o := .cells #[.bool t109, .string t110, .int .i64 t111] 23 (0, 0)) (by (with_reducible repeat (first | refine blk_drewN ?_ _ | refine blk_drew ?_ | refine blk_alloc ?_ _)); exact BK113.out)) : gb113 ≠ gb125)); have n13_ := Aside0.mk ((by rw [hg]; exact Nat.ne_of_gt (blk_lt (g := gb113) (o := .cells #[.bool t109, .string t110, .int .i64 t111] 23 (0, 0)) (by (with_reducible repeat (first | refine blk_drewN ?_ _ | refine blk_drew ?_ | refine blk_alloc ?_ _)); exact BK113.out)) : gb125 ≠ gb113)); have n14_ := Aside0.mk ((by rw [hg]; exact Nat.ne_of_lt (blk_lt (g := gb120) (o := .cells #[.bool t116, .string t117, .int .i64 t118] 23 (0, 0)) (by (with_reducible repeat (first | refine blk_drewN ?_ _ | refine blk_drew ?_ | refine blk_alloc ?_ _)); exact BK120.out)) : gb120 ≠ gb125)); have n15_ := Aside0.mk ((by rw [hg]; exact Nat.ne_of_gt (blk_lt (g := gb120) (o := .cells #[.bool t116, .string t117, .int .i64 t118] 23 (0, 0)) (by (with_reducible repeat (first | refine blk_drewN ?_ _ | refine blk_drew ?_ | refine blk_alloc ?_ _)); exact BK120.out)) : gb125 ≠ gb120)); clear BK101; clear BK108; clear BK113; clear BK120; clear HB; have BK101 := n0_; have BK108 := n1_; have BK113 := n2_; have BK120 := n3_; have HB := n4_; have BK125 := n5_; have GW125 := n6_; have GE125 := n7_; have NB101_125 := n8_; have NB125_101 := n9_; have NB108_125 := n10_; have NB125_108 := n11_; have NB113_125 := n12_; have NB125_113 := n13_; have NB120_125 := n14_; have NB125_120 := n15_; clear n0_ n1_ n2_ n3_ n4_ n5_ n6_ n7_ n8_ n9_ n10_ n11_ n12_ n13_ n14_ n15_; clear hb hbox hg; have hnb95 := NB125_101.out; have hnc95 := NB101_125.out; have hnb96 := NB125_108.out; have hnc96 := NB108_125.out; have hnb97 := NB125_113.out; have hnc97 := NB113_125.out; have hnb98 := NB125_120.out; have hnc98 := NB120_125.out; have hcz99_0 : w94.cell? ⟨gb125, 0, none⟩ = some (.bool false) := (blk_cell BK125.out 0).trans rfl; have hcz99_1 : w94.cell? ⟨gb125, 1, none⟩ = some (.string (⟨#[]⟩ : ByteArray)) := (blk_cell BK125.out 1).trans rfl; have hcz99_2 : w94.cell? ⟨gb125, 2, none⟩ = some (.int .i64 0) := (blk_cell BK125.out 2).trans rfl; have hfz99_0 := blk_frozen BK125.out 0; have hfz99_1 := blk_frozen BK125.out 1; have hfz99_2 := blk_frozen BK125.out 2; have hcz100_0 : w94.cell? ⟨gb120, 0, none⟩ = some (.bool t116) := (blk_cell BK120.out 0).trans rfl; have hcz100_1 : w94.cell? ⟨gb120, 1, none⟩ = some (.string t117) := (blk_cell BK120.out 1).trans rfl; have hcz100_2 : w94.cell? ⟨gb120, 2, none⟩ = some (.int .i64 t118) := (blk_cell BK120.out 2).trans rfl; have hfz100_0 := blk_frozen BK120.out 0; have hfz100_1 := blk_frozen BK120.out 1; have hfz100_2 := blk_frozen BK120.out 2) | ((with_reducible refine gate_callee (f := 17) rfl ?_); refine goesL_ (some 108) rfl rfl Tryd.func17 (by kernel_rfl) rfl #[.agg #[.bool t116, .string t117, .int .i64 t118]] rfl (by (try simp only [List.map_toArray, List.map_cons, List.map_nil]); first | done | rfl | (simp only [List.length_drop, List.length_take]; rfl)) ?_; (with_reducible refine (decimal_Right.calls t116 t117 t118 t126 _ A82.out).mono ?_); rintro e w101 ⟨rfl, hb⟩; refine ⟨_, rfl, ?_⟩; have n0_ := Aside0.mk (blk_below (g := gb101) (o := .cells #[.bool a0_0, .string a0_1, .int .i64 a0_2] 23 (0, 0)) (by (with_reducible repeat (first | refine blk_drewN ?_ _ | refine blk_drew ?_ | refine blk_alloc ?_ _)); refine blk_far ?_ NB101_125.out _; (with_reducible repeat (first | refine blk_drewN ?_ _ | refine blk_drew ?_ | refine blk_alloc ?_ _)); refine blk_far ?_ NB101_125.out _; (with_reducible repeat (first | refine blk_drewN ?_ _ | refine blk_drew ?_ | refine blk_alloc ?_ _)); refine blk_far ?_ NB101_125.out _; (with_reducible repeat (first | refine blk_drewN ?_ _ | refine blk_drew ?_ | refine blk_alloc ?_ _)); exact BK101.out) hb); have n1_ := Aside0.mk (blk_below (g := gb108) (o := .cells #[.bool t104, .string t105, .int .i64 t106] 23 (0, 0)) (by (with_reducible repeat (first | refine blk_drewN ?_ _ | refine blk_drew ?_ | refine blk_alloc ?_ _)); refine blk_far ?_ NB108_125.out _; (with_reducible repeat (first | refine blk_drewN ?_ _ | refine blk_drew ?_ | refine blk_alloc ?_ _)); refine blk_far ?_ NB108_125.out _; (with_reducible repeat (first | refine blk_drewN ?_ _ | refine blk_drew ?_ | refine blk_alloc ?_ _)); refine blk_far ?_ NB108_125.out _; (with_reducible repeat (first | refine blk_drewN ?_ _ | refine blk_drew ?_ | refine blk_alloc ?_ _)); exact BK108.out) hb); have n2_ := Aside0.mk (blk_below (g := gb113) (o := .cells #[.bool t109, .string t110, .int .i64 t111] 23 (0, 0)) (by (with_reducible repeat (first | refine blk_drewN ?_ _ | refine blk_drew ?_ | refine blk_alloc ?_ _)); refine blk_far ?_ NB113_125.out _; (with_reducible repeat (first | refine blk_drewN ?_ _ | refine blk_drew ?_ | refine blk_alloc ?_ _)); refine blk_far ?_ NB113_125.out _; (with_reducible repeat (first | refine blk_drewN ?_ _ | refine blk_drew ?_ | refine blk_alloc ?_ _)); refine blk_far ?_ NB113_125.out _; (with_reducible repeat (first | refine blk_drewN ?_ _ | refine blk_drew ?_ | refine blk_alloc ?_ _)); exact BK113.out) hb); have n3_ := Aside0.mk (blk_below (g := gb120) (o := .cells #[.bool t116, .string t117, .int .i64 t118] 23 (0, 0)) (by (with_reducible repeat (first | refine blk_drewN ?_ _ | refine blk_drew ?_ | refine blk_alloc ?_ _)); refine blk_far ?_ NB120_125.out _; (with_reducible repeat (first | refine blk_drewN ?_ _ | refine blk_drew ?_ | refine blk_alloc ?_ _)); refine blk_far ?_ NB120_125.out _; (with_reducible repeat (first | refine blk_drewN ?_ _ | refine blk_drew ?_ | refine blk_alloc ?_ _)); refine blk_far ?_ NB120_125.out _; (with_reducible repeat (first | refine blk_drewN ?_ _ | refine blk_drew ?_ | refine blk_alloc ?_ _)); exact BK120.out) hb); have n4_ := Aside0.mk (blk_below (g := gb125) (o := .cells #[.bool t121, .string t122, .int .i64 t123] 23 (0, 0)) (by (with_reducible repeat (first | refine blk_drewN ?_ _ | refine blk_drew ?_ | refine blk_alloc ?_ _)); refine blk_put (cs := #[.bool t121, .string t122, .int .i64 0]) ?_ 2 _ rfl; (with_reducible repeat (first | refine blk_drewN ?_ _ | refine blk_drew ?_ | refine blk_alloc ?_ _)); refine blk_put (cs := #[.bool t121, .string (⟨#[]⟩ : ByteArray), .int .i64 0]) ?_ 1 _ rfl; (with_reducible repeat (first | refine blk_drewN ?_ _ | refine blk_drew ?_ | refine blk_alloc ?_ _)); refine blk_put (cs := #[.bool false, .string (⟨#[]⟩ : ByteArray), .int .i64 0]) ?_ 0 _ rfl; (with_reducible repeat (first | refine blk_drewN ?_ _ | refine blk_drew ?_ | refine blk_alloc ?_ _)); exact BK125.out) hb); have n5_ := Aside0.mk (below_step (by repeat (first | (with_reducible first | exact HB.out | apply below_alloc | apply pw_below_drewN | apply below_drew1 | refine below_set ?_ GE101.out | refine below_set ?_ GE108.out | refine below_set ?_ GE113.out | refine below_set ?_ GE120.out | refine below_set ?_ GE125.out) | exact HB.out)) hb); clear BK101; clear BK108; clear BK113; clear BK120; clear BK125; clear HB; have BK101 := n0_; have BK108 := n1_; have BK113 := n2_; have BK120 := n3_; have BK125 := n4_; have HB := n5_; clear n0_ n1_ n2_ n3_ n4_ n5_; (try clear hb); (try clear hb2); (try clear hk); (try clear hi)))
                          (try simp only [Act.put, List.setIfInBounds_toArray, List.set_cons_zero, List.set_cons_succ])
                          go_cut [151] (fun v151 wc => ∃ (kq : Nat) (x151_82 : Bool), v151 = .bool x151_82 ∧ Aside0 (tabardlaw7_DecimalNears.j4 kq a1 x11_4 x151_82 a0_0 a0_1 a0_2 t104 t105 t106 t109 t110 t111 = some r) ∧ Aside0 (kq ≤ k4) ∧ Aside0 (wc.heap[gb101]? = some (.cells #[.bool a0_0, .string a0_1, .int .i64 a0_2] 23 (0, 0))) ∧ Aside0 (wc.heap[gb108]? = some (.cells #[.bool t104, .string t105, .int .i64 t106] 23 (0, 0))) ∧ Aside0 (wc.heap[gb113]? = some (.cells #[.bool t109, .string t110, .int .i64 t111] 23 (0, 0))) ∧ Aside0 (wc.heap[gb120]? = some (.cells #[.bool t116, .string t117, .int .i64 t118] 23 (0, 0))) ∧ Aside0 (wc.heap[gb125]? = some (.cells #[.bool t121, .string t122, .int .i64 t123] 23 (0, 0))) ∧ Aside0 (Below w.heap.size w wc))
                          case first =>
                            have H := HC83.out
                            clear HC83
                            by_cases c102 : t119 = 0
                            · rw [if_pos c102] at H
                              have c102b0 : (t119 == 0) = true := beq_iff_eq.mpr c102
                              have c102b1 : (t119 != 0) = false := bne_eq_false_iff_eq.mpr c102
                              clear c102
                              (first | rw [c102b0] | (simp only [i64_w, i32_w]; rw [c102b0]) | skip)
                              by_cases c103 : t124 = 0
                              · rw [if_pos c103] at H
                                have c103b0 : (t124 == 0) = true := beq_iff_eq.mpr c103
                                have c103b1 : (t124 != 0) = false := bne_eq_false_iff_eq.mpr c103
                                clear c103
                                by_cases c104 : t126 = true
                                · subst c104
                                  have H1 : (if (!(t116 == t121) || (!(t117.toList == t122.toList) || (!(t118 == t123)))) = true then (tabardlaw7_DecimalNears.j4 k4 a1 x11_4 true a0_0 a0_1 a0_2 t104 t105 t106 t109 t110 t111) else (if (!(t116 == t104) || (!(t117.toList == t105.toList) || (!(t118 == t106)))) = true then (if (!(t116 == t109) || (!(t117.toList == t110.toList) || (!(t118 == t111)))) = true then (tabardlaw7_DecimalNears.j4 k4 a1 x11_4 true a0_0 a0_1 a0_2 t104 t105 t106 t109 t110 t111) else (if (t117.size : Int) > 0 then (if t118 < (wrap64 (-a1)) then (tabardlaw7_DecimalNears.j4 k4 a1 x11_4 (!(t116 == a0_0) || (!(t117.toList == a0_1.toList) || (!(t118 == a0_2)))) a0_0 a0_1 a0_2 t104 t105 t106 t109 t110 t111) else (tabardlaw7_DecimalNears.j4 k4 a1 x11_4 false a0_0 a0_1 a0_2 t104 t105 t106 t109 t110 t111)) else (tabardlaw7_DecimalNears.j4 k4 a1 x11_4 false a0_0 a0_1 a0_2 t104 t105 t106 t109 t110 t111))) else (if (t117.size : Int) > 0 then (if t118 < (wrap64 (-a1)) then (tabardlaw7_DecimalNears.j4 k4 a1 x11_4 (!(t116 == a0_0) || (!(t117.toList == a0_1.toList) || (!(t118 == a0_2)))) a0_0 a0_1 a0_2 t104 t105 t106 t109 t110 t111) else (tabardlaw7_DecimalNears.j4 k4 a1 x11_4 false a0_0 a0_1 a0_2 t104 t105 t106 t109 t110 t111)) else (tabardlaw7_DecimalNears.j4 k4 a1 x11_4 false a0_0 a0_1 a0_2 t104 t105 t106 t109 t110 t111)))) = some r := by rw [if_pos rfl] at H; exact H
                                  clear H
                                  have H := H1
                                  clear H1
                                  by_cases c105 : (!(t116 == t121) || (!(t117.toList == t122.toList) || (!(t118 == t123)))) = true
                                  · rw [if_pos c105] at H
                                    have c105b0 : (!(t116 == t121) || (!(t117.toList == t122.toList) || (!(t118 == t123)))) = true := c105
                                    clear c105
                                    have H' := Aside0.mk H
                                    clear H
                                    have hnb106 := NB120_101.out
                                    have hnc106 := NB101_120.out
                                    have hnb107 := NB120_108.out
                                    have hnc107 := NB108_120.out
                                    have hnb108 := NB120_113.out
                                    have hnc108 := NB113_120.out
                                    have hnb109 := NB120_125.out
                                    have hnc109 := NB125_120.out
                                    have hcz110_0 : w101.cell? ⟨gb120, 0, none⟩ = some (.bool t116) := (blk_cell BK120.out 0).trans rfl
                                    have hcz110_1 : w101.cell? ⟨gb120, 1, none⟩ = some (.string t117) := (blk_cell BK120.out 1).trans rfl
                                    have hcz110_2 : w101.cell? ⟨gb120, 2, none⟩ = some (.int .i64 t118) := (blk_cell BK120.out 2).trans rfl
                                    have hfz110_0 := blk_frozen BK120.out 0
                                    have hfz110_1 := blk_frozen BK120.out 1
                                    have hfz110_2 := blk_frozen BK120.out 2
                                    have hnb111 := NB125_101.out
                                    have hnc111 := NB101_125.out
                                    have hnb112 := NB125_108.out
                                    have hnc112 := NB108_125.out
                                    have hnb113 := NB125_113.out
                                    have hnc113 := NB113_125.out
                                    have hcz114_0 : w101.cell? ⟨gb125, 0, none⟩ = some (.bool t121) := (blk_cell BK125.out 0).trans rfl
                                    have hcz114_1 : w101.cell? ⟨gb125, 1, none⟩ = some (.string t122) := (blk_cell BK125.out 1).trans rfl
                                    have hcz114_2 : w101.cell? ⟨gb125, 2, none⟩ = some (.int .i64 t123) := (blk_cell BK125.out 2).trans rfl
                                    have hfz114_0 := blk_frozen BK125.out 0
                                    have hfz114_1 := blk_frozen BK125.out 1
                                    have hfz114_2 := blk_frozen BK125.out 2
                                    go_wp2
                                    go_meet
                                    case rel => exact ⟨_, (true), (by first | rfl | (simp; done) | (simp [*]; done)), H', ⟨by have := HJ4.out; have := HJ15.out; have := HJ33.out; have := HK4.out; first | omega | exact Nat.le_refl _⟩, ⟨by (with_reducible repeat (first | refine blk_drewN ?_ _ | refine blk_drew ?_ | refine blk_alloc ?_ _)); exact BK101.out⟩, ⟨by (with_reducible repeat (first | refine blk_drewN ?_ _ | refine blk_drew ?_ | refine blk_alloc ?_ _)); exact BK108.out⟩, ⟨by (with_reducible repeat (first | refine blk_drewN ?_ _ | refine blk_drew ?_ | refine blk_alloc ?_ _)); exact BK113.out⟩, ⟨by (with_reducible repeat (first | refine blk_drewN ?_ _ | refine blk_drew ?_ | refine blk_alloc ?_ _)); exact BK120.out⟩, ⟨by (with_reducible repeat (first | refine blk_drewN ?_ _ | refine blk_drew ?_ | refine blk_alloc ?_ _)); exact BK125.out⟩, ⟨by repeat (first | (with_reducible first | exact HB.out | apply below_alloc | apply pw_below_drewN | apply below_drew1 | refine below_set ?_ GE101.out | refine below_set ?_ GE108.out | refine below_set ?_ GE113.out | refine below_set ?_ GE120.out | refine below_set ?_ GE125.out) | exact HB.out)⟩⟩
                                  · rw [if_neg c105] at H
                                    have c105b0 : (!(t116 == t121) || (!(t117.toList == t122.toList) || (!(t118 == t123)))) = false := by simpa using c105
                                    clear c105
                                    by_cases c115 : (!(t116 == t104) || (!(t117.toList == t105.toList) || (!(t118 == t106)))) = true
                                    · rw [if_pos c115] at H
                                      have c115b0 : (!(t116 == t104) || (!(t117.toList == t105.toList) || (!(t118 == t106)))) = true := c115
                                      clear c115
                                      by_cases c116 : (!(t116 == t109) || (!(t117.toList == t110.toList) || (!(t118 == t111)))) = true
                                      · rw [if_pos c116] at H
                                        have c116b0 : (!(t116 == t109) || (!(t117.toList == t110.toList) || (!(t118 == t111)))) = true := c116
                                        clear c116
                                        have H' := Aside0.mk H
                                        clear H
                                        have hnb117 := NB120_101.out
                                        have hnc117 := NB101_120.out
                                        have hnb118 := NB120_108.out
                                        have hnc118 := NB108_120.out
                                        have hnb119 := NB120_113.out
                                        have hnc119 := NB113_120.out
                                        have hnb120 := NB120_125.out
                                        have hnc120 := NB125_120.out
                                        have hcz121_0 : w101.cell? ⟨gb120, 0, none⟩ = some (.bool t116) := (blk_cell BK120.out 0).trans rfl
                                        have hcz121_1 : w101.cell? ⟨gb120, 1, none⟩ = some (.string t117) := (blk_cell BK120.out 1).trans rfl
                                        have hcz121_2 : w101.cell? ⟨gb120, 2, none⟩ = some (.int .i64 t118) := (blk_cell BK120.out 2).trans rfl
                                        have hfz121_0 := blk_frozen BK120.out 0
                                        have hfz121_1 := blk_frozen BK120.out 1
                                        have hfz121_2 := blk_frozen BK120.out 2
                                        have hnb122 := NB125_101.out
                                        have hnc122 := NB101_125.out
                                        have hnb123 := NB125_108.out
                                        have hnc123 := NB108_125.out
                                        have hnb124 := NB125_113.out
                                        have hnc124 := NB113_125.out
                                        have hcz125_0 : w101.cell? ⟨gb125, 0, none⟩ = some (.bool t121) := (blk_cell BK125.out 0).trans rfl
                                        have hcz125_1 : w101.cell? ⟨gb125, 1, none⟩ = some (.string t122) := (blk_cell BK125.out 1).trans rfl
                                        have hcz125_2 : w101.cell? ⟨gb125, 2, none⟩ = some (.int .i64 t123) := (blk_cell BK125.out 2).trans rfl
                                        have hfz125_0 := blk_frozen BK125.out 0
                                        have hfz125_1 := blk_frozen BK125.out 1
                                        have hfz125_2 := blk_frozen BK125.out 2
                                        have hnb126 := NB108_101.out
                                        have hnc126 := NB101_108.out
                                        have hnb127 := NB108_113.out
                                        have hnc127 := NB113_108.out
                                        have hcz128_0 : w101.cell? ⟨gb108, 0, none⟩ = some (.bool t104) := (blk_cell BK108.out 0).trans rfl
                                        have hcz128_1 : w101.cell? ⟨gb108, 1, none⟩ = some (.string t105) := (blk_cell BK108.out 1).trans rfl
                                        have hcz128_2 : w101.cell? ⟨gb108, 2, none⟩ = some (.int .i64 t106) := (blk_cell BK108.out 2).trans rfl
                                        have hfz128_0 := blk_frozen BK108.out 0
                                        have hfz128_1 := blk_frozen BK108.out 1
                                        have hfz128_2 := blk_frozen BK108.out 2
                                        have hnb129 := NB113_101.out
                                        have hnc129 := NB101_113.out
                                        have hcz130_0 : w101.cell? ⟨gb113, 0, none⟩ = some (.bool t109) := (blk_cell BK113.out 0).trans rfl
                                        have hcz130_1 : w101.cell? ⟨gb113, 1, none⟩ = some (.string t110) := (blk_cell BK113.out 1).trans rfl
                                        have hcz130_2 : w101.cell? ⟨gb113, 2, none⟩ = some (.int .i64 t111) := (blk_cell BK113.out 2).trans rfl
                                        have hfz130_0 := blk_frozen BK113.out 0
                                        have hfz130_1 := blk_frozen BK113.out 1
                                        have hfz130_2 := blk_frozen BK113.out 2
                                        go_wp2
                                        go_meet
                                        case rel => exact ⟨_, (true), (by first | rfl | (simp; done) | (simp [*]; done)), H', ⟨by have := HJ4.out; have := HJ15.out; have := HJ33.out; have := HK4.out; first | omega | exact Nat.le_refl _⟩, ⟨by (with_reducible repeat (first | refine blk_drewN ?_ _ | refine blk_drew ?_ | refine blk_alloc ?_ _)); exact BK101.out⟩, ⟨by (with_reducible repeat (first | refine blk_drewN ?_ _ | refine blk_drew ?_ | refine blk_alloc ?_ _)); exact BK108.out⟩, ⟨by (with_reducible repeat (first | refine blk_drewN ?_ _ | refine blk_drew ?_ | refine blk_alloc ?_ _)); exact BK113.out⟩, ⟨by (with_reducible repeat (first | refine blk_drewN ?_ _ | refine blk_drew ?_ | refine blk_alloc ?_ _)); exact BK120.out⟩, ⟨by (with_reducible repeat (first | refine blk_drewN ?_ _ | refine blk_drew ?_ | refine blk_alloc ?_ _)); exact BK125.out⟩, ⟨by repeat (first | (with_reducible first | exact HB.out | apply below_alloc | apply pw_below_drewN | apply below_drew1 | refine below_set ?_ GE101.out | refine below_set ?_ GE108.out | refine below_set ?_ GE113.out | refine below_set ?_ GE120.out | refine below_set ?_ GE125.out) | exact HB.out)⟩⟩
                                      · rw [if_neg c116] at H
                                        have c116b0 : (!(t116 == t109) || (!(t117.toList == t110.toList) || (!(t118 == t111)))) = false := by simpa using c116
                                        clear c116
                                        by_cases c131 : (t117.size : Int) > 0
                                        · rw [if_pos c131] at H
                                          have c131b0 : decide (0 < (t117.size : Int)) = true := decide_eq_true c131
                                          have c131b1 : decide (0 < t117.size) = true := decide_eq_true (by omega)
                                          clear c131
                                          by_cases c132 : t118 < (wrap64 (-a1))
                                          · rw [if_pos c132] at H
                                            have c132b0 : decide (t118 < (wrap64 (-a1))) = true := decide_eq_true c132
                                            clear c132
                                            have H' := Aside0.mk H
                                            clear H
                                            have hnb133 := NB120_101.out
                                            have hnc133 := NB101_120.out
                                            have hnb134 := NB120_108.out
                                            have hnc134 := NB108_120.out
                                            have hnb135 := NB120_113.out
                                            have hnc135 := NB113_120.out
                                            have hnb136 := NB120_125.out
                                            have hnc136 := NB125_120.out
                                            have hcz137_0 : w101.cell? ⟨gb120, 0, none⟩ = some (.bool t116) := (blk_cell BK120.out 0).trans rfl
                                            have hcz137_1 : w101.cell? ⟨gb120, 1, none⟩ = some (.string t117) := (blk_cell BK120.out 1).trans rfl
                                            have hcz137_2 : w101.cell? ⟨gb120, 2, none⟩ = some (.int .i64 t118) := (blk_cell BK120.out 2).trans rfl
                                            have hfz137_0 := blk_frozen BK120.out 0
                                            have hfz137_1 := blk_frozen BK120.out 1
                                            have hfz137_2 := blk_frozen BK120.out 2
                                            have hnb138 := NB125_101.out
                                            have hnc138 := NB101_125.out
                                            have hnb139 := NB125_108.out
                                            have hnc139 := NB108_125.out
                                            have hnb140 := NB125_113.out
                                            have hnc140 := NB113_125.out
                                            have hcz141_0 : w101.cell? ⟨gb125, 0, none⟩ = some (.bool t121) := (blk_cell BK125.out 0).trans rfl
                                            have hcz141_1 : w101.cell? ⟨gb125, 1, none⟩ = some (.string t122) := (blk_cell BK125.out 1).trans rfl
                                            have hcz141_2 : w101.cell? ⟨gb125, 2, none⟩ = some (.int .i64 t123) := (blk_cell BK125.out 2).trans rfl
                                            have hfz141_0 := blk_frozen BK125.out 0
                                            have hfz141_1 := blk_frozen BK125.out 1
                                            have hfz141_2 := blk_frozen BK125.out 2
                                            have hnb142 := NB108_101.out
                                            have hnc142 := NB101_108.out
                                            have hnb143 := NB108_113.out
                                            have hnc143 := NB113_108.out
                                            have hcz144_0 : w101.cell? ⟨gb108, 0, none⟩ = some (.bool t104) := (blk_cell BK108.out 0).trans rfl
                                            have hcz144_1 : w101.cell? ⟨gb108, 1, none⟩ = some (.string t105) := (blk_cell BK108.out 1).trans rfl
                                            have hcz144_2 : w101.cell? ⟨gb108, 2, none⟩ = some (.int .i64 t106) := (blk_cell BK108.out 2).trans rfl
                                            have hfz144_0 := blk_frozen BK108.out 0
                                            have hfz144_1 := blk_frozen BK108.out 1
                                            have hfz144_2 := blk_frozen BK108.out 2
                                            have hnb145 := NB113_101.out
                                            have hnc145 := NB101_113.out
                                            have hcz146_0 : w101.cell? ⟨gb113, 0, none⟩ = some (.bool t109) := (blk_cell BK113.out 0).trans rfl
                                            have hcz146_1 : w101.cell? ⟨gb113, 1, none⟩ = some (.string t110) := (blk_cell BK113.out 1).trans rfl
                                            have hcz146_2 : w101.cell? ⟨gb113, 2, none⟩ = some (.int .i64 t111) := (blk_cell BK113.out 2).trans rfl
                                            have hfz146_0 := blk_frozen BK113.out 0
                                            have hfz146_1 := blk_frozen BK113.out 1
                                            have hfz146_2 := blk_frozen BK113.out 2
                                            have hcz147_0 : w101.cell? ⟨gb101, 0, none⟩ = some (.bool a0_0) := (blk_cell BK101.out 0).trans rfl
                                            have hcz147_1 : w101.cell? ⟨gb101, 1, none⟩ = some (.string a0_1) := (blk_cell BK101.out 1).trans rfl
                                            have hcz147_2 : w101.cell? ⟨gb101, 2, none⟩ = some (.int .i64 a0_2) := (blk_cell BK101.out 2).trans rfl
                                            have hfz147_0 := blk_frozen BK101.out 0
                                            have hfz147_1 := blk_frozen BK101.out 1
                                            have hfz147_2 := blk_frozen BK101.out 2
                                            go_wp2
                                            go_meet
                                            case rel => exact ⟨_, ((!(t116 == a0_0) || (!(t117.toList == a0_1.toList) || (!(t118 == a0_2))))), (by first | rfl | (simp; done) | (simp [*]; done)), H', ⟨by have := HJ4.out; have := HJ15.out; have := HJ33.out; have := HK4.out; first | omega | exact Nat.le_refl _⟩, ⟨by (with_reducible repeat (first | refine blk_drewN ?_ _ | refine blk_drew ?_ | refine blk_alloc ?_ _)); exact BK101.out⟩, ⟨by (with_reducible repeat (first | refine blk_drewN ?_ _ | refine blk_drew ?_ | refine blk_alloc ?_ _)); exact BK108.out⟩, ⟨by (with_reducible repeat (first | refine blk_drewN ?_ _ | refine blk_drew ?_ | refine blk_alloc ?_ _)); exact BK113.out⟩, ⟨by (with_reducible repeat (first | refine blk_drewN ?_ _ | refine blk_drew ?_ | refine blk_alloc ?_ _)); exact BK120.out⟩, ⟨by (with_reducible repeat (first | refine blk_drewN ?_ _ | refine blk_drew ?_ | refine blk_alloc ?_ _)); exact BK125.out⟩, ⟨by repeat (first | (with_reducible first | exact HB.out | apply below_alloc | apply pw_below_drewN | apply below_drew1 | refine below_set ?_ GE101.out | refine below_set ?_ GE108.out | refine below_set ?_ GE113.out | refine below_set ?_ GE120.out | refine below_set ?_ GE125.out) | exact HB.out)⟩⟩
                                          · rw [if_neg c132] at H
                                            have c132b0 : decide (t118 < (wrap64 (-a1))) = false := decide_eq_false c132
                                            clear c132
                                            have H' := Aside0.mk H
                                            clear H
                                            have hnb148 := NB120_101.out
                                            have hnc148 := NB101_120.out
                                            have hnb149 := NB120_108.out
                                            have hnc149 := NB108_120.out
                                            have hnb150 := NB120_113.out
                                            have hnc150 := NB113_120.out
                                            have hnb151 := NB120_125.out
                                            have hnc151 := NB125_120.out
                                            have hcz152_0 : w101.cell? ⟨gb120, 0, none⟩ = some (.bool t116) := (blk_cell BK120.out 0).trans rfl
                                            have hcz152_1 : w101.cell? ⟨gb120, 1, none⟩ = some (.string t117) := (blk_cell BK120.out 1).trans rfl
                                            have hcz152_2 : w101.cell? ⟨gb120, 2, none⟩ = some (.int .i64 t118) := (blk_cell BK120.out 2).trans rfl
                                            have hfz152_0 := blk_frozen BK120.out 0
                                            have hfz152_1 := blk_frozen BK120.out 1
                                            have hfz152_2 := blk_frozen BK120.out 2
                                            have hnb153 := NB125_101.out
                                            have hnc153 := NB101_125.out
                                            have hnb154 := NB125_108.out
                                            have hnc154 := NB108_125.out
                                            have hnb155 := NB125_113.out
                                            have hnc155 := NB113_125.out
                                            have hcz156_0 : w101.cell? ⟨gb125, 0, none⟩ = some (.bool t121) := (blk_cell BK125.out 0).trans rfl
                                            have hcz156_1 : w101.cell? ⟨gb125, 1, none⟩ = some (.string t122) := (blk_cell BK125.out 1).trans rfl
                                            have hcz156_2 : w101.cell? ⟨gb125, 2, none⟩ = some (.int .i64 t123) := (blk_cell BK125.out 2).trans rfl
                                            have hfz156_0 := blk_frozen BK125.out 0
                                            have hfz156_1 := blk_frozen BK125.out 1
                                            have hfz156_2 := blk_frozen BK125.out 2
                                            have hnb157 := NB108_101.out
                                            have hnc157 := NB101_108.out
                                            have hnb158 := NB108_113.out
                                            have hnc158 := NB113_108.out
                                            have hcz159_0 : w101.cell? ⟨gb108, 0, none⟩ = some (.bool t104) := (blk_cell BK108.out 0).trans rfl
                                            have hcz159_1 : w101.cell? ⟨gb108, 1, none⟩ = some (.string t105) := (blk_cell BK108.out 1).trans rfl
                                            have hcz159_2 : w101.cell? ⟨gb108, 2, none⟩ = some (.int .i64 t106) := (blk_cell BK108.out 2).trans rfl
                                            have hfz159_0 := blk_frozen BK108.out 0
                                            have hfz159_1 := blk_frozen BK108.out 1
                                            have hfz159_2 := blk_frozen BK108.out 2
                                            have hnb160 := NB113_101.out
                                            have hnc160 := NB101_113.out
                                            have hcz161_0 : w101.cell? ⟨gb113, 0, none⟩ = some (.bool t109) := (blk_cell BK113.out 0).trans rfl
                                            have hcz161_1 : w101.cell? ⟨gb113, 1, none⟩ = some (.string t110) := (blk_cell BK113.out 1).trans rfl
                                            have hcz161_2 : w101.cell? ⟨gb113, 2, none⟩ = some (.int .i64 t111) := (blk_cell BK113.out 2).trans rfl
                                            have hfz161_0 := blk_frozen BK113.out 0
                                            have hfz161_1 := blk_frozen BK113.out 1
                                            have hfz161_2 := blk_frozen BK113.out 2
                                            go_wp2
                                            go_meet
                                            case rel => exact ⟨_, (false), (by first | rfl | (simp; done) | (simp [*]; done)), H', ⟨by have := HJ4.out; have := HJ15.out; have := HJ33.out; have := HK4.out; first | omega | exact Nat.le_refl _⟩, ⟨by (with_reducible repeat (first | refine blk_drewN ?_ _ | refine blk_drew ?_ | refine blk_alloc ?_ _)); exact BK101.out⟩, ⟨by (with_reducible repeat (first | refine blk_drewN ?_ _ | refine blk_drew ?_ | refine blk_alloc ?_ _)); exact BK108.out⟩, ⟨by (with_reducible repeat (first | refine blk_drewN ?_ _ | refine blk_drew ?_ | refine blk_alloc ?_ _)); exact BK113.out⟩, ⟨by (with_reducible repeat (first | refine blk_drewN ?_ _ | refine blk_drew ?_ | refine blk_alloc ?_ _)); exact BK120.out⟩, ⟨by (with_reducible repeat (first | refine blk_drewN ?_ _ | refine blk_drew ?_ | refine blk_alloc ?_ _)); exact BK125.out⟩, ⟨by repeat (first | (with_reducible first | exact HB.out | apply below_alloc | apply pw_below_drewN | apply below_drew1 | refine below_set ?_ GE101.out | refine below_set ?_ GE108.out | refine below_set ?_ GE113.out | refine below_set ?_ GE120.out | refine below_set ?_ GE125.out) | exact HB.out)⟩⟩
                                        · rw [if_neg c131] at H
                                          have c131b0 : decide (0 < (t117.size : Int)) = false := decide_eq_false c131
                                          have c131b1 : decide (0 < t117.size) = false := decide_eq_false (by omega)
                                          clear c131
                                          have H' := Aside0.mk H
                                          clear H
                                          have hnb162 := NB120_101.out
                                          have hnc162 := NB101_120.out
                                          have hnb163 := NB120_108.out
                                          have hnc163 := NB108_120.out
                                          have hnb164 := NB120_113.out
                                          have hnc164 := NB113_120.out
                                          have hnb165 := NB120_125.out
                                          have hnc165 := NB125_120.out
                                          have hcz166_0 : w101.cell? ⟨gb120, 0, none⟩ = some (.bool t116) := (blk_cell BK120.out 0).trans rfl
                                          have hcz166_1 : w101.cell? ⟨gb120, 1, none⟩ = some (.string t117) := (blk_cell BK120.out 1).trans rfl
                                          have hcz166_2 : w101.cell? ⟨gb120, 2, none⟩ = some (.int .i64 t118) := (blk_cell BK120.out 2).trans rfl
                                          have hfz166_0 := blk_frozen BK120.out 0
                                          have hfz166_1 := blk_frozen BK120.out 1
                                          have hfz166_2 := blk_frozen BK120.out 2
                                          have hnb167 := NB125_101.out
                                          have hnc167 := NB101_125.out
                                          have hnb168 := NB125_108.out
                                          have hnc168 := NB108_125.out
                                          have hnb169 := NB125_113.out
                                          have hnc169 := NB113_125.out
                                          have hcz170_0 : w101.cell? ⟨gb125, 0, none⟩ = some (.bool t121) := (blk_cell BK125.out 0).trans rfl
                                          have hcz170_1 : w101.cell? ⟨gb125, 1, none⟩ = some (.string t122) := (blk_cell BK125.out 1).trans rfl
                                          have hcz170_2 : w101.cell? ⟨gb125, 2, none⟩ = some (.int .i64 t123) := (blk_cell BK125.out 2).trans rfl
                                          have hfz170_0 := blk_frozen BK125.out 0
                                          have hfz170_1 := blk_frozen BK125.out 1
                                          have hfz170_2 := blk_frozen BK125.out 2
                                          have hnb171 := NB108_101.out
                                          have hnc171 := NB101_108.out
                                          have hnb172 := NB108_113.out
                                          have hnc172 := NB113_108.out
                                          have hcz173_0 : w101.cell? ⟨gb108, 0, none⟩ = some (.bool t104) := (blk_cell BK108.out 0).trans rfl
                                          have hcz173_1 : w101.cell? ⟨gb108, 1, none⟩ = some (.string t105) := (blk_cell BK108.out 1).trans rfl
                                          have hcz173_2 : w101.cell? ⟨gb108, 2, none⟩ = some (.int .i64 t106) := (blk_cell BK108.out 2).trans rfl
                                          have hfz173_0 := blk_frozen BK108.out 0
                                          have hfz173_1 := blk_frozen BK108.out 1
                                          have hfz173_2 := blk_frozen BK108.out 2
                                          have hnb174 := NB113_101.out
                                          have hnc174 := NB101_113.out
                                          have hcz175_0 : w101.cell? ⟨gb113, 0, none⟩ = some (.bool t109) := (blk_cell BK113.out 0).trans rfl
                                          have hcz175_1 : w101.cell? ⟨gb113, 1, none⟩ = some (.string t110) := (blk_cell BK113.out 1).trans rfl
                                          have hcz175_2 : w101.cell? ⟨gb113, 2, none⟩ = some (.int .i64 t111) := (blk_cell BK113.out 2).trans rfl
                                          have hfz175_0 := blk_frozen BK113.out 0
                                          have hfz175_1 := blk_frozen BK113.out 1
                                          have hfz175_2 := blk_frozen BK113.out 2
                                          go_wp2
                                          go_meet
                                          case rel => exact ⟨_, (false), (by first | rfl | (simp; done) | (simp [*]; done)), H', ⟨by have := HJ4.out; have := HJ15.out; have := HJ33.out; have := HK4.out; first | omega | exact Nat.le_refl _⟩, ⟨by (with_reducible repeat (first | refine blk_drewN ?_ _ | refine blk_drew ?_ | refine blk_alloc ?_ _)); exact BK101.out⟩, ⟨by (with_reducible repeat (first | refine blk_drewN ?_ _ | refine blk_drew ?_ | refine blk_alloc ?_ _)); exact BK108.out⟩, ⟨by (with_reducible repeat (first | refine blk_drewN ?_ _ | refine blk_drew ?_ | refine blk_alloc ?_ _)); exact BK113.out⟩, ⟨by (with_reducible repeat (first | refine blk_drewN ?_ _ | refine blk_drew ?_ | refine blk_alloc ?_ _)); exact BK120.out⟩, ⟨by (with_reducible repeat (first | refine blk_drewN ?_ _ | refine blk_drew ?_ | refine blk_alloc ?_ _)); exact BK125.out⟩, ⟨by repeat (first | (with_reducible first | exact HB.out | apply below_alloc | apply pw_below_drewN | apply below_drew1 | refine below_set ?_ GE101.out | refine below_set ?_ GE108.out | refine below_set ?_ GE113.out | refine below_set ?_ GE120.out | refine below_set ?_ GE125.out) | exact HB.out)⟩⟩
                                    · rw [if_neg c115] at H
                                      have c115b0 : (!(t116 == t104) || (!(t117.toList == t105.toList) || (!(t118 == t106)))) = false := by simpa using c115
                                      clear c115
                                      by_cases c176 : (t117.size : Int) > 0
                                      · rw [if_pos c176] at H
                                        have c176b0 : decide (0 < (t117.size : Int)) = true := decide_eq_true c176
                                        have c176b1 : decide (0 < t117.size) = true := decide_eq_true (by omega)
                                        clear c176
                                        by_cases c177 : t118 < (wrap64 (-a1))
                                        · rw [if_pos c177] at H
                                          have c177b0 : decide (t118 < (wrap64 (-a1))) = true := decide_eq_true c177
                                          clear c177
                                          have H' := Aside0.mk H
                                          clear H
                                          have hnb178 := NB120_101.out
                                          have hnc178 := NB101_120.out
                                          have hnb179 := NB120_108.out
                                          have hnc179 := NB108_120.out
                                          have hnb180 := NB120_113.out
                                          have hnc180 := NB113_120.out
                                          have hnb181 := NB120_125.out
                                          have hnc181 := NB125_120.out
                                          have hcz182_0 : w101.cell? ⟨gb120, 0, none⟩ = some (.bool t116) := (blk_cell BK120.out 0).trans rfl
                                          have hcz182_1 : w101.cell? ⟨gb120, 1, none⟩ = some (.string t117) := (blk_cell BK120.out 1).trans rfl
                                          have hcz182_2 : w101.cell? ⟨gb120, 2, none⟩ = some (.int .i64 t118) := (blk_cell BK120.out 2).trans rfl
                                          have hfz182_0 := blk_frozen BK120.out 0
                                          have hfz182_1 := blk_frozen BK120.out 1
                                          have hfz182_2 := blk_frozen BK120.out 2
                                          have hnb183 := NB125_101.out
                                          have hnc183 := NB101_125.out
                                          have hnb184 := NB125_108.out
                                          have hnc184 := NB108_125.out
                                          have hnb185 := NB125_113.out
                                          have hnc185 := NB113_125.out
                                          have hcz186_0 : w101.cell? ⟨gb125, 0, none⟩ = some (.bool t121) := (blk_cell BK125.out 0).trans rfl
                                          have hcz186_1 : w101.cell? ⟨gb125, 1, none⟩ = some (.string t122) := (blk_cell BK125.out 1).trans rfl
                                          have hcz186_2 : w101.cell? ⟨gb125, 2, none⟩ = some (.int .i64 t123) := (blk_cell BK125.out 2).trans rfl
                                          have hfz186_0 := blk_frozen BK125.out 0
                                          have hfz186_1 := blk_frozen BK125.out 1
                                          have hfz186_2 := blk_frozen BK125.out 2
                                          have hnb187 := NB108_101.out
                                          have hnc187 := NB101_108.out
                                          have hnb188 := NB108_113.out
                                          have hnc188 := NB113_108.out
                                          have hcz189_0 : w101.cell? ⟨gb108, 0, none⟩ = some (.bool t104) := (blk_cell BK108.out 0).trans rfl
                                          have hcz189_1 : w101.cell? ⟨gb108, 1, none⟩ = some (.string t105) := (blk_cell BK108.out 1).trans rfl
                                          have hcz189_2 : w101.cell? ⟨gb108, 2, none⟩ = some (.int .i64 t106) := (blk_cell BK108.out 2).trans rfl
                                          have hfz189_0 := blk_frozen BK108.out 0
                                          have hfz189_1 := blk_frozen BK108.out 1
                                          have hfz189_2 := blk_frozen BK108.out 2
                                          have hnb190 := NB101_113.out
                                          have hnc190 := NB113_101.out
                                          have hcz191_0 : w101.cell? ⟨gb101, 0, none⟩ = some (.bool a0_0) := (blk_cell BK101.out 0).trans rfl
                                          have hcz191_1 : w101.cell? ⟨gb101, 1, none⟩ = some (.string a0_1) := (blk_cell BK101.out 1).trans rfl
                                          have hcz191_2 : w101.cell? ⟨gb101, 2, none⟩ = some (.int .i64 a0_2) := (blk_cell BK101.out 2).trans rfl
                                          have hfz191_0 := blk_frozen BK101.out 0
                                          have hfz191_1 := blk_frozen BK101.out 1
                                          have hfz191_2 := blk_frozen BK101.out 2
                                          go_wp2
                                          go_meet
                                          case rel => exact ⟨_, ((!(t116 == a0_0) || (!(t117.toList == a0_1.toList) || (!(t118 == a0_2))))), (by first | rfl | (simp; done) | (simp [*]; done)), H', ⟨by have := HJ4.out; have := HJ15.out; have := HJ33.out; have := HK4.out; first | omega | exact Nat.le_refl _⟩, ⟨by (with_reducible repeat (first | refine blk_drewN ?_ _ | refine blk_drew ?_ | refine blk_alloc ?_ _)); exact BK101.out⟩, ⟨by (with_reducible repeat (first | refine blk_drewN ?_ _ | refine blk_drew ?_ | refine blk_alloc ?_ _)); exact BK108.out⟩, ⟨by (with_reducible repeat (first | refine blk_drewN ?_ _ | refine blk_drew ?_ | refine blk_alloc ?_ _)); exact BK113.out⟩, ⟨by (with_reducible repeat (first | refine blk_drewN ?_ _ | refine blk_drew ?_ | refine blk_alloc ?_ _)); exact BK120.out⟩, ⟨by (with_reducible repeat (first | refine blk_drewN ?_ _ | refine blk_drew ?_ | refine blk_alloc ?_ _)); exact BK125.out⟩, ⟨by repeat (first | (with_reducible first | exact HB.out | apply below_alloc | apply pw_below_drewN | apply below_drew1 | refine below_set ?_ GE101.out | refine below_set ?_ GE108.out | refine below_set ?_ GE113.out | refine below_set ?_ GE120.out | refine below_set ?_ GE125.out) | exact HB.out)⟩⟩
                                        · rw [if_neg c177] at H
                                          have c177b0 : decide (t118 < (wrap64 (-a1))) = false := decide_eq_false c177
                                          clear c177
                                          have H' := Aside0.mk H
                                          clear H
                                          have hnb192 := NB120_101.out
                                          have hnc192 := NB101_120.out
                                          have hnb193 := NB120_108.out
                                          have hnc193 := NB108_120.out
                                          have hnb194 := NB120_113.out
                                          have hnc194 := NB113_120.out
                                          have hnb195 := NB120_125.out
                                          have hnc195 := NB125_120.out
                                          have hcz196_0 : w101.cell? ⟨gb120, 0, none⟩ = some (.bool t116) := (blk_cell BK120.out 0).trans rfl
                                          have hcz196_1 : w101.cell? ⟨gb120, 1, none⟩ = some (.string t117) := (blk_cell BK120.out 1).trans rfl
                                          have hcz196_2 : w101.cell? ⟨gb120, 2, none⟩ = some (.int .i64 t118) := (blk_cell BK120.out 2).trans rfl
                                          have hfz196_0 := blk_frozen BK120.out 0
                                          have hfz196_1 := blk_frozen BK120.out 1
                                          have hfz196_2 := blk_frozen BK120.out 2
                                          have hnb197 := NB125_101.out
                                          have hnc197 := NB101_125.out
                                          have hnb198 := NB125_108.out
                                          have hnc198 := NB108_125.out
                                          have hnb199 := NB125_113.out
                                          have hnc199 := NB113_125.out
                                          have hcz200_0 : w101.cell? ⟨gb125, 0, none⟩ = some (.bool t121) := (blk_cell BK125.out 0).trans rfl
                                          have hcz200_1 : w101.cell? ⟨gb125, 1, none⟩ = some (.string t122) := (blk_cell BK125.out 1).trans rfl
                                          have hcz200_2 : w101.cell? ⟨gb125, 2, none⟩ = some (.int .i64 t123) := (blk_cell BK125.out 2).trans rfl
                                          have hfz200_0 := blk_frozen BK125.out 0
                                          have hfz200_1 := blk_frozen BK125.out 1
                                          have hfz200_2 := blk_frozen BK125.out 2
                                          have hnb201 := NB108_101.out
                                          have hnc201 := NB101_108.out
                                          have hnb202 := NB108_113.out
                                          have hnc202 := NB113_108.out
                                          have hcz203_0 : w101.cell? ⟨gb108, 0, none⟩ = some (.bool t104) := (blk_cell BK108.out 0).trans rfl
                                          have hcz203_1 : w101.cell? ⟨gb108, 1, none⟩ = some (.string t105) := (blk_cell BK108.out 1).trans rfl
                                          have hcz203_2 : w101.cell? ⟨gb108, 2, none⟩ = some (.int .i64 t106) := (blk_cell BK108.out 2).trans rfl
                                          have hfz203_0 := blk_frozen BK108.out 0
                                          have hfz203_1 := blk_frozen BK108.out 1
                                          have hfz203_2 := blk_frozen BK108.out 2
                                          go_wp2
                                          go_meet
                                          case rel => exact ⟨_, (false), (by first | rfl | (simp; done) | (simp [*]; done)), H', ⟨by have := HJ4.out; have := HJ15.out; have := HJ33.out; have := HK4.out; first | omega | exact Nat.le_refl _⟩, ⟨by (with_reducible repeat (first | refine blk_drewN ?_ _ | refine blk_drew ?_ | refine blk_alloc ?_ _)); exact BK101.out⟩, ⟨by (with_reducible repeat (first | refine blk_drewN ?_ _ | refine blk_drew ?_ | refine blk_alloc ?_ _)); exact BK108.out⟩, ⟨by (with_reducible repeat (first | refine blk_drewN ?_ _ | refine blk_drew ?_ | refine blk_alloc ?_ _)); exact BK113.out⟩, ⟨by (with_reducible repeat (first | refine blk_drewN ?_ _ | refine blk_drew ?_ | refine blk_alloc ?_ _)); exact BK120.out⟩, ⟨by (with_reducible repeat (first | refine blk_drewN ?_ _ | refine blk_drew ?_ | refine blk_alloc ?_ _)); exact BK125.out⟩, ⟨by repeat (first | (with_reducible first | exact HB.out | apply below_alloc | apply pw_below_drewN | apply below_drew1 | refine below_set ?_ GE101.out | refine below_set ?_ GE108.out | refine below_set ?_ GE113.out | refine below_set ?_ GE120.out | refine below_set ?_ GE125.out) | exact HB.out)⟩⟩
                                      · rw [if_neg c176] at H
                                        have c176b0 : decide (0 < (t117.size : Int)) = false := decide_eq_false c176
                                        have c176b1 : decide (0 < t117.size) = false := decide_eq_false (by omega)
                                        clear c176
                                        have H' := Aside0.mk H
                                        clear H
                                        have hnb204 := NB120_101.out
                                        have hnc204 := NB101_120.out
                                        have hnb205 := NB120_108.out
                                        have hnc205 := NB108_120.out
                                        have hnb206 := NB120_113.out
                                        have hnc206 := NB113_120.out
                                        have hnb207 := NB120_125.out
                                        have hnc207 := NB125_120.out
                                        have hcz208_0 : w101.cell? ⟨gb120, 0, none⟩ = some (.bool t116) := (blk_cell BK120.out 0).trans rfl
                                        have hcz208_1 : w101.cell? ⟨gb120, 1, none⟩ = some (.string t117) := (blk_cell BK120.out 1).trans rfl
                                        have hcz208_2 : w101.cell? ⟨gb120, 2, none⟩ = some (.int .i64 t118) := (blk_cell BK120.out 2).trans rfl
                                        have hfz208_0 := blk_frozen BK120.out 0
                                        have hfz208_1 := blk_frozen BK120.out 1
                                        have hfz208_2 := blk_frozen BK120.out 2
                                        have hnb209 := NB125_101.out
                                        have hnc209 := NB101_125.out
                                        have hnb210 := NB125_108.out
                                        have hnc210 := NB108_125.out
                                        have hnb211 := NB125_113.out
                                        have hnc211 := NB113_125.out
                                        have hcz212_0 : w101.cell? ⟨gb125, 0, none⟩ = some (.bool t121) := (blk_cell BK125.out 0).trans rfl
                                        have hcz212_1 : w101.cell? ⟨gb125, 1, none⟩ = some (.string t122) := (blk_cell BK125.out 1).trans rfl
                                        have hcz212_2 : w101.cell? ⟨gb125, 2, none⟩ = some (.int .i64 t123) := (blk_cell BK125.out 2).trans rfl
                                        have hfz212_0 := blk_frozen BK125.out 0
                                        have hfz212_1 := blk_frozen BK125.out 1
                                        have hfz212_2 := blk_frozen BK125.out 2
                                        have hnb213 := NB108_101.out
                                        have hnc213 := NB101_108.out
                                        have hnb214 := NB108_113.out
                                        have hnc214 := NB113_108.out
                                        have hcz215_0 : w101.cell? ⟨gb108, 0, none⟩ = some (.bool t104) := (blk_cell BK108.out 0).trans rfl
                                        have hcz215_1 : w101.cell? ⟨gb108, 1, none⟩ = some (.string t105) := (blk_cell BK108.out 1).trans rfl
                                        have hcz215_2 : w101.cell? ⟨gb108, 2, none⟩ = some (.int .i64 t106) := (blk_cell BK108.out 2).trans rfl
                                        have hfz215_0 := blk_frozen BK108.out 0
                                        have hfz215_1 := blk_frozen BK108.out 1
                                        have hfz215_2 := blk_frozen BK108.out 2
                                        go_wp2
                                        go_meet
                                        case rel => exact ⟨_, (false), (by first | rfl | (simp; done) | (simp [*]; done)), H', ⟨by have := HJ4.out; have := HJ15.out; have := HJ33.out; have := HK4.out; first | omega | exact Nat.le_refl _⟩, ⟨by (with_reducible repeat (first | refine blk_drewN ?_ _ | refine blk_drew ?_ | refine blk_alloc ?_ _)); exact BK101.out⟩, ⟨by (with_reducible repeat (first | refine blk_drewN ?_ _ | refine blk_drew ?_ | refine blk_alloc ?_ _)); exact BK108.out⟩, ⟨by (with_reducible repeat (first | refine blk_drewN ?_ _ | refine blk_drew ?_ | refine blk_alloc ?_ _)); exact BK113.out⟩, ⟨by (with_reducible repeat (first | refine blk_drewN ?_ _ | refine blk_drew ?_ | refine blk_alloc ?_ _)); exact BK120.out⟩, ⟨by (with_reducible repeat (first | refine blk_drewN ?_ _ | refine blk_drew ?_ | refine blk_alloc ?_ _)); exact BK125.out⟩, ⟨by repeat (first | (with_reducible first | exact HB.out | apply below_alloc | apply pw_below_drewN | apply below_drew1 | refine below_set ?_ GE101.out | refine below_set ?_ GE108.out | refine below_set ?_ GE113.out | refine below_set ?_ GE120.out | refine below_set ?_ GE125.out) | exact HB.out)⟩⟩
                                · replace c104 := Bool.eq_false_iff.mpr c104
                                  subst c104
                                  have H1 : (tabardlaw7_DecimalNears.j4 k4 a1 x11_4 true a0_0 a0_1 a0_2 t104 t105 t106 t109 t110 t111) = some r := by rw [if_neg (show ¬ (false = true) by decide)] at H; exact H
                                  clear H
                                  have H := H1
                                  clear H1
                                  have H' := Aside0.mk H
                                  clear H
                                  go_wp2
                                  go_meet
                                  case rel => exact ⟨_, (true), (by first | rfl | (simp; done) | (simp [*]; done)), H', ⟨by have := HJ4.out; have := HJ15.out; have := HJ33.out; have := HK4.out; first | omega | exact Nat.le_refl _⟩, ⟨by (with_reducible repeat (first | refine blk_drewN ?_ _ | refine blk_drew ?_ | refine blk_alloc ?_ _)); exact BK101.out⟩, ⟨by (with_reducible repeat (first | refine blk_drewN ?_ _ | refine blk_drew ?_ | refine blk_alloc ?_ _)); exact BK108.out⟩, ⟨by (with_reducible repeat (first | refine blk_drewN ?_ _ | refine blk_drew ?_ | refine blk_alloc ?_ _)); exact BK113.out⟩, ⟨by (with_reducible repeat (first | refine blk_drewN ?_ _ | refine blk_drew ?_ | refine blk_alloc ?_ _)); exact BK120.out⟩, ⟨by (with_reducible repeat (first | refine blk_drewN ?_ _ | refine blk_drew ?_ | refine blk_alloc ?_ _)); exact BK125.out⟩, ⟨by repeat (first | (with_reducible first | exact HB.out | apply below_alloc | apply pw_below_drewN | apply below_drew1 | refine below_set ?_ GE101.out | refine below_set ?_ GE108.out | refine below_set ?_ GE113.out | refine below_set ?_ GE120.out | refine below_set ?_ GE125.out) | exact HB.out)⟩⟩
                              · rw [if_neg c103] at H
                                have c103b0 : (t124 == 0) = false := beq_eq_false_iff_ne.mpr c103
                                have c103b1 : (t124 != 0) = true := bne_iff_ne.mpr c103
                                have H' := Aside0.mk H
                                clear H
                                go_wp2
                                go_meet
                                case rel => exact ⟨_, (true), (by first | rfl | (simp; done) | (simp [*]; done)), H', ⟨by have := HJ4.out; have := HJ15.out; have := HJ33.out; have := HK4.out; first | omega | exact Nat.le_refl _⟩, ⟨by (with_reducible repeat (first | refine blk_drewN ?_ _ | refine blk_drew ?_ | refine blk_alloc ?_ _)); exact BK101.out⟩, ⟨by (with_reducible repeat (first | refine blk_drewN ?_ _ | refine blk_drew ?_ | refine blk_alloc ?_ _)); exact BK108.out⟩, ⟨by (with_reducible repeat (first | refine blk_drewN ?_ _ | refine blk_drew ?_ | refine blk_alloc ?_ _)); exact BK113.out⟩, ⟨by (with_reducible repeat (first | refine blk_drewN ?_ _ | refine blk_drew ?_ | refine blk_alloc ?_ _)); exact BK120.out⟩, ⟨by (with_reducible repeat (first | refine blk_drewN ?_ _ | refine blk_drew ?_ | refine blk_alloc ?_ _)); exact BK125.out⟩, ⟨by repeat (first | (with_reducible first | exact HB.out | apply below_alloc | apply pw_below_drewN | apply below_drew1 | refine below_set ?_ GE101.out | refine below_set ?_ GE108.out | refine below_set ?_ GE113.out | refine below_set ?_ GE120.out | refine below_set ?_ GE125.out) | exact HB.out)⟩⟩
                            · rw [if_neg c102] at H
                              have c102b0 : (t119 == 0) = false := beq_eq_false_iff_ne.mpr c102
                              have c102b1 : (t119 != 0) = true := bne_iff_ne.mpr c102
                              (first | rw [c102b0] | (simp only [i64_w, i32_w]; rw [c102b0]) | skip)
                              have H' := Aside0.mk H
                              clear H
                              go_wp2
                              go_meet
                              case rel => exact ⟨_, (true), (by first | rfl | (simp; done) | (simp [*]; done)), H', ⟨by have := HJ4.out; have := HJ15.out; have := HJ33.out; have := HK4.out; first | omega | exact Nat.le_refl _⟩, ⟨by (with_reducible repeat (first | refine blk_drewN ?_ _ | refine blk_drew ?_ | refine blk_alloc ?_ _)); exact BK101.out⟩, ⟨by (with_reducible repeat (first | refine blk_drewN ?_ _ | refine blk_drew ?_ | refine blk_alloc ?_ _)); exact BK108.out⟩, ⟨by (with_reducible repeat (first | refine blk_drewN ?_ _ | refine blk_drew ?_ | refine blk_alloc ?_ _)); exact BK113.out⟩, ⟨by (with_reducible repeat (first | refine blk_drewN ?_ _ | refine blk_drew ?_ | refine blk_alloc ?_ _)); exact BK120.out⟩, ⟨by (with_reducible repeat (first | refine blk_drewN ?_ _ | refine blk_drew ?_ | refine blk_alloc ?_ _)); exact BK125.out⟩, ⟨by repeat (first | (with_reducible first | exact HB.out | apply below_alloc | apply pw_below_drewN | apply below_drew1 | refine below_set ?_ GE101.out | refine below_set ?_ GE108.out | refine below_set ?_ GE113.out | refine below_set ?_ GE120.out | refine below_set ?_ GE125.out) | exact HB.out)⟩⟩
                          case rest =>
                            clear HC83
                            try clear c1
                            try clear c2
                            try clear p2
                            try clear p6
                            try clear c7
                            try clear c8
                            try clear c9
                            try clear c10
                            try clear c11
                            try clear c12
                            try clear c13
                            try clear c14
                            try clear c15
                            try clear c16
                            try clear c17
                            try clear c18
                            try clear c19
                            try clear c20
                            try clear c21
                            try clear p64
                            try clear c79
                            try clear c79b0
                            try clear c84
                            try clear c85
                            try clear c89
                            try clear c90
                            try clear c91
                            try clear c95
                            try clear c96
                            try clear c97
                            try clear c98
                            try clear c102
                            try clear c102b0
                            try clear c102b1
                            try clear c103
                            try clear c103b0
                            try clear c103b1
                            try clear c104
                            try clear c105
                            try clear c105b0
                            try clear c106
                            try clear c107
                            try clear c108
                            try clear c109
                            try clear c111
                            try clear c112
                            try clear c113
                            try clear c115
                            try clear c115b0
                            try clear c116
                            try clear c116b0
                            try clear c117
                            try clear c118
                            try clear c119
                            try clear c120
                            try clear c122
                            try clear c123
                            try clear c124
                            try clear c126
                            try clear c127
                            try clear c129
                            try clear c131
                            try clear c131b0
                            try clear c131b1
                            try clear c132
                            try clear c132b0
                            try clear c133
                            try clear c134
                            try clear c135
                            try clear c136
                            try clear c138
                            try clear c139
                            try clear c140
                            try clear c142
                            try clear c143
                            try clear c145
                            try clear c148
                            try clear c149
                            try clear c150
                            try clear c151
                            try clear c153
                            try clear c154
                            try clear c155
                            try clear c157
                            try clear c158
                            try clear c160
                            try clear c162
                            try clear c163
                            try clear c164
                            try clear c165
                            try clear c167
                            try clear c168
                            try clear c169
                            try clear c171
                            try clear c172
                            try clear c174
                            try clear c176
                            try clear c176b0
                            try clear c176b1
                            try clear c177
                            try clear c177b0
                            try clear c178
                            try clear c179
                            try clear c180
                            try clear c181
                            try clear c183
                            try clear c184
                            try clear c185
                            try clear c187
                            try clear c188
                            try clear c190
                            try clear c192
                            try clear c193
                            try clear c194
                            try clear c195
                            try clear c197
                            try clear c198
                            try clear c199
                            try clear c201
                            try clear c202
                            try clear c204
                            try clear c205
                            try clear c206
                            try clear c207
                            try clear c209
                            try clear c210
                            try clear c211
                            try clear c213
                            try clear c214
                            try clear hcz100_0
                            try clear hcz100_1
                            try clear hcz100_2
                            try clear hcz110_0
                            try clear hcz110_1
                            try clear hcz110_2
                            try clear hcz114_0
                            try clear hcz114_1
                            try clear hcz114_2
                            try clear hcz121_0
                            try clear hcz121_1
                            try clear hcz121_2
                            try clear hcz125_0
                            try clear hcz125_1
                            try clear hcz125_2
                            try clear hcz128_0
                            try clear hcz128_1
                            try clear hcz128_2
                            try clear hcz130_0
                            try clear hcz130_1
                            try clear hcz130_2
                            try clear hcz137_0
                            try clear hcz137_1
                            try clear hcz137_2
                            try clear hcz141_0
                            try clear hcz141_1
                            try clear hcz141_2
                            try clear hcz144_0
                            try clear hcz144_1
                            try clear hcz144_2
                            try clear hcz146_0
                            try clear hcz146_1
                            try clear hcz146_2
                            try clear hcz147_0
                            try clear hcz147_1
                            try clear hcz147_2
                            try clear hcz152_0
                            try clear hcz152_1
                            try clear hcz152_2
                            try clear hcz156_0
                            try clear hcz156_1
                            try clear hcz156_2
                            try clear hcz159_0
                            try clear hcz159_1
                            try clear hcz159_2
                            try clear hcz161_0
                            try clear hcz161_1
                            try clear hcz161_2
                            try clear hcz166_0
                            try clear hcz166_1
                            try clear hcz166_2
                            try clear hcz170_0
                            try clear hcz170_1
                            try clear hcz170_2
                            try clear hcz173_0
                            try clear hcz173_1
                            try clear hcz173_2
                            try clear hcz175_0
                            try clear hcz175_1
                            try clear hcz175_2
                            try clear hcz182_0
                            try clear hcz182_1
                            try clear hcz182_2
                            try clear hcz186_0
                            try clear hcz186_1
                            try clear hcz186_2
                            try clear hcz189_0
                            try clear hcz189_1
                            try clear hcz189_2
                            try clear hcz191_0
                            try clear hcz191_1
                            try clear hcz191_2
                            try clear hcz196_0
                            try clear hcz196_1
                            try clear hcz196_2
                            try clear hcz200_0
                            try clear hcz200_1
                            try clear hcz200_2
                            try clear hcz203_0
                            try clear hcz203_1
                            try clear hcz203_2
                            try clear hcz208_0
                            try clear hcz208_1
                            try clear hcz208_2
                            try clear hcz212_0
                            try clear hcz212_1
                            try clear hcz212_2
                            try clear hcz215_0
                            try clear hcz215_1
                            try clear hcz215_2
                            try clear hcz72_2
                            try clear hcz73_0
                            try clear hcz73_1
                            try clear hcz73_2
                            try clear hcz75_0
                            try clear hcz75_1
                            try clear hcz75_2
                            try clear hcz76_0
                            try clear hcz76_1
                            try clear hcz76_2
                            try clear hcz77_0
                            try clear hcz77_1
                            try clear hcz77_2
                            try clear hcz86_0
                            try clear hcz86_1
                            try clear hcz86_2
                            try clear hcz8_0
                            try clear hcz8_1
                            try clear hcz8_2
                            try clear hcz92_0
                            try clear hcz92_1
                            try clear hcz92_2
                            try clear hcz99_0
                            try clear hcz99_1
                            try clear hcz99_2
                            try clear hfz100_0
                            try clear hfz100_1
                            try clear hfz100_2
                            try clear hfz110_0
                            try clear hfz110_1
                            try clear hfz110_2
                            try clear hfz114_0
                            try clear hfz114_1
                            try clear hfz114_2
                            try clear hfz121_0
                            try clear hfz121_1
                            try clear hfz121_2
                            try clear hfz125_0
                            try clear hfz125_1
                            try clear hfz125_2
                            try clear hfz128_0
                            try clear hfz128_1
                            try clear hfz128_2
                            try clear hfz130_0
                            try clear hfz130_1
                            try clear hfz130_2
                            try clear hfz137_0
                            try clear hfz137_1
                            try clear hfz137_2
                            try clear hfz141_0
                            try clear hfz141_1
                            try clear hfz141_2
                            try clear hfz144_0
                            try clear hfz144_1
                            try clear hfz144_2
                            try clear hfz146_0
                            try clear hfz146_1
                            try clear hfz146_2
                            try clear hfz147_0
                            try clear hfz147_1
                            try clear hfz147_2
                            try clear hfz152_0
                            try clear hfz152_1
                            try clear hfz152_2
                            try clear hfz156_0
                            try clear hfz156_1
                            try clear hfz156_2
                            try clear hfz159_0
                            try clear hfz159_1
                            try clear hfz159_2
                            try clear hfz161_0
                            try clear hfz161_1
                            try clear hfz161_2
                            try clear hfz166_0
                            try clear hfz166_1
                            try clear hfz166_2
                            try clear hfz170_0
                            try clear hfz170_1
                            try clear hfz170_2
                            try clear hfz173_0
                            try clear hfz173_1
                            try clear hfz173_2
                            try clear hfz175_0
                            try clear hfz175_1
                            try clear hfz175_2
                            try clear hfz17_0
                            try clear hfz17_1
                            try clear hfz17_2
                            try clear hfz182_0
                            try clear hfz182_1
                            try clear hfz182_2
                            try clear hfz186_0
                            try clear hfz186_1
                            try clear hfz186_2
                            try clear hfz189_0
                            try clear hfz189_1
                            try clear hfz189_2
                            try clear hfz191_0
                            try clear hfz191_1
                            try clear hfz191_2
                            try clear hfz196_0
                            try clear hfz196_1
                            try clear hfz196_2
                            try clear hfz200_0
                            try clear hfz200_1
                            try clear hfz200_2
                            try clear hfz203_0
                            try clear hfz203_1
                            try clear hfz203_2
                            try clear hfz208_0
                            try clear hfz208_1
                            try clear hfz208_2
                            try clear hfz212_0
                            try clear hfz212_1
                            try clear hfz212_2
                            try clear hfz215_0
                            try clear hfz215_1
                            try clear hfz215_2
                            try clear hfz21_0
                            try clear hfz21_1
                            try clear hfz21_2
                            try clear hfz22_0
                            try clear hfz22_1
                            try clear hfz22_2
                            try clear hfz27_0
                            try clear hfz27_1
                            try clear hfz27_2
                            try clear hfz33_0
                            try clear hfz33_1
                            try clear hfz33_2
                            try clear hfz39_0
                            try clear hfz39_1
                            try clear hfz39_2
                            try clear hfz41_0
                            try clear hfz41_1
                            try clear hfz41_2
                            try clear hfz47_0
                            try clear hfz47_1
                            try clear hfz47_2
                            try clear hfz49_0
                            try clear hfz49_1
                            try clear hfz49_2
                            try clear hfz51_0
                            try clear hfz51_1
                            try clear hfz51_2
                            try clear hfz52_0
                            try clear hfz52_1
                            try clear hfz52_2
                            try clear hfz57_0
                            try clear hfz57_1
                            try clear hfz57_2
                            try clear hfz59_0
                            try clear hfz59_1
                            try clear hfz59_2
                            try clear hfz61_0
                            try clear hfz61_1
                            try clear hfz61_2
                            try clear hfz62_0
                            try clear hfz62_1
                            try clear hfz62_2
                            try clear hfz64_0
                            try clear hfz64_1
                            try clear hfz64_2
                            try clear hfz65_0
                            try clear hfz65_1
                            try clear hfz65_2
                            try clear hfz68_0
                            try clear hfz68_1
                            try clear hfz68_2
                            try clear hfz70_0
                            try clear hfz70_1
                            try clear hfz70_2
                            try clear hfz72_0
                            try clear hfz72_1
                            try clear hfz72_2
                            try clear hfz73_0
                            try clear hfz73_1
                            try clear hfz73_2
                            try clear hfz75_0
                            try clear hfz75_1
                            try clear hfz75_2
                            try clear hfz76_0
                            try clear hfz76_1
                            try clear hfz76_2
                            try clear hfz77_0
                            try clear hfz77_1
                            try clear hfz77_2
                            try clear hfz86_0
                            try clear hfz86_1
                            try clear hfz86_2
                            try clear hfz8_0
                            try clear hfz8_1
                            try clear hfz8_2
                            try clear hfz92_0
                            try clear hfz92_1
                            try clear hfz92_2
                            try clear hfz99_0
                            try clear hfz99_1
                            try clear hfz99_2
                            try clear p2
                            obtain ⟨kq, x151_82, rfl, HA, HJ82, BK101, BK108, BK113, BK120, BK125, HB⟩ := hcut
                            cases kq with
                            | zero => exact absurd HA.out (by simp [tabardlaw7_DecimalNears.j4])
                            | succ kj82 =>
                              have H := HA.out
                              clear HA
                              simp only [tabardlaw7_DecimalNears.j4] at H
                              by_cases c216 : x151_82 = true
                              · subst c216
                                have H1 : (some false) = some r := by rw [if_pos rfl] at H; exact H
                                clear H
                                have H := H1
                                clear H1
                                obtain rfl := Option.some.inj H
                                go_wp2
                                go_ret
                                exact ⟨by first | rfl | (simp [errW_none, errW_some] <;> rfl) | (simp [*, errW_none, errW_some] <;> rfl), by repeat (first | (with_reducible first | exact HB.out | apply below_alloc | apply pw_below_drewN | apply below_drew1 | refine below_set ?_ GE101.out | refine below_set ?_ GE108.out | refine below_set ?_ GE113.out | refine below_set ?_ GE120.out | refine below_set ?_ GE125.out) | exact HB.out)⟩
                              · replace c216 := Bool.eq_false_iff.mpr c216
                                subst c216
                                have H1 : (tabardlaw7_DecimalNears.l0 kj82 a1 (wrap64 (x11_4 + 1)) a0_0 a0_1 a0_2 t104 t105 t106 t109 t110 t111) = some r := by rw [if_neg (show ¬ (false = true) by decide)] at H; exact H
                                clear H
                                have H := H1
                                clear H1
                                have H' := Aside0.mk H
                                clear H
                                go_wp2
                                go_roundg kj82
                                case measure => have := HJ4.out; have := HJ15.out; have := HJ33.out; have := HK4.out; have := HJ82.out; omega
                                case rel => exact ⟨(wrap64 (x11_4 + 1)), (by first | rfl | (simp; done) | (simp [*]; done)), H', ⟨by have := HJ4.out; have := HJ15.out; have := HJ33.out; have := HK4.out; have := HJ82.out; omega⟩, ⟨by (with_reducible repeat (first | refine blk_drewN ?_ _ | refine blk_drew ?_ | refine blk_alloc ?_ _)); exact BK101.out⟩, ⟨by (with_reducible repeat (first | refine blk_drewN ?_ _ | refine blk_drew ?_ | refine blk_alloc ?_ _)); exact BK108.out⟩, ⟨by (with_reducible repeat (first | refine blk_drewN ?_ _ | refine blk_drew ?_ | refine blk_alloc ?_ _)); exact BK113.out⟩, ⟨by repeat (first | (with_reducible first | exact HB.out | apply below_alloc | apply pw_below_drewN | apply below_drew1 | refine below_set ?_ GE101.out | refine below_set ?_ GE108.out | refine below_set ?_ GE113.out | refine below_set ?_ GE120.out | refine below_set ?_ GE125.out) | exact HB.out)⟩⟩
                        · rw [if_neg c79] at H
                          have c79b0 : decide (x11_4 < 6) = false := decide_eq_false c79
                          clear c79
                          replace H := Option.bind_eq_some_iff.mp H
                          obtain ⟨⟨t127, t128, t129, t130⟩, A2170, H⟩ := H
                          replace H : (if t130 = 0 then (if (t128.size : Int) ≤ (wrap64 (1 + (wrap64 ((a0_1.size : Int) / 2)))) then (some (t127 == a0_0)) else (some false)) else (some true)) = some r := H
                          have A217 := Aside0.mk A2170
                          clear A2170
                          by_cases c218 : t130 = 0
                          · rw [if_pos c218] at H
                            have c218b0 : (t130 == 0) = true := beq_iff_eq.mpr c218
                            have c218b1 : (t130 != 0) = false := bne_eq_false_iff_eq.mpr c218
                            clear c218
                            by_cases c219 : (t128.size : Int) ≤ (wrap64 (1 + (wrap64 ((a0_1.size : Int) / 2))))
                            · rw [if_pos c219] at H
                              have c219b0 : decide ((t128.size : Int) ≤ (wrap64 (1 + (wrap64 ((a0_1.size : Int) / 2))))) = true := decide_eq_true c219
                              clear c219
                              obtain rfl := Option.some.inj H
                              have hnb220 := NB101_108.out
                              have hnc220 := NB108_101.out
                              have hnb221 := NB101_113.out
                              have hnc221 := NB113_101.out
                              have hcz222_0 : wr.cell? ⟨gb101, 0, none⟩ = some (.bool a0_0) := (blk_cell BK101.out 0).trans rfl
                              have hcz222_1 : wr.cell? ⟨gb101, 1, none⟩ = some (.string a0_1) := (blk_cell BK101.out 1).trans rfl
                              have hcz222_2 : wr.cell? ⟨gb101, 2, none⟩ = some (.int .i64 a0_2) := (blk_cell BK101.out 2).trans rfl
                              have hfz222_0 := blk_frozen BK101.out 0
                              have hfz222_1 := blk_frozen BK101.out 1
                              have hfz222_2 := blk_frozen BK101.out 2
                              go_wp2_with (first | ((with_reducible refine gate_callee (f := 9) rfl ?_); refine goesL_ (some 160) rfl rfl Tryd.func9 (by kernel_rfl) rfl #[.agg #[.bool a0_0, .string a0_1, .int .i64 a0_2], .int .i64 (wrap64 (1 + (wrap64 ((a0_1.size : Int) / 2)))), .int .i64 0] rfl (by (try simp only [List.map_toArray, List.map_cons, List.map_nil]); first | done | rfl | (simp only [List.length_drop, List.length_take]; rfl)) ?_; (with_reducible refine (decimal_Sig.calls k4 a0_0 a0_1 a0_2 (wrap64 (1 + (wrap64 ((a0_1.size : Int) / 2)))) 0 t127 t128 t129 t130 _ A217.out).mono ?_); rintro e w223 ⟨rfl, hb⟩; refine ⟨_, rfl, ?_⟩; have n0_ := Aside0.mk (blk_below (g := gb101) (o := .cells #[.bool a0_0, .string a0_1, .int .i64 a0_2] 23 (0, 0)) (by (with_reducible repeat (first | refine blk_drewN ?_ _ | refine blk_drew ?_ | refine blk_alloc ?_ _)); exact BK101.out) hb); have n1_ := Aside0.mk (blk_below (g := gb108) (o := .cells #[.bool t104, .string t105, .int .i64 t106] 23 (0, 0)) (by (with_reducible repeat (first | refine blk_drewN ?_ _ | refine blk_drew ?_ | refine blk_alloc ?_ _)); exact BK108.out) hb); have n2_ := Aside0.mk (blk_below (g := gb113) (o := .cells #[.bool t109, .string t110, .int .i64 t111] 23 (0, 0)) (by (with_reducible repeat (first | refine blk_drewN ?_ _ | refine blk_drew ?_ | refine blk_alloc ?_ _)); exact BK113.out) hb); have n3_ := Aside0.mk (below_step (by repeat (first | (with_reducible first | exact HB.out | apply below_alloc | apply pw_below_drewN | apply below_drew1 | refine below_set ?_ GE101.out | refine below_set ?_ GE108.out | refine below_set ?_ GE113.out) | exact HB.out)) hb); clear BK101; clear BK108; clear BK113; clear HB; have BK101 := n0_; have BK108 := n1_; have BK113 := n2_; have HB := n3_; clear n0_ n1_ n2_ n3_; (try clear hb); (try clear hb2); (try clear hk); (try clear hi)) | ((with_reducible refine gate_dst (N := 18) rfl ?_); (try (refine gate_guard (by rfl) ?_; dsimp only)); refine box_event ?hg (N := 18) ?hd (cs := #[.bool false, .string (⟨#[]⟩ : ByteArray), .int .i64 0]) (t := 23) ?hr ?_; (case hd => rfl); (case hg => rfl); (case hr => first | (go_simp; done) | (go_simp; rfl)); intro gb131 hg w224 hbox hb; have n0_ := Aside0.mk (blk_below (g := gb101) (o := .cells #[.bool a0_0, .string a0_1, .int .i64 a0_2] 23 (0, 0)) (by (with_reducible repeat (first | refine blk_drewN ?_ _ | refine blk_drew ?_ | refine blk_alloc ?_ _)); exact BK101.out) hb); have n1_ := Aside0.mk (blk_below (g := gb108) (o := .cells #[.bool t104, .string t105, .int .i64 t106] 23 (0, 0)) (by (with_reducible repeat (first | refine blk_drewN ?_ _ | refine blk_drew ?_ | refine blk_alloc ?_ _)); exact BK108.out) hb); have n2_ := Aside0.mk (blk_below (g := gb113) (o := .cells #[.bool t109, .string t110, .int .i64 t111] 23 (0, 0)) (by (with_reducible repeat (first | refine blk_drewN ?_ _ | refine blk_drew ?_ | refine blk_alloc ?_ _)); exact BK113.out) hb); have n3_ := Aside0.mk (below_step (by repeat (first | (with_reducible first | exact HB.out | apply below_alloc | apply pw_below_drewN | apply below_drew1 | refine below_set ?_ GE101.out | refine below_set ?_ GE108.out | refine below_set ?_ GE113.out) | exact HB.out)) hb); have n4_ := Aside0.mk (hbox); have n5_ := Aside0.mk ((by rw [hg]; exact (below_size (by repeat (first | (with_reducible first | exact HB.out | apply below_alloc | apply pw_below_drewN | apply below_drew1 | refine below_set ?_ GE101.out | refine below_set ?_ GE108.out | refine below_set ?_ GE113.out) | exact HB.out))) : w.heap.size ≤ gb131)); have n6_ := Aside0.mk ((by rw [hg]; exact (below_size (by repeat (first | (with_reducible first | exact HB.out | apply below_alloc | apply pw_below_drewN | apply below_drew1 | refine below_set ?_ GE101.out | refine below_set ?_ GE108.out | refine below_set ?_ GE113.out) | exact HB.out))) : w.heap.size ≤ gb131)); have n7_ := Aside0.mk ((by rw [hg]; exact Nat.ne_of_lt (blk_lt (g := gb101) (o := .cells #[.bool a0_0, .string a0_1, .int .i64 a0_2] 23 (0, 0)) (by (with_reducible repeat (first | refine blk_drewN ?_ _ | refine blk_drew ?_ | refine blk_alloc ?_ _)); exact BK101.out)) : gb101 ≠ gb131)); have n8_ := Aside0.mk ((by rw [hg]; exact Nat.ne_of_gt (blk_lt (g := gb101) (o := .cells #[.bool a0_0, .string a0_1, .int .i64 a0_2] 23 (0, 0)) (by (with_reducible repeat (first | refine blk_drewN ?_ _ | refine blk_drew ?_ | refine blk_alloc ?_ _)); exact BK101.out)) : gb131 ≠ gb101)); have n9_ := Aside0.mk ((by rw [hg]; exact Nat.ne_of_lt (blk_lt (g := gb108) (o := .cells #[.bool t104, .string t105, .int .i64 t106] 23 (0, 0)) (by (with_reducible repeat (first | refine blk_drewN ?_ _ | refine blk_drew ?_ | refine blk_alloc ?_ _)); exact BK108.out)) : gb108 ≠ gb131)); have n10_ := Aside0.mk ((by rw [hg]; exact Nat.ne_of_gt (blk_lt (g := gb108) (o := .cells #[.bool t104, .string t105, .int .i64 t106] 23 (0, 0)) (by (with_reducible repeat (first | refine blk_drewN ?_ _ | refine blk_drew ?_ | refine blk_alloc ?_ _)); exact BK108.out)) : gb131 ≠ gb108)); have n11_ := Aside0.mk ((by rw [hg]; exact Nat.ne_of_lt (blk_lt (g := gb113) (o := .cells #[.bool t109, .string t110, .int .i64 t111] 23 (0, 0)) (by (with_reducible repeat (first | refine blk_drewN ?_ _ | refine blk_drew ?_ | refine blk_alloc ?_ _)); exact BK113.out)) : gb113 ≠ gb131)); have n12_ := Aside0.mk ((by rw [hg]; exact Nat.ne_of_gt (blk_lt (g := gb113) (o := .cells #[.bool t109, .string t110, .int .i64 t111] 23 (0, 0)) (by (with_reducible repeat (first | refine blk_drewN ?_ _ | refine blk_drew ?_ | refine blk_alloc ?_ _)); exact BK113.out)) : gb131 ≠ gb113)); clear BK101; clear BK108; clear BK113; clear HB; have BK101 := n0_; have BK108 := n1_; have BK113 := n2_; have HB := n3_; have BK131 := n4_; have GW131 := n5_; have GE131 := n6_; have NB101_131 := n7_; have NB131_101 := n8_; have NB108_131 := n9_; have NB131_108 := n10_; have NB113_131 := n11_; have NB131_113 := n12_; clear n0_ n1_ n2_ n3_ n4_ n5_ n6_ n7_ n8_ n9_ n10_ n11_ n12_; clear hb hbox hg; have hnb225 := NB131_101.out; have hnc225 := NB101_131.out; have hnb226 := NB131_108.out; have hnc226 := NB108_131.out; have hnb227 := NB131_113.out; have hnc227 := NB113_131.out; have hcz228_0 : w224.cell? ⟨gb131, 0, none⟩ = some (.bool false) := (blk_cell BK131.out 0).trans rfl; have hcz228_1 : w224.cell? ⟨gb131, 1, none⟩ = some (.string (⟨#[]⟩ : ByteArray)) := (blk_cell BK131.out 1).trans rfl; have hcz228_2 : w224.cell? ⟨gb131, 2, none⟩ = some (.int .i64 0) := (blk_cell BK131.out 2).trans rfl; have hfz228_0 := blk_frozen BK131.out 0; have hfz228_1 := blk_frozen BK131.out 1; have hfz228_2 := blk_frozen BK131.out 2; have hcz229_0 : w224.cell? ⟨gb101, 0, none⟩ = some (.bool a0_0) := (blk_cell BK101.out 0).trans rfl; have hcz229_1 : w224.cell? ⟨gb101, 1, none⟩ = some (.string a0_1) := (blk_cell BK101.out 1).trans rfl; have hcz229_2 : w224.cell? ⟨gb101, 2, none⟩ = some (.int .i64 a0_2) := (blk_cell BK101.out 2).trans rfl; have hfz229_0 := blk_frozen BK101.out 0; have hfz229_1 := blk_frozen BK101.out 1; have hfz229_2 := blk_frozen BK101.out 2))
                              go_ret
                              exact ⟨by first | rfl | (simp [errW_none, errW_some] <;> rfl) | (simp [*, errW_none, errW_some] <;> rfl), by repeat (first | (with_reducible first | exact HB.out | apply below_alloc | apply pw_below_drewN | apply below_drew1 | refine below_set ?_ GE101.out | refine below_set ?_ GE108.out | refine below_set ?_ GE113.out | refine below_set ?_ GE131.out) | exact HB.out)⟩
                            · rw [if_neg c219] at H
                              have c219b0 : decide ((t128.size : Int) ≤ (wrap64 (1 + (wrap64 ((a0_1.size : Int) / 2))))) = false := decide_eq_false c219
                              clear c219
                              obtain rfl := Option.some.inj H
                              have hnb230 := NB101_108.out
                              have hnc230 := NB108_101.out
                              have hnb231 := NB101_113.out
                              have hnc231 := NB113_101.out
                              have hcz232_0 : wr.cell? ⟨gb101, 0, none⟩ = some (.bool a0_0) := (blk_cell BK101.out 0).trans rfl
                              have hcz232_1 : wr.cell? ⟨gb101, 1, none⟩ = some (.string a0_1) := (blk_cell BK101.out 1).trans rfl
                              have hcz232_2 : wr.cell? ⟨gb101, 2, none⟩ = some (.int .i64 a0_2) := (blk_cell BK101.out 2).trans rfl
                              have hfz232_0 := blk_frozen BK101.out 0
                              have hfz232_1 := blk_frozen BK101.out 1
                              have hfz232_2 := blk_frozen BK101.out 2
                              go_wp2_with (first | ((with_reducible refine gate_callee (f := 9) rfl ?_); refine goesL_ (some 160) rfl rfl Tryd.func9 (by kernel_rfl) rfl #[.agg #[.bool a0_0, .string a0_1, .int .i64 a0_2], .int .i64 (wrap64 (1 + (wrap64 ((a0_1.size : Int) / 2)))), .int .i64 0] rfl (by (try simp only [List.map_toArray, List.map_cons, List.map_nil]); first | done | rfl | (simp only [List.length_drop, List.length_take]; rfl)) ?_; (with_reducible refine (decimal_Sig.calls k4 a0_0 a0_1 a0_2 (wrap64 (1 + (wrap64 ((a0_1.size : Int) / 2)))) 0 t127 t128 t129 t130 _ A217.out).mono ?_); rintro e w233 ⟨rfl, hb⟩; refine ⟨_, rfl, ?_⟩; have n0_ := Aside0.mk (blk_below (g := gb101) (o := .cells #[.bool a0_0, .string a0_1, .int .i64 a0_2] 23 (0, 0)) (by (with_reducible repeat (first | refine blk_drewN ?_ _ | refine blk_drew ?_ | refine blk_alloc ?_ _)); exact BK101.out) hb); have n1_ := Aside0.mk (blk_below (g := gb108) (o := .cells #[.bool t104, .string t105, .int .i64 t106] 23 (0, 0)) (by (with_reducible repeat (first | refine blk_drewN ?_ _ | refine blk_drew ?_ | refine blk_alloc ?_ _)); exact BK108.out) hb); have n2_ := Aside0.mk (blk_below (g := gb113) (o := .cells #[.bool t109, .string t110, .int .i64 t111] 23 (0, 0)) (by (with_reducible repeat (first | refine blk_drewN ?_ _ | refine blk_drew ?_ | refine blk_alloc ?_ _)); exact BK113.out) hb); have n3_ := Aside0.mk (below_step (by repeat (first | (with_reducible first | exact HB.out | apply below_alloc | apply pw_below_drewN | apply below_drew1 | refine below_set ?_ GE101.out | refine below_set ?_ GE108.out | refine below_set ?_ GE113.out) | exact HB.out)) hb); clear BK101; clear BK108; clear BK113; clear HB; have BK101 := n0_; have BK108 := n1_; have BK113 := n2_; have HB := n3_; clear n0_ n1_ n2_ n3_; (try clear hb); (try clear hb2); (try clear hk); (try clear hi)) | ((with_reducible refine gate_dst (N := 18) rfl ?_); (try (refine gate_guard (by rfl) ?_; dsimp only)); refine box_event ?hg (N := 18) ?hd (cs := #[.bool false, .string (⟨#[]⟩ : ByteArray), .int .i64 0]) (t := 23) ?hr ?_; (case hd => rfl); (case hg => rfl); (case hr => first | (go_simp; done) | (go_simp; rfl)); intro gb131 hg w234 hbox hb; have n0_ := Aside0.mk (blk_below (g := gb101) (o := .cells #[.bool a0_0, .string a0_1, .int .i64 a0_2] 23 (0, 0)) (by (with_reducible repeat (first | refine blk_drewN ?_ _ | refine blk_drew ?_ | refine blk_alloc ?_ _)); exact BK101.out) hb); have n1_ := Aside0.mk (blk_below (g := gb108) (o := .cells #[.bool t104, .string t105, .int .i64 t106] 23 (0, 0)) (by (with_reducible repeat (first | refine blk_drewN ?_ _ | refine blk_drew ?_ | refine blk_alloc ?_ _)); exact BK108.out) hb); have n2_ := Aside0.mk (blk_below (g := gb113) (o := .cells #[.bool t109, .string t110, .int .i64 t111] 23 (0, 0)) (by (with_reducible repeat (first | refine blk_drewN ?_ _ | refine blk_drew ?_ | refine blk_alloc ?_ _)); exact BK113.out) hb); have n3_ := Aside0.mk (below_step (by repeat (first | (with_reducible first | exact HB.out | apply below_alloc | apply pw_below_drewN | apply below_drew1 | refine below_set ?_ GE101.out | refine below_set ?_ GE108.out | refine below_set ?_ GE113.out) | exact HB.out)) hb); have n4_ := Aside0.mk (hbox); have n5_ := Aside0.mk ((by rw [hg]; exact (below_size (by repeat (first | (with_reducible first | exact HB.out | apply below_alloc | apply pw_below_drewN | apply below_drew1 | refine below_set ?_ GE101.out | refine below_set ?_ GE108.out | refine below_set ?_ GE113.out) | exact HB.out))) : w.heap.size ≤ gb131)); have n6_ := Aside0.mk ((by rw [hg]; exact (below_size (by repeat (first | (with_reducible first | exact HB.out | apply below_alloc | apply pw_below_drewN | apply below_drew1 | refine below_set ?_ GE101.out | refine below_set ?_ GE108.out | refine below_set ?_ GE113.out) | exact HB.out))) : w.heap.size ≤ gb131)); have n7_ := Aside0.mk ((by rw [hg]; exact Nat.ne_of_lt (blk_lt (g := gb101) (o := .cells #[.bool a0_0, .string a0_1, .int .i64 a0_2] 23 (0, 0)) (by (with_reducible repeat (first | refine blk_drewN ?_ _ | refine blk_drew ?_ | refine blk_alloc ?_ _)); exact BK101.out)) : gb101 ≠ gb131)); have n8_ := Aside0.mk ((by rw [hg]; exact Nat.ne_of_gt (blk_lt (g := gb101) (o := .cells #[.bool a0_0, .string a0_1, .int .i64 a0_2] 23 (0, 0)) (by (with_reducible repeat (first | refine blk_drewN ?_ _ | refine blk_drew ?_ | refine blk_alloc ?_ _)); exact BK101.out)) : gb131 ≠ gb101)); have n9_ := Aside0.mk ((by rw [hg]; exact Nat.ne_of_lt (blk_lt (g := gb108) (o := .cells #[.bool t104, .string t105, .int .i64 t106] 23 (0, 0)) (by (with_reducible repeat (first | refine blk_drewN ?_ _ | refine blk_drew ?_ | refine blk_alloc ?_ _)); exact BK108.out)) : gb108 ≠ gb131)); have n10_ := Aside0.mk ((by rw [hg]; exact Nat.ne_of_gt (blk_lt (g := gb108) (o := .cells #[.bool t104, .string t105, .int .i64 t106] 23 (0, 0)) (by (with_reducible repeat (first | refine blk_drewN ?_ _ | refine blk_drew ?_ | refine blk_alloc ?_ _)); exact BK108.out)) : gb131 ≠ gb108)); have n11_ := Aside0.mk ((by rw [hg]; exact Nat.ne_of_lt (blk_lt (g := gb113) (o := .cells #[.bool t109, .string t110, .int .i64 t111] 23 (0, 0)) (by (with_reducible repeat (first | refine blk_drewN ?_ _ | refine blk_drew ?_ | refine blk_alloc ?_ _)); exact BK113.out)) : gb113 ≠ gb131)); have n12_ := Aside0.mk ((by rw [hg]; exact Nat.ne_of_gt (blk_lt (g := gb113) (o := .cells #[.bool t109, .string t110, .int .i64 t111] 23 (0, 0)) (by (with_reducible repeat (first | refine blk_drewN ?_ _ | refine blk_drew ?_ | refine blk_alloc ?_ _)); exact BK113.out)) : gb131 ≠ gb113)); clear BK101; clear BK108; clear BK113; clear HB; have BK101 := n0_; have BK108 := n1_; have BK113 := n2_; have HB := n3_; have BK131 := n4_; have GW131 := n5_; have GE131 := n6_; have NB101_131 := n7_; have NB131_101 := n8_; have NB108_131 := n9_; have NB131_108 := n10_; have NB113_131 := n11_; have NB131_113 := n12_; clear n0_ n1_ n2_ n3_ n4_ n5_ n6_ n7_ n8_ n9_ n10_ n11_ n12_; clear hb hbox hg; have hnb235 := NB131_101.out; have hnc235 := NB101_131.out; have hnb236 := NB131_108.out; have hnc236 := NB108_131.out; have hnb237 := NB131_113.out; have hnc237 := NB113_131.out; have hcz238_0 : w234.cell? ⟨gb131, 0, none⟩ = some (.bool false) := (blk_cell BK131.out 0).trans rfl; have hcz238_1 : w234.cell? ⟨gb131, 1, none⟩ = some (.string (⟨#[]⟩ : ByteArray)) := (blk_cell BK131.out 1).trans rfl; have hcz238_2 : w234.cell? ⟨gb131, 2, none⟩ = some (.int .i64 0) := (blk_cell BK131.out 2).trans rfl; have hfz238_0 := blk_frozen BK131.out 0; have hfz238_1 := blk_frozen BK131.out 1; have hfz238_2 := blk_frozen BK131.out 2))
                              go_ret
                              exact ⟨by first | rfl | (simp [errW_none, errW_some] <;> rfl) | (simp [*, errW_none, errW_some] <;> rfl), by repeat (first | (with_reducible first | exact HB.out | apply below_alloc | apply pw_below_drewN | apply below_drew1 | refine below_set ?_ GE101.out | refine below_set ?_ GE108.out | refine below_set ?_ GE113.out | refine below_set ?_ GE131.out) | exact HB.out)⟩
                          · rw [if_neg c218] at H
                            have c218b0 : (t130 == 0) = false := beq_eq_false_iff_ne.mpr c218
                            have c218b1 : (t130 != 0) = true := bne_iff_ne.mpr c218
                            obtain rfl := Option.some.inj H
                            have hnb239 := NB101_108.out
                            have hnc239 := NB108_101.out
                            have hnb240 := NB101_113.out
                            have hnc240 := NB113_101.out
                            have hcz241_0 : wr.cell? ⟨gb101, 0, none⟩ = some (.bool a0_0) := (blk_cell BK101.out 0).trans rfl
                            have hcz241_1 : wr.cell? ⟨gb101, 1, none⟩ = some (.string a0_1) := (blk_cell BK101.out 1).trans rfl
                            have hcz241_2 : wr.cell? ⟨gb101, 2, none⟩ = some (.int .i64 a0_2) := (blk_cell BK101.out 2).trans rfl
                            have hfz241_0 := blk_frozen BK101.out 0
                            have hfz241_1 := blk_frozen BK101.out 1
                            have hfz241_2 := blk_frozen BK101.out 2
                            go_wp2_with (first | ((with_reducible refine gate_callee (f := 9) rfl ?_); refine goesL_ (some 160) rfl rfl Tryd.func9 (by kernel_rfl) rfl #[.agg #[.bool a0_0, .string a0_1, .int .i64 a0_2], .int .i64 (wrap64 (1 + (wrap64 ((a0_1.size : Int) / 2)))), .int .i64 0] rfl (by (try simp only [List.map_toArray, List.map_cons, List.map_nil]); first | done | rfl | (simp only [List.length_drop, List.length_take]; rfl)) ?_; (with_reducible refine (decimal_Sig.calls k4 a0_0 a0_1 a0_2 (wrap64 (1 + (wrap64 ((a0_1.size : Int) / 2)))) 0 t127 t128 t129 t130 _ A217.out).mono ?_); rintro e w242 ⟨rfl, hb⟩; refine ⟨_, rfl, ?_⟩; have n0_ := Aside0.mk (blk_below (g := gb101) (o := .cells #[.bool a0_0, .string a0_1, .int .i64 a0_2] 23 (0, 0)) (by (with_reducible repeat (first | refine blk_drewN ?_ _ | refine blk_drew ?_ | refine blk_alloc ?_ _)); exact BK101.out) hb); have n1_ := Aside0.mk (blk_below (g := gb108) (o := .cells #[.bool t104, .string t105, .int .i64 t106] 23 (0, 0)) (by (with_reducible repeat (first | refine blk_drewN ?_ _ | refine blk_drew ?_ | refine blk_alloc ?_ _)); exact BK108.out) hb); have n2_ := Aside0.mk (blk_below (g := gb113) (o := .cells #[.bool t109, .string t110, .int .i64 t111] 23 (0, 0)) (by (with_reducible repeat (first | refine blk_drewN ?_ _ | refine blk_drew ?_ | refine blk_alloc ?_ _)); exact BK113.out) hb); have n3_ := Aside0.mk (below_step (by repeat (first | (with_reducible first | exact HB.out | apply below_alloc | apply pw_below_drewN | apply below_drew1 | refine below_set ?_ GE101.out | refine below_set ?_ GE108.out | refine below_set ?_ GE113.out) | exact HB.out)) hb); clear BK101; clear BK108; clear BK113; clear HB; have BK101 := n0_; have BK108 := n1_; have BK113 := n2_; have HB := n3_; clear n0_ n1_ n2_ n3_; (try clear hb); (try clear hb2); (try clear hk); (try clear hi)) | ((with_reducible refine gate_dst (N := 18) rfl ?_); (try (refine gate_guard (by rfl) ?_; dsimp only)); refine box_event ?hg (N := 18) ?hd (cs := #[.bool false, .string (⟨#[]⟩ : ByteArray), .int .i64 0]) (t := 23) ?hr ?_; (case hd => rfl); (case hg => rfl); (case hr => first | (go_simp; done) | (go_simp; rfl)); intro gb131 hg w243 hbox hb; have n0_ := Aside0.mk (blk_below (g := gb101) (o := .cells #[.bool a0_0, .string a0_1, .int .i64 a0_2] 23 (0, 0)) (by (with_reducible repeat (first | refine blk_drewN ?_ _ | refine blk_drew ?_ | refine blk_alloc ?_ _)); exact BK101.out) hb); have n1_ := Aside0.mk (blk_below (g := gb108) (o := .cells #[.bool t104, .string t105, .int .i64 t106] 23 (0, 0)) (by (with_reducible repeat (first | refine blk_drewN ?_ _ | refine blk_drew ?_ | refine blk_alloc ?_ _)); exact BK108.out) hb); have n2_ := Aside0.mk (blk_below (g := gb113) (o := .cells #[.bool t109, .string t110, .int .i64 t111] 23 (0, 0)) (by (with_reducible repeat (first | refine blk_drewN ?_ _ | refine blk_drew ?_ | refine blk_alloc ?_ _)); exact BK113.out) hb); have n3_ := Aside0.mk (below_step (by repeat (first | (with_reducible first | exact HB.out | apply below_alloc | apply pw_below_drewN | apply below_drew1 | refine below_set ?_ GE101.out | refine below_set ?_ GE108.out | refine below_set ?_ GE113.out) | exact HB.out)) hb); have n4_ := Aside0.mk (hbox); have n5_ := Aside0.mk ((by rw [hg]; exact (below_size (by repeat (first | (with_reducible first | exact HB.out | apply below_alloc | apply pw_below_drewN | apply below_drew1 | refine below_set ?_ GE101.out | refine below_set ?_ GE108.out | refine below_set ?_ GE113.out) | exact HB.out))) : w.heap.size ≤ gb131)); have n6_ := Aside0.mk ((by rw [hg]; exact (below_size (by repeat (first | (with_reducible first | exact HB.out | apply below_alloc | apply pw_below_drewN | apply below_drew1 | refine below_set ?_ GE101.out | refine below_set ?_ GE108.out | refine below_set ?_ GE113.out) | exact HB.out))) : w.heap.size ≤ gb131)); have n7_ := Aside0.mk ((by rw [hg]; exact Nat.ne_of_lt (blk_lt (g := gb101) (o := .cells #[.bool a0_0, .string a0_1, .int .i64 a0_2] 23 (0, 0)) (by (with_reducible repeat (first | refine blk_drewN ?_ _ | refine blk_drew ?_ | refine blk_alloc ?_ _)); exact BK101.out)) : gb101 ≠ gb131)); have n8_ := Aside0.mk ((by rw [hg]; exact Nat.ne_of_gt (blk_lt (g := gb101) (o := .cells #[.bool a0_0, .string a0_1, .int .i64 a0_2] 23 (0, 0)) (by (with_reducible repeat (first | refine blk_drewN ?_ _ | refine blk_drew ?_ | refine blk_alloc ?_ _)); exact BK101.out)) : gb131 ≠ gb101)); have n9_ := Aside0.mk ((by rw [hg]; exact Nat.ne_of_lt (blk_lt (g := gb108) (o := .cells #[.bool t104, .string t105, .int .i64 t106] 23 (0, 0)) (by (with_reducible repeat (first | refine blk_drewN ?_ _ | refine blk_drew ?_ | refine blk_alloc ?_ _)); exact BK108.out)) : gb108 ≠ gb131)); have n10_ := Aside0.mk ((by rw [hg]; exact Nat.ne_of_gt (blk_lt (g := gb108) (o := .cells #[.bool t104, .string t105, .int .i64 t106] 23 (0, 0)) (by (with_reducible repeat (first | refine blk_drewN ?_ _ | refine blk_drew ?_ | refine blk_alloc ?_ _)); exact BK108.out)) : gb131 ≠ gb108)); have n11_ := Aside0.mk ((by rw [hg]; exact Nat.ne_of_lt (blk_lt (g := gb113) (o := .cells #[.bool t109, .string t110, .int .i64 t111] 23 (0, 0)) (by (with_reducible repeat (first | refine blk_drewN ?_ _ | refine blk_drew ?_ | refine blk_alloc ?_ _)); exact BK113.out)) : gb113 ≠ gb131)); have n12_ := Aside0.mk ((by rw [hg]; exact Nat.ne_of_gt (blk_lt (g := gb113) (o := .cells #[.bool t109, .string t110, .int .i64 t111] 23 (0, 0)) (by (with_reducible repeat (first | refine blk_drewN ?_ _ | refine blk_drew ?_ | refine blk_alloc ?_ _)); exact BK113.out)) : gb131 ≠ gb113)); clear BK101; clear BK108; clear BK113; clear HB; have BK101 := n0_; have BK108 := n1_; have BK113 := n2_; have HB := n3_; have BK131 := n4_; have GW131 := n5_; have GE131 := n6_; have NB101_131 := n7_; have NB131_101 := n8_; have NB108_131 := n9_; have NB131_108 := n10_; have NB113_131 := n11_; have NB131_113 := n12_; clear n0_ n1_ n2_ n3_ n4_ n5_ n6_ n7_ n8_ n9_ n10_ n11_ n12_; clear hb hbox hg; have hnb244 := NB131_101.out; have hnc244 := NB101_131.out; have hnb245 := NB131_108.out; have hnc245 := NB108_131.out; have hnb246 := NB131_113.out; have hnc246 := NB113_131.out; have hcz247_0 : w243.cell? ⟨gb131, 0, none⟩ = some (.bool false) := (blk_cell BK131.out 0).trans rfl; have hcz247_1 : w243.cell? ⟨gb131, 1, none⟩ = some (.string (⟨#[]⟩ : ByteArray)) := (blk_cell BK131.out 1).trans rfl; have hcz247_2 : w243.cell? ⟨gb131, 2, none⟩ = some (.int .i64 0) := (blk_cell BK131.out 2).trans rfl; have hfz247_0 := blk_frozen BK131.out 0; have hfz247_1 := blk_frozen BK131.out 1; have hfz247_2 := blk_frozen BK131.out 2))
                            go_ret
                            exact ⟨by first | rfl | (simp [errW_none, errW_some] <;> rfl) | (simp [*, errW_none, errW_some] <;> rfl), by repeat (first | (with_reducible first | exact HB.out | apply below_alloc | apply pw_below_drewN | apply below_drew1 | refine below_set ?_ GE101.out | refine below_set ?_ GE108.out | refine below_set ?_ GE113.out | refine below_set ?_ GE131.out) | exact HB.out)⟩

end Go.Proofs.YtneeeaafhjaooaaDoor.LDecimalNears
