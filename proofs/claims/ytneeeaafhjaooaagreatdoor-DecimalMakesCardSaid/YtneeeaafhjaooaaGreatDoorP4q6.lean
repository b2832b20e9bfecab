-- Printed by a program of this session (wip/tools) over the kit's print: not trusted, Lean checks it.
import Derived.Test.YtneeeaafhjaooaaGreatDoorP0q6
import Derived.Test.YtneeeaafhjaooaaGreatDoorProg
import Derived.Test.YtneeeaafhjaooaaGreatDoorElibq6
import Derived.Test.YtneeeaafhjaooaaGreatDoorShelfq6
import Derived.Test.YtneeeaafhjaooaaGreatDoorP1q6
import Derived.Test.YtneeeaafhjaooaaGreatDoorP3q6
import Derived.Test.YtneeeaafhjaooaaGreatDoorLibsq6
namespace Go.Proofs.YtneeeaafhjaooaaGreatDoor.P
set_option linter.all false
open Go.RowKit Go.Proofs.YtneeeaafhjaooaaGreatDoorW.PrintWords Go.Proofs.YtneeeaafhjaooaaGreatDoorW.PrintLast Go.Proofs.YtneeeaafhjaooaaGreatDoorW.PrintMore
attribute [local go_sem] max2_int min2_int max_two min_two max_three min_three max_four min_four   -- for this text's walks alone
attribute [local go_sem] cell_after
set_option linter.unusedVariables false
set_option linter.unusedSimpArgs false

/-! ### decimal_Place: function 15 -/
def decimal_Place.j0 : Nat → Int → Int → Bool → Bool → ByteArray → Int → Option (Bool × ByteArray × Int × Int)
 | 0,_,_,_,_,_,_ => none
 | k + 1,x1,x2,x27,x159000,x159001,x159002 => if x27 = true then (some (false,(⟨#[]⟩ : ByteArray),0,1)) else ((decimal_Point.f x159000 x159001 x159002).bind fun t161 => (if x159001.toList = ([] : List UInt8) then (some (x159000,x159001,x159002,0)) else (if (wrap64 (t161 + x1)) < (x159001.size : Int) then ((decimal_cut.f k x159000 x159001 x159002 (wrap64 (t161 + x1)) x2).bind fun bt162 => (some (bt162.1,bt162.2.1,bt162.2.2.1,bt162.2.2.2))) else (some (x159000,x159001,x159002,0)))))
def decimal_Place.f (k : Nat) (a0_0 : Bool) (a0_1 : ByteArray) (a0_2 : Int) (a1 : Int) (a2 : Int) : Option (Bool × ByteArray × Int × Int) := (decimal_Right.f a0_0 a0_1 a0_2).bind fun t160 => (if t160 = true then (if a2 < 0 then (decimal_Place.j0 k a1 a2 true a0_0 a0_1 a0_2) else (if a2 > 5 then (decimal_Place.j0 k a1 a2 true a0_0 a0_1 a0_2) else (if a1 < (-100000) then (decimal_Place.j0 k a1 a2 true a0_0 a0_1 a0_2) else (decimal_Place.j0 k a1 a2 (decide (a1 > 100000)) a0_0 a0_1 a0_2)))) else (decimal_Place.j0 k a1 a2 true a0_0 a0_1 a0_2))
set_option maxHeartbeats 8000000 in
set_option maxRecDepth 100000 in
theorem decimal_Place.calls (k : Nat) (a0_0 : Bool) (a0_1 : ByteArray) (a0_2 : Int) (a1 : Int) (a2 : Int) (r1 : Bool) (r2 : ByteArray) (r3 : Int) (r4 : Int) (w : World) (h : decimal_Place.f k a0_0 a0_1 a0_2 a1 a2 = some (r1,r2,r3,r4)) :
  Calls Tryz.prog 15 #[.agg #[.bool a0_0,.string a0_1,.int .i64 a0_2],.int .i64 a1,.int .i64 a2] w fun e w' => e = .returned (.tuple #[.agg #[.bool r1,.string r2,.int .i64 r3],.int .i64 r4]) ∧ Below w.heap.size w w' := by
 have hu23 := Tryz.underlying23
 have HB := Aside0.mk (Below.refl w.heap.size w)
 have H : ((decimal_Right.f a0_0 a0_1 a0_2).bind fun t160 => (if t160 = true then (if a2 < 0 then (decimal_Place.j0 k a1 a2 true a0_0 a0_1 a0_2) else (if a2 > 5 then (decimal_Place.j0 k a1 a2 true a0_0 a0_1 a0_2) else (if a1 < (-100000) then (decimal_Place.j0 k a1 a2 true a0_0 a0_1 a0_2) else (decimal_Place.j0 k a1 a2 (decide (a1 > 100000)) a0_0 a0_1 a0_2)))) else (decimal_Place.j0 k a1 a2 true a0_0 a0_1 a0_2))) = some (r1,r2,r3,r4) := h
 clear h
 have HC4 := Aside0.mk H
 clear H
 go_enter Tryz.func15,Tryz.ntmps15
 go_upto_region 1 with (first | ((with_reducible refine gate_dst (N := 3) rfl ?_);(try (refine gate_guard (by rfl) ?_;dsimp only));refine box_event ?hg (N := 3) ?hd (cs := #[.bool a0_0,.string a0_1,.int .i64 a0_2]) (t := 23) ?hr ?_;(case hd => rfl);(case hg => rfl);(case hr => first | (go_simp;done) | (go_simp;rfl));intro gb158 hg w5 hbox hb;have n0_ := Aside0.mk (below_step (by repeat (first | (with_reducible first | exact HB.out | apply below_alloc | apply pw_below_drewN | apply below_drew1) | exact HB.out)) hb);have n1_ := Aside0.mk (hbox);have n2_ := Aside0.mk ((by rw [hg];exact (below_size (by repeat (first | (with_reducible first | exact HB.out | apply below_alloc | apply pw_below_drewN | apply below_drew1) | exact HB.out))) : w.heap.size ≤ gb158));have n3_ := Aside0.mk ((by rw [hg];exact (below_size (by repeat (first | (with_reducible first | exact HB.out | apply below_alloc | apply pw_below_drewN | apply below_drew1) | exact HB.out))) : w.heap.size ≤ gb158));clear HB;have HB := n0_;have BK158 := n1_;have GW158 := n2_;have GE158 := n3_;clear n0_ n1_ n2_ n3_;clear hb hbox hg) | ((with_reducible refine gate_dst (N := 6) rfl ?_);(try (refine gate_guard (by rfl) ?_;dsimp only));refine box_event ?hg (N := 6) ?hd (cs := #[.bool false,.string (⟨#[]⟩ : ByteArray),.int .i64 0]) (t := 23) ?hr ?_;(case hd => rfl);(case hg => rfl);(case hr => first | (go_simp;done) | (go_simp;rfl));intro gb159 hg w6 hbox hb;have n0_ := Aside0.mk (blk_below (g := gb158) (o := .cells #[.bool a0_0,.string a0_1,.int .i64 a0_2] 23 (0,0)) (by (with_reducible repeat (first | refine blk_drewN ?_ _ | refine blk_drew ?_ | refine blk_alloc ?_ _));exact BK158.out) hb);have n1_ := Aside0.mk (below_step (by repeat (first | (with_reducible first | exact HB.out | apply below_alloc | apply pw_below_drewN | apply below_drew1 | refine below_set ?_ GE158.out) | exact HB.out)) hb);have n2_ := Aside0.mk (hbox);have n3_ := Aside0.mk ((by rw [hg];exact (below_size (by repeat (first | (with_reducible first | exact HB.out | apply below_alloc | apply pw_below_drewN | apply below_drew1 | refine below_set ?_ GE158.out) | exact HB.out))) : w.heap.size ≤ gb159));have n4_ := Aside0.mk ((by rw [hg];exact (below_size (by repeat (first | (with_reducible first | exact HB.out | apply below_alloc | apply pw_below_drewN | apply below_drew1 | refine below_set ?_ GE158.out) | exact HB.out))) : w.heap.size ≤ gb159));have n5_ := Aside0.mk ((by rw [hg];exact Nat.ne_of_lt (blk_lt (g := gb158) (o := .cells #[.bool a0_0,.string a0_1,.int .i64 a0_2] 23 (0,0)) (by (with_reducible repeat (first | refine blk_drewN ?_ _ | refine blk_drew ?_ | refine blk_alloc ?_ _));exact BK158.out)) : gb158 ≠ gb159));have n6_ := Aside0.mk ((by rw [hg];exact Nat.ne_of_gt (blk_lt (g := gb158) (o := .cells #[.bool a0_0,.string a0_1,.int .i64 a0_2] 23 (0,0)) (by (with_reducible repeat (first | refine blk_drewN ?_ _ | refine blk_drew ?_ | refine blk_alloc ?_ _));exact BK158.out)) : gb159 ≠ gb158));clear BK158;clear HB;have BK158 := n0_;have HB := n1_;have BK159 := n2_;have GW159 := n3_;have GE159 := n4_;have NB158_159 := n5_;have NB159_158 := n6_;clear n0_ n1_ n2_ n3_ n4_ n5_ n6_;clear hb hbox hg))
 (try simp only [Act.put,List.setIfInBounds_toArray,List.set_cons_zero,List.set_cons_succ])
 go_cut [27] (fun v27 wc => ∃ (kq : Nat) (x27_3 : Bool),v27 = .bool x27_3 ∧ Aside0 (decimal_Place.j0 kq a1 a2 x27_3 a0_0 a0_1 a0_2 = some (r1,r2,r3,r4)) ∧ Aside0 (kq ≤ k) ∧ Aside0 (wc.heap[gb158]? = some (.cells #[.bool a0_0,.string a0_1,.int .i64 a0_2] 23 (0,0))) ∧ Aside0 (wc.heap[gb159]? = some (.cells #[.bool false,.string (⟨#[]⟩ : ByteArray),.int .i64 0] 23 (0,0))) ∧ Aside0 (Below w.heap.size w wc))
 case first =>
  have H := HC4.out
  clear HC4
  replace H := Option.bind_eq_some_iff.mp H
  obtain ⟨t160,A70,H⟩ := H
  replace H : (if t160 = true then (if a2 < 0 then (decimal_Place.j0 k a1 a2 true a0_0 a0_1 a0_2) else (if a2 > 5 then (decimal_Place.j0 k a1 a2 true a0_0 a0_1 a0_2) else (if a1 < (-100000) then (decimal_Place.j0 k a1 a2 true a0_0 a0_1 a0_2) else (decimal_Place.j0 k a1 a2 (decide (a1 > 100000)) a0_0 a0_1 a0_2)))) else (decimal_Place.j0 k a1 a2 true a0_0 a0_1 a0_2)) = some (r1,r2,r3,r4) := H
  have A7 := Aside0.mk A70
  clear A70
  by_cases c8 : t160 = true
  ·subst c8
   have H1 : (if a2 < 0 then (decimal_Place.j0 k a1 a2 true a0_0 a0_1 a0_2) else (if a2 > 5 then (decimal_Place.j0 k a1 a2 true a0_0 a0_1 a0_2) else (if a1 < (-100000) then (decimal_Place.j0 k a1 a2 true a0_0 a0_1 a0_2) else (decimal_Place.j0 k a1 a2 (decide (a1 > 100000)) a0_0 a0_1 a0_2)))) = some (r1,r2,r3,r4) := by rw [if_pos rfl] at H;exact H
   clear H
   have H := H1
   clear H1
   by_cases c9 : a2 < 0
   ·rw [if_pos c9] at H
    have c9b0 : decide (a2 < 0) = true := decide_eq_true c9
    clear c9
    (first | rw [c9b0] | (simp only [i64_w,i32_w];rw [c9b0]) | skip)
    have H' := Aside0.mk H
    clear H
    have hnb10 := NB158_159.out
    have hnc10 := NB159_158.out
    have hcz11_0 : w6.cell? ⟨gb158,0,none⟩ = some (.bool a0_0) := (blk_cell BK158.out 0).trans rfl
    have hcz11_1 : w6.cell? ⟨gb158,1,none⟩ = some (.string a0_1) := (blk_cell BK158.out 1).trans rfl
    have hcz11_2 : w6.cell? ⟨gb158,2,none⟩ = some (.int .i64 a0_2) := (blk_cell BK158.out 2).trans rfl
    have hfz11_0 := blk_frozen BK158.out 0
    have hfz11_1 := blk_frozen BK158.out 1
    have hfz11_2 := blk_frozen BK158.out 2
    go_wp2_with (first | ((with_reducible refine gate_callee (f := 7) rfl ?_);refine goesL_ (some 10) rfl rfl Tryz.func7 (by kernel_rfl) rfl #[.agg #[.bool a0_0,.string a0_1,.int .i64 a0_2]] rfl (by (try simp only [List.map_toArray,List.map_cons,List.map_nil]);first | done | rfl | (simp only [List.length_drop,List.length_take];rfl)) ?_;(with_reducible refine (decimal_Right.calls a0_0 a0_1 a0_2 true _ A7.out).mono ?_);rintro e w12 ⟨rfl,hb⟩;refine ⟨_,rfl,?_⟩;have n0_ := Aside0.mk (blk_below (g := gb158) (o := .cells #[.bool a0_0,.string a0_1,.int .i64 a0_2] 23 (0,0)) (by (with_reducible repeat (first | refine blk_drewN ?_ _ | refine blk_drew ?_ | refine blk_alloc ?_ _));exact BK158.out) hb);have n1_ := Aside0.mk (blk_below (g := gb159) (o := .cells #[.bool false,.string (⟨#[]⟩ : ByteArray),.int .i64 0] 23 (0,0)) (by (with_reducible repeat (first | refine blk_drewN ?_ _ | refine blk_drew ?_ | refine blk_alloc ?_ _));exact BK159.out) hb);have n2_ := Aside0.mk (below_step (by repeat (first | (with_reducible first | exact HB.out | apply below_alloc | apply pw_below_drewN | apply below_drew1 | refine below_set ?_ GE158.out | refine below_set ?_ GE159.out) | exact HB.out)) hb);clear BK158;clear BK159;clear HB;have BK158 := n0_;have BK159 := n1_;have HB := n2_;clear n0_ n1_ n2_;(try clear hb);(try clear hb2);(try clear hk);(try clear hi)))
    go_meet
    case rel => exact ⟨_,(true),(by first | rfl | (simp;done) | (simp [*];done)),H',⟨by first | omega | exact Nat.le_refl _⟩,⟨by (with_reducible repeat (first | refine blk_drewN ?_ _ | refine blk_drew ?_ | refine blk_alloc ?_ _));exact BK158.out⟩,⟨by (with_reducible repeat (first | refine blk_drewN ?_ _ | refine blk_drew ?_ | refine blk_alloc ?_ _));exact BK159.out⟩,⟨by repeat (first | (with_reducible first | exact HB.out | apply below_alloc | apply pw_below_drewN | apply below_drew1 | refine below_set ?_ GE158.out | refine below_set ?_ GE159.out) | exact HB.out)⟩⟩
   ·rw [if_neg c9] at H
    have c9b0 : decide (a2 < 0) = false := decide_eq_false c9
    clear c9
    (first | rw [c9b0] | (simp only [i64_w,i32_w];rw [c9b0]) | skip)
    by_cases c13 : a2 > 5
    ·rw [if_pos c13] at H
     have c13b0 : decide (5 < a2) = true := decide_eq_true c13
     clear c13
     have H' := Aside0.mk H
     clear H
     have hnb14 := NB158_159.out
     have hnc14 := NB159_158.out
     have hcz15_0 : w6.cell? ⟨gb158,0,none⟩ = some (.bool a0_0) := (blk_cell BK158.out 0).trans rfl
     have hcz15_1 : w6.cell? ⟨gb158,1,none⟩ = some (.string a0_1) := (blk_cell BK158.out 1).trans rfl
     have hcz15_2 : w6.cell? ⟨gb158,2,none⟩ = some (.int .i64 a0_2) := (blk_cell BK158.out 2).trans rfl
     have hfz15_0 := blk_frozen BK158.out 0
     have hfz15_1 := blk_frozen BK158.out 1
     have hfz15_2 := blk_frozen BK158.out 2
     go_wp2_with (first | ((with_reducible refine gate_callee (f := 7) rfl ?_);refine goesL_ (some 10) rfl rfl Tryz.func7 (by kernel_rfl) rfl #[.agg #[.bool a0_0,.string a0_1,.int .i64 a0_2]] rfl (by (try simp only [List.map_toArray,List.map_cons,List.map_nil]);first | done | rfl | (simp only [List.length_drop,List.length_take];rfl)) ?_;(with_reducible refine (decimal_Right.calls a0_0 a0_1 a0_2 true _ A7.out).mono ?_);rintro e w16 ⟨rfl,hb⟩;refine ⟨_,rfl,?_⟩;have n0_ := Aside0.mk (blk_below (g := gb158) (o := .cells #[.bool a0_0,.string a0_1,.int .i64 a0_2] 23 (0,0)) (by (with_reducible repeat (first | refine blk_drewN ?_ _ | refine blk_drew ?_ | refine blk_alloc ?_ _));exact BK158.out) hb);have n1_ := Aside0.mk (blk_below (g := gb159) (o := .cells #[.bool false,.string (⟨#[]⟩ : ByteArray),.int .i64 0] 23 (0,0)) (by (with_reducible repeat (first | refine blk_drewN ?_ _ | refine blk_drew ?_ | refine blk_alloc ?_ _));exact BK159.out) hb);have n2_ := Aside0.mk (below_step (by repeat (first | (with_reducible first | exact HB.out | apply below_alloc | apply pw_below_drewN | apply below_drew1 | refine below_set ?_ GE158.out | refine below_set ?_ GE159.out) | exact HB.out)) hb);clear BK158;clear BK159;clear HB;have BK158 := n0_;have BK159 := n1_;have HB := n2_;clear n0_ n1_ n2_;(try clear hb);(try clear hb2);(try clear hk);(try clear hi)))
     go_meet
     case rel => exact ⟨_,(true),(by first | rfl | (simp;done) | (simp [*];done)),H',⟨by first | omega | exact Nat.le_refl _⟩,⟨by (with_reducible repeat (first | refine blk_drewN ?_ _ | refine blk_drew ?_ | refine blk_alloc ?_ _));exact BK158.out⟩,⟨by (with_reducible repeat (first | refine blk_drewN ?_ _ | refine blk_drew ?_ | refine blk_alloc ?_ _));exact BK159.out⟩,⟨by repeat (first | (with_reducible first | exact HB.out | apply below_alloc | apply pw_below_drewN | apply below_drew1 | refine below_set ?_ GE158.out | refine below_set ?_ GE159.out) | exact HB.out)⟩⟩
    ·rw [if_neg c13] at H
     have c13b0 : decide (5 < a2) = false := decide_eq_false c13
     clear c13
     by_cases c17 : a1 < (-100000)
     ·rw [if_pos c17] at H
      have c17b0 : decide (a1 < (-100000)) = true := decide_eq_true c17
      clear c17
      have H' := Aside0.mk H
      clear H
      have hnb18 := NB158_159.out
      have hnc18 := NB159_158.out
      have hcz19_0 : w6.cell? ⟨gb158,0,none⟩ = some (.bool a0_0) := (blk_cell BK158.out 0).trans rfl
      have hcz19_1 : w6.cell? ⟨gb158,1,none⟩ = some (.string a0_1) := (blk_cell BK158.out 1).trans rfl
      have hcz19_2 : w6.cell? ⟨gb158,2,none⟩ = some (.int .i64 a0_2) := (blk_cell BK158.out 2).trans rfl
      have hfz19_0 := blk_frozen BK158.out 0
      have hfz19_1 := blk_frozen BK158.out 1
      have hfz19_2 := blk_frozen BK158.out 2
      go_wp2_with (first | ((with_reducible refine gate_callee (f := 7) rfl ?_);refine goesL_ (some 10) rfl rfl Tryz.func7 (by kernel_rfl) rfl #[.agg #[.bool a0_0,.string a0_1,.int .i64 a0_2]] rfl (by (try simp only [List.map_toArray,List.map_cons,List.map_nil]);first | done | rfl | (simp only [List.length_drop,List.length_take];rfl)) ?_;(with_reducible refine (decimal_Right.calls a0_0 a0_1 a0_2 true _ A7.out).mono ?_);rintro e w20 ⟨rfl,hb⟩;refine ⟨_,rfl,?_⟩;have n0_ := Aside0.mk (blk_below (g := gb158) (o := .cells #[.bool a0_0,.string a0_1,.int .i64 a0_2] 23 (0,0)) (by (with_reducible repeat (first | refine blk_drewN ?_ _ | refine blk_drew ?_ | refine blk_alloc ?_ _));exact BK158.out) hb);have n1_ := Aside0.mk (blk_below (g := gb159) (o := .cells #[.bool false,.string (⟨#[]⟩ : ByteArray),.int .i64 0] 23 (0,0)) (by (with_reducible repeat (first | refine blk_drewN ?_ _ | refine blk_drew ?_ | refine blk_alloc ?_ _));exact BK159.out) hb);have n2_ := Aside0.mk (below_step (by repeat (first | (with_reducible first | exact HB.out | apply below_alloc | apply pw_below_drewN | apply below_drew1 | refine below_set ?_ GE158.out | refine below_set ?_ GE159.out) | exact HB.out)) hb);clear BK158;clear BK159;clear HB;have BK158 := n0_;have BK159 := n1_;have HB := n2_;clear n0_ n1_ n2_;(try clear hb);(try clear hb2);(try clear hk);(try clear hi)))
      go_meet
      case rel => exact ⟨_,(true),(by first | rfl | (simp;done) | (simp [*];done)),H',⟨by first | omega | exact Nat.le_refl _⟩,⟨by (with_reducible repeat (first | refine blk_drewN ?_ _ | refine blk_drew ?_ | refine blk_alloc ?_ _));exact BK158.out⟩,⟨by (with_reducible repeat (first | refine blk_drewN ?_ _ | refine blk_drew ?_ | refine blk_alloc ?_ _));exact BK159.out⟩,⟨by repeat (first | (with_reducible first | exact HB.out | apply below_alloc | apply pw_below_drewN | apply below_drew1 | refine below_set ?_ GE158.out | refine below_set ?_ GE159.out) | exact HB.out)⟩⟩
     ·rw [if_neg c17] at H
      have c17b0 : decide (a1 < (-100000)) = false := decide_eq_false c17
      clear c17
      have H' := Aside0.mk H
      clear H
      have hnb21 := NB158_159.out
      have hnc21 := NB159_158.out
      have hcz22_0 : w6.cell? ⟨gb158,0,none⟩ = some (.bool a0_0) := (blk_cell BK158.out 0).trans rfl
      have hcz22_1 : w6.cell? ⟨gb158,1,none⟩ = some (.string a0_1) := (blk_cell BK158.out 1).trans rfl
      have hcz22_2 : w6.cell? ⟨gb158,2,none⟩ = some (.int .i64 a0_2) := (blk_cell BK158.out 2).trans rfl
      have hfz22_0 := blk_frozen BK158.out 0
      have hfz22_1 := blk_frozen BK158.out 1
      have hfz22_2 := blk_frozen BK158.out 2
      go_wp2_with (first | ((with_reducible refine gate_callee (f := 7) rfl ?_);refine goesL_ (some 10) rfl rfl Tryz.func7 (by kernel_rfl) rfl #[.agg #[.bool a0_0,.string a0_1,.int .i64 a0_2]] rfl (by (try simp only [List.map_toArray,List.map_cons,List.map_nil]);first | done | rfl | (simp only [List.length_drop,List.length_take];rfl)) ?_;(with_reducible refine (decimal_Right.calls a0_0 a0_1 a0_2 true _ A7.out).mono ?_);rintro e w23 ⟨rfl,hb⟩;refine ⟨_,rfl,?_⟩;have n0_ := Aside0.mk (blk_below (g := gb158) (o := .cells #[.bool a0_0,.string a0_1,.int .i64 a0_2] 23 (0,0)) (by (with_reducible repeat (first | refine blk_drewN ?_ _ | refine blk_drew ?_ | refine blk_alloc ?_ _));exact BK158.out) hb);have n1_ := Aside0.mk (blk_below (g := gb159) (o := .cells #[.bool false,.string (⟨#[]⟩ : ByteArray),.int .i64 0] 23 (0,0)) (by (with_reducible repeat (first | refine blk_drewN ?_ _ | refine blk_drew ?_ | refine blk_alloc ?_ _));exact BK159.out) hb);have n2_ := Aside0.mk (below_step (by repeat (first | (with_reducible first | exact HB.out | apply below_alloc | apply pw_below_drewN | apply below_drew1 | refine below_set ?_ GE158.out | refine below_set ?_ GE159.out) | exact HB.out)) hb);clear BK158;clear BK159;clear HB;have BK158 := n0_;have BK159 := n1_;have HB := n2_;clear n0_ n1_ n2_;(try clear hb);(try clear hb2);(try clear hk);(try clear hi)))
      go_meet
      case rel => exact ⟨_,(decide (a1 > 100000)),(by first | rfl | (simp;done) | (simp [*];done)),H',⟨by first | omega | exact Nat.le_refl _⟩,⟨by (with_reducible repeat (first | refine blk_drewN ?_ _ | refine blk_drew ?_ | refine blk_alloc ?_ _));exact BK158.out⟩,⟨by (with_reducible repeat (first | refine blk_drewN ?_ _ | refine blk_drew ?_ | refine blk_alloc ?_ _));exact BK159.out⟩,⟨by repeat (first | (with_reducible first | exact HB.out | apply below_alloc | apply pw_below_drewN | apply below_drew1 | refine below_set ?_ GE158.out | refine below_set ?_ GE159.out) | exact HB.out)⟩⟩
  ·replace c8 := Bool.eq_false_iff.mpr c8
   subst c8
   have H1 : (decimal_Place.j0 k a1 a2 true a0_0 a0_1 a0_2) = some (r1,r2,r3,r4) := by rw [if_neg (show ¬ (false = true) by decide)] at H;exact H
   clear H
   have H := H1
   clear H1
   have H' := Aside0.mk H
   clear H
   have hnb24 := NB158_159.out
   have hnc24 := NB159_158.out
   have hcz25_0 : w6.cell? ⟨gb158,0,none⟩ = some (.bool a0_0) := (blk_cell BK158.out 0).trans rfl
   have hcz25_1 : w6.cell? ⟨gb158,1,none⟩ = some (.string a0_1) := (blk_cell BK158.out 1).trans rfl
   have hcz25_2 : w6.cell? ⟨gb158,2,none⟩ = some (.int .i64 a0_2) := (blk_cell BK158.out 2).trans rfl
   have hfz25_0 := blk_frozen BK158.out 0
   have hfz25_1 := blk_frozen BK158.out 1
   have hfz25_2 := blk_frozen BK158.out 2
   go_wp2_with (first | ((with_reducible refine gate_callee (f := 7) rfl ?_);refine goesL_ (some 10) rfl rfl Tryz.func7 (by kernel_rfl) rfl #[.agg #[.bool a0_0,.string a0_1,.int .i64 a0_2]] rfl (by (try simp only [List.map_toArray,List.map_cons,List.map_nil]);first | done | rfl | (simp only [List.length_drop,List.length_take];rfl)) ?_;(with_reducible refine (decimal_Right.calls a0_0 a0_1 a0_2 false _ A7.out).mono ?_);rintro e w26 ⟨rfl,hb⟩;refine ⟨_,rfl,?_⟩;have n0_ := Aside0.mk (blk_below (g := gb158) (o := .cells #[.bool a0_0,.string a0_1,.int .i64 a0_2] 23 (0,0)) (by (with_reducible repeat (first | refine blk_drewN ?_ _ | refine blk_drew ?_ | refine blk_alloc ?_ _));exact BK158.out) hb);have n1_ := Aside0.mk (blk_below (g := gb159) (o := .cells #[.bool false,.string (⟨#[]⟩ : ByteArray),.int .i64 0] 23 (0,0)) (by (with_reducible repeat (first | refine blk_drewN ?_ _ | refine blk_drew ?_ | refine blk_alloc ?_ _));exact BK159.out) hb);have n2_ := Aside0.mk (below_step (by repeat (first | (with_reducible first | exact HB.out | apply below_alloc | apply pw_below_drewN | apply below_drew1 | refine below_set ?_ GE158.out | refine below_set ?_ GE159.out) | exact HB.out)) hb);clear BK158;clear BK159;clear HB;have BK158 := n0_;have BK159 := n1_;have HB := n2_;clear n0_ n1_ n2_;(try clear hb);(try clear hb2);(try clear hk);(try clear hi)))
   go_meet
   case rel => exact ⟨_,(true),(by first | rfl | (simp;done) | (simp [*];done)),H',⟨by first | omega | exact Nat.le_refl _⟩,⟨by (with_reducible repeat (first | refine blk_drewN ?_ _ | refine blk_drew ?_ | refine blk_alloc ?_ _));exact BK158.out⟩,⟨by (with_reducible repeat (first | refine blk_drewN ?_ _ | refine blk_drew ?_ | refine blk_alloc ?_ _));exact BK159.out⟩,⟨by repeat (first | (with_reducible first | exact HB.out | apply below_alloc | apply pw_below_drewN | apply below_drew1 | refine below_set ?_ GE158.out | refine below_set ?_ GE159.out) | exact HB.out)⟩⟩
 case rest =>
  clear HC4
  try clear c1
  try clear c2
  try clear p2
  try clear c7
  try clear c8
  try clear c9
  try clear c9b0
  try clear c10
  try clear c13
  try clear c13b0
  try clear c14
  try clear c15
  try clear c17
  try clear c17b0
  try clear c18
  try clear c21
  try clear c24
  try clear hcz11_0
  try clear hcz11_1
  try clear hcz11_2
  try clear hcz15_0
  try clear hcz15_1
  try clear hcz15_2
  try clear hcz19_0
  try clear hcz19_1
  try clear hcz19_2
  try clear hcz22_0
  try clear hcz22_1
  try clear hcz22_2
  try clear hcz25_0
  try clear hcz25_1
  try clear hcz25_2
  try clear hfz11_0
  try clear hfz11_1
  try clear hfz11_2
  try clear hfz15_0
  try clear hfz15_1
  try clear hfz15_2
  try clear hfz19_0
  try clear hfz19_1
  try clear hfz19_2
  try clear hfz22_0
  try clear hfz22_1
  try clear hfz22_2
  try clear hfz25_0
  try clear hfz25_1
  try clear hfz25_2
  obtain ⟨kq,x27_3,rfl,HA,HJ3,BK158,BK159,HB⟩ := hcut
  cases kq with
  | zero => exact absurd HA.out (by simp [decimal_Place.j0])
  | succ kj3 =>
   have H := HA.out
   clear HA
   simp only [decimal_Place.j0] at H
   by_cases c27 : x27_3 = true
   ·subst c27
    have H1 : (some (false,(⟨#[]⟩ : ByteArray),0,1)) = some (r1,r2,r3,r4) := by rw [if_pos rfl] at H;exact H
    clear H
    have H := H1
    clear H1
    simp only [Option.some.injEq,Prod.mk.injEq] at H
    obtain ⟨rfl,rfl,rfl,rfl⟩ := H
    have hnb28 := NB159_158.out
    have hnc28 := NB158_159.out
    have hcz29_0 : wc.cell? ⟨gb159,0,none⟩ = some (.bool false) := (blk_cell BK159.out 0).trans rfl
    have hcz29_1 : wc.cell? ⟨gb159,1,none⟩ = some (.string (⟨#[]⟩ : ByteArray)) := (blk_cell BK159.out 1).trans rfl
    have hcz29_2 : wc.cell? ⟨gb159,2,none⟩ = some (.int .i64 0) := (blk_cell BK159.out 2).trans rfl
    have hfz29_0 := blk_frozen BK159.out 0
    have hfz29_1 := blk_frozen BK159.out 1
    have hfz29_2 := blk_frozen BK159.out 2
    go_wp2
    refine bodyPost_ret (results_ct rfl _ _ gb159 23 #[.bool false,.string (⟨#[]⟩ : ByteArray),.int .i64 0] (0,0) _ rfl (by (with_reducible repeat (first | refine blk_drewN ?_ _ | refine blk_drew ?_ | refine blk_alloc ?_ _));refine blk_put (cs := #[.bool false,.string (⟨#[]⟩ : ByteArray),.int .i64 0]) ?_ 2 _ rfl;(with_reducible repeat (first | refine blk_drewN ?_ _ | refine blk_drew ?_ | refine blk_alloc ?_ _));refine blk_put (cs := #[.bool false,.string (⟨#[]⟩ : ByteArray),.int .i64 0]) ?_ 1 _ rfl;(with_reducible repeat (first | refine blk_drewN ?_ _ | refine blk_drew ?_ | refine blk_alloc ?_ _));refine blk_put (cs := #[.bool false,.string (⟨#[]⟩ : ByteArray),.int .i64 0]) ?_ 0 _ rfl;(with_reducible repeat (first | refine blk_drewN ?_ _ | refine blk_drew ?_ | refine blk_alloc ?_ _));exact BK159.out) Tryz.underlying23 rfl (by kernel_rfl)) rfl ?_
    exact ⟨by first | rfl | (simp [errW_none,errW_some] <;> rfl) | (simp [*,errW_none,errW_some] <;> rfl),by repeat (first | (with_reducible first | exact HB.out | apply below_alloc | apply pw_below_drewN | apply below_drew1 | refine below_set ?_ GE158.out | refine below_set ?_ GE159.out) | exact HB.out)⟩
   ·replace c27 := Bool.eq_false_iff.mpr c27
    subst c27
    have H1 : ((decimal_Point.f a0_0 a0_1 a0_2).bind fun t161 => (if a0_1.toList = ([] : List UInt8) then (some (a0_0,a0_1,a0_2,0)) else (if (wrap64 (t161 + a1)) < (a0_1.size : Int) then ((decimal_cut.f kj3 a0_0 a0_1 a0_2 (wrap64 (t161 + a1)) a2).bind fun bt162 => (some (bt162.1,bt162.2.1,bt162.2.2.1,bt162.2.2.2))) else (some (a0_0,a0_1,a0_2,0))))) = some (r1,r2,r3,r4) := by rw [if_neg (show ¬ (false = true) by decide)] at H;exact H
    clear H
    have H := H1
    clear H1
    replace H := Option.bind_eq_some_iff.mp H
    obtain ⟨t161,A300,H⟩ := H
    replace H : (if a0_1.toList = ([] : List UInt8) then (some (a0_0,a0_1,a0_2,0)) else (if (wrap64 (t161 + a1)) < (a0_1.size : Int) then ((decimal_cut.f kj3 a0_0 a0_1 a0_2 (wrap64 (t161 + a1)) a2).bind fun bt162 => (some (bt162.1,bt162.2.1,bt162.2.2.1,bt162.2.2.2))) else (some (a0_0,a0_1,a0_2,0)))) = some (r1,r2,r3,r4) := H
    have A30 := Aside0.mk A300
    clear A300
    by_cases c31 : a0_1.toList = ([] : List UInt8)
    ·rw [if_pos c31] at H
     have c31b0 : (a0_1.toList == ([] : List UInt8)) = true := beq_iff_eq.mpr c31
     have c31b1 : (a0_1.toList != ([] : List UInt8)) = false := bne_eq_false_iff_eq.mpr c31
     clear c31
     simp only [Option.some.injEq,Prod.mk.injEq] at H
     obtain ⟨rfl,rfl,rfl,rfl⟩ := H
     have hnb32 := NB158_159.out
     have hnc32 := NB159_158.out
     have hcz33_0 : wc.cell? ⟨gb158,0,none⟩ = some (.bool a0_0) := (blk_cell BK158.out 0).trans rfl
     have hcz33_1 : wc.cell? ⟨gb158,1,none⟩ = some (.string a0_1) := (blk_cell BK158.out 1).trans rfl
     have hcz33_2 : wc.cell? ⟨gb158,2,none⟩ = some (.int .i64 a0_2) := (blk_cell BK158.out 2).trans rfl
     have hfz33_0 := blk_frozen BK158.out 0
     have hfz33_1 := blk_frozen BK158.out 1
     have hfz33_2 := blk_frozen BK158.out 2
     go_wp2_with (first | ((with_reducible refine gate_callee (f := 9) rfl ?_);refine goesL_ (some 30) rfl rfl Tryz.func9 (by kernel_rfl) rfl #[.agg #[.bool a0_0,.string a0_1,.int .i64 a0_2]] rfl (by (try simp only [List.map_toArray,List.map_cons,List.map_nil]);first | done | rfl | (simp only [List.length_drop,List.length_take];rfl)) ?_;(with_reducible refine (decimal_Point.calls a0_0 a0_1 a0_2 t161 _ A30.out).mono ?_);rintro e w34 ⟨rfl,hb⟩;refine ⟨_,rfl,?_⟩;have n0_ := Aside0.mk (blk_below (g := gb158) (o := .cells #[.bool a0_0,.string a0_1,.int .i64 a0_2] 23 (0,0)) (by (with_reducible repeat (first | refine blk_drewN ?_ _ | refine blk_drew ?_ | refine blk_alloc ?_ _));exact BK158.out) hb);have n1_ := Aside0.mk (blk_below (g := gb159) (o := .cells #[.bool false,.string (⟨#[]⟩ : ByteArray),.int .i64 0] 23 (0,0)) (by (with_reducible repeat (first | refine blk_drewN ?_ _ | refine blk_drew ?_ | refine blk_alloc ?_ _));exact BK159.out) hb);have n2_ := Aside0.mk (below_step (by repeat (first | (with_reducible first | exact HB.out | apply below_alloc | apply pw_below_drewN | apply below_drew1 | refine below_set ?_ GE158.out | refine below_set ?_ GE159.out) | exact HB.out)) hb);clear BK158;clear BK159;clear HB;have BK158 := n0_;have BK159 := n1_;have HB := n2_;clear n0_ n1_ n2_;(try clear hb);(try clear hb2);(try clear hk);(try clear hi);have hcz35_0 : w34.cell? ⟨gb158,0,none⟩ = some (.bool a0_0) := (blk_cell BK158.out 0).trans rfl;have hcz35_1 : w34.cell? ⟨gb158,1,none⟩ = some (.string a0_1) := (blk_cell BK158.out 1).trans rfl;have hcz35_2 : w34.cell? ⟨gb158,2,none⟩ = some (.int .i64 a0_2) := (blk_cell BK158.out 2).trans rfl;have hfz35_0 := blk_frozen BK158.out 0;have hfz35_1 := blk_frozen BK158.out 1;have hfz35_2 := blk_frozen BK158.out 2;have hcz36_0 : w34.cell? ⟨gb159,0,none⟩ = some (.bool false) := (blk_cell BK159.out 0).trans rfl;have hcz36_1 : w34.cell? ⟨gb159,1,none⟩ = some (.string (⟨#[]⟩ : ByteArray)) := (blk_cell BK159.out 1).trans rfl;have hcz36_2 : w34.cell? ⟨gb159,2,none⟩ = some (.int .i64 0) := (blk_cell BK159.out 2).trans rfl;have hfz36_0 := blk_frozen BK159.out 0;have hfz36_1 := blk_frozen BK159.out 1;have hfz36_2 := blk_frozen BK159.out 2))
     refine bodyPost_ret (results_ct rfl _ _ gb159 23 #[.bool a0_0,.string a0_1,.int .i64 a0_2] (0,0) _ rfl (by (with_reducible repeat (first | refine blk_drewN ?_ _ | refine blk_drew ?_ | refine blk_alloc ?_ _));refine blk_put (cs := #[.bool a0_0,.string a0_1,.int .i64 0]) ?_ 2 _ rfl;(with_reducible repeat (first | refine blk_drewN ?_ _ | refine blk_drew ?_ | refine blk_alloc ?_ _));refine blk_put (cs := #[.bool a0_0,.string (⟨#[]⟩ : ByteArray),.int .i64 0]) ?_ 1 _ rfl;(with_reducible repeat (first | refine blk_drewN ?_ _ | refine blk_drew ?_ | refine blk_alloc ?_ _));refine blk_put (cs := #[.bool false,.string (⟨#[]⟩ : ByteArray),.int .i64 0]) ?_ 0 _ rfl;(with_reducible repeat (first | refine blk_drewN ?_ _ | refine blk_drew ?_ | refine blk_alloc ?_ _));exact BK159.out) Tryz.underlying23 rfl (by kernel_rfl)) rfl ?_
     exact ⟨by first | rfl | (simp [errW_none,errW_some] <;> rfl) | (simp [*,errW_none,errW_some] <;> rfl),by repeat (first | (with_reducible first | exact HB.out | apply below_alloc | apply pw_below_drewN | apply below_drew1 | refine below_set ?_ GE158.out | refine below_set ?_ GE159.out) | exact HB.out)⟩
    ·rw [if_neg c31] at H
     have c31b0 : (a0_1.toList == ([] : List UInt8)) = false := beq_eq_false_iff_ne.mpr c31
     have c31b1 : (a0_1.toList != ([] : List UInt8)) = true := bne_iff_ne.mpr c31
     by_cases c37 : (wrap64 (t161 + a1)) < (a0_1.size : Int)
     ·rw [if_pos c37] at H
      have c37b0 : decide ((wrap64 (t161 + a1)) < (a0_1.size : Int)) = true := decide_eq_true c37
      clear c37
      replace H := Option.bind_eq_some_iff.mp H
      obtain ⟨⟨t162,t163,t164,t165⟩,A380,H⟩ := H
      replace H : (some (t162,t163,t164,t165)) = some (r1,r2,r3,r4) := H
      have A38 := Aside0.mk A380
      clear A380
      simp only [Option.some.injEq,Prod.mk.injEq] at H
      obtain ⟨rfl,rfl,rfl,rfl⟩ := H
      have hnb39 := NB158_159.out
      have hnc39 := NB159_158.out
      have hcz40_0 : wc.cell? ⟨gb158,0,none⟩ = some (.bool a0_0) := (blk_cell BK158.out 0).trans rfl
      have hcz40_1 : wc.cell? ⟨gb158,1,none⟩ = some (.string a0_1) := (blk_cell BK158.out 1).trans rfl
      have hcz40_2 : wc.cell? ⟨gb158,2,none⟩ = some (.int .i64 a0_2) := (blk_cell BK158.out 2).trans rfl
      have hfz40_0 := blk_frozen BK158.out 0
      have hfz40_1 := blk_frozen BK158.out 1
      have hfz40_2 := blk_frozen BK158.out 2
      go_wp2_with (first | ((with_reducible refine gate_callee (f := 9) rfl ?_);refine goesL_ (some 30) rfl rfl Tryz.func9 (by kernel_rfl) rfl #[.agg #[.bool a0_0,.string a0_1,.int .i64 a0_2]] rfl (by (try simp only [List.map_toArray,List.map_cons,List.map_nil]);first | done | rfl | (simp only [List.length_drop,List.length_take];rfl)) ?_;(with_reducible refine (decimal_Point.calls a0_0 a0_1 a0_2 t161 _ A30.out).mono ?_);rintro e w41 ⟨rfl,hb⟩;refine ⟨_,rfl,?_⟩;have n0_ := Aside0.mk (blk_below (g := gb158) (o := .cells #[.bool a0_0,.string a0_1,.int .i64 a0_2] 23 (0,0)) (by (with_reducible repeat (first | refine blk_drewN ?_ _ | refine blk_drew ?_ | refine blk_alloc ?_ _));exact BK158.out) hb);have n1_ := Aside0.mk (blk_below (g := gb159) (o := .cells #[.bool false,.string (⟨#[]⟩ : ByteArray),.int .i64 0] 23 (0,0)) (by (with_reducible repeat (first | refine blk_drewN ?_ _ | refine blk_drew ?_ | refine blk_alloc ?_ _));exact BK159.out) hb);have n2_ := Aside0.mk (below_step (by repeat (first | (with_reducible first | exact HB.out | apply below_alloc | apply pw_below_drewN | apply below_drew1 | refine below_set ?_ GE158.out | refine below_set ?_ GE159.out) | exact HB.out)) hb);clear BK158;clear BK159;clear HB;have BK158 := n0_;have BK159 := n1_;have HB := n2_;clear n0_ n1_ n2_;(try clear hb);(try clear hb2);(try clear hk);(try clear hi);have hcz42_0 : w41.cell? ⟨gb158,0,none⟩ = some (.bool a0_0) := (blk_cell BK158.out 0).trans rfl;have hcz42_1 : w41.cell? ⟨gb158,1,none⟩ = some (.string a0_1) := (blk_cell BK158.out 1).trans rfl;have hcz42_2 : w41.cell? ⟨gb158,2,none⟩ = some (.int .i64 a0_2) := (blk_cell BK158.out 2).trans rfl;have hfz42_0 := blk_frozen BK158.out 0;have hfz42_1 := blk_frozen BK158.out 1;have hfz42_2 := blk_frozen BK158.out 2) | ((with_reducible refine gate_callee (f := 27) rfl ?_);refine goesL_ (some 46) rfl rfl Tryz.func27 (by kernel_rfl) rfl #[.agg #[.bool a0_0,.string a0_1,.int .i64 a0_2],.int .i64 (wrap64 (t161 + a1)),.int .i64 a2] rfl (by (try simp only [List.map_toArray,List.map_cons,List.map_nil]);first | done | rfl | (simp only [List.length_drop,List.length_take];rfl)) ?_;(with_reducible refine (decimal_cut.calls kj3 a0_0 a0_1 a0_2 (wrap64 (t161 + a1)) a2 t162 t163 t164 t165 _ A38.out).mono ?_);rintro e w43 ⟨rfl,hb⟩;refine ⟨_,rfl,?_⟩;have n0_ := Aside0.mk (blk_below (g := gb158) (o := .cells #[.bool a0_0,.string a0_1,.int .i64 a0_2] 23 (0,0)) (by (with_reducible repeat (first | refine blk_drewN ?_ _ | refine blk_drew ?_ | refine blk_alloc ?_ _));exact BK158.out) hb);have n1_ := Aside0.mk (blk_below (g := gb159) (o := .cells #[.bool false,.string (⟨#[]⟩ : ByteArray),.int .i64 0] 23 (0,0)) (by (with_reducible repeat (first | refine blk_drewN ?_ _ | refine blk_drew ?_ | refine blk_alloc ?_ _));exact BK159.out) hb);have n2_ := Aside0.mk (below_step (by repeat (first | (with_reducible first | exact HB.out | apply below_alloc | apply pw_below_drewN | apply below_drew1 | refine below_set ?_ GE158.out | refine below_set ?_ GE159.out) | exact HB.out)) hb);clear BK158;clear BK159;clear HB;have BK158 := n0_;have BK159 := n1_;have HB := n2_;clear n0_ n1_ n2_;(try clear hb);(try clear hb2);(try clear hk);(try clear hi);have hcz44_0 : w43.cell? ⟨gb159,0,none⟩ = some (.bool false) := (blk_cell BK159.out 0).trans rfl;have hcz44_1 : w43.cell? ⟨gb159,1,none⟩ = some (.string (⟨#[]⟩ : ByteArray)) := (blk_cell BK159.out 1).trans rfl;have hcz44_2 : w43.cell? ⟨gb159,2,none⟩ = some (.int .i64 0) := (blk_cell BK159.out 2).trans rfl;have hfz44_0 := blk_frozen BK159.out 0;have hfz44_1 := blk_frozen BK159.out 1;have hfz44_2 := blk_frozen BK159.out 2))
      refine bodyPost_ret (results_ct rfl _ _ gb159 23 #[.bool t162,.string t163,.int .i64 t164] (0,0) _ rfl (by (with_reducible repeat (first | refine blk_drewN ?_ _ | refine blk_drew ?_ | refine blk_alloc ?_ _));refine blk_put (cs := #[.bool t162,.string t163,.int .i64 0]) ?_ 2 _ rfl;(with_reducible repeat (first | refine blk_drewN ?_ _ | refine blk_drew ?_ | refine blk_alloc ?_ _));refine blk_put (cs := #[.bool t162,.string (⟨#[]⟩ : ByteArray),.int .i64 0]) ?_ 1 _ rfl;(with_reducible repeat (first | refine blk_drewN ?_ _ | refine blk_drew ?_ | refine blk_alloc ?_ _));refine blk_put (cs := #[.bool false,.string (⟨#[]⟩ : ByteArray),.int .i64 0]) ?_ 0 _ rfl;(with_reducible repeat (first | refine blk_drewN ?_ _ | refine blk_drew ?_ | refine blk_alloc ?_ _));exact BK159.out) Tryz.underlying23 rfl (by kernel_rfl)) rfl ?_
      exact ⟨by first | rfl | (simp [errW_none,errW_some] <;> rfl) | (simp [*,errW_none,errW_some] <;> rfl),by repeat (first | (with_reducible first | exact HB.out | apply below_alloc | apply pw_below_drewN | apply below_drew1 | refine below_set ?_ GE158.out | refine below_set ?_ GE159.out) | exact HB.out)⟩
     ·rw [if_neg c37] at H
      have c37b0 : decide ((wrap64 (t161 + a1)) < (a0_1.size : Int)) = false := decide_eq_false c37
      clear c37
      simp only [Option.some.injEq,Prod.mk.injEq] at H
      obtain ⟨rfl,rfl,rfl,rfl⟩ := H
      have hnb45 := NB158_159.out
      have hnc45 := NB159_158.out
      have hcz46_0 : wc.cell? ⟨gb158,0,none⟩ = some (.bool a0_0) := (blk_cell BK158.out 0).trans rfl
      have hcz46_1 : wc.cell? ⟨gb158,1,none⟩ = some (.string a0_1) := (blk_cell BK158.out 1).trans rfl
      have hcz46_2 : wc.cell? ⟨gb158,2,none⟩ = some (.int .i64 a0_2) := (blk_cell BK158.out 2).trans rfl
      have hfz46_0 := blk_frozen BK158.out 0
      have hfz46_1 := blk_frozen BK158.out 1
      have hfz46_2 := blk_frozen BK158.out 2
      go_wp2_with (first | ((with_reducible refine gate_callee (f := 9) rfl ?_);refine goesL_ (some 30) rfl rfl Tryz.func9 (by kernel_rfl) rfl #[.agg #[.bool a0_0,.string a0_1,.int .i64 a0_2]] rfl (by (try simp only [List.map_toArray,List.map_cons,List.map_nil]);first | done | rfl | (simp only [List.length_drop,List.length_take];rfl)) ?_;(with_reducible refine (decimal_Point.calls a0_0 a0_1 a0_2 t161 _ A30.out).mono ?_);rintro e w47 ⟨rfl,hb⟩;refine ⟨_,rfl,?_⟩;have n0_ := Aside0.mk (blk_below (g := gb158) (o := .cells #[.bool a0_0,.string a0_1,.int .i64 a0_2] 23 (0,0)) (by (with_reducible repeat (first | refine blk_drewN ?_ _ | refine blk_drew ?_ | refine blk_alloc ?_ _));exact BK158.out) hb);have n1_ := Aside0.mk (blk_below (g := gb159) (o := .cells #[.bool false,.string (⟨#[]⟩ : ByteArray),.int .i64 0] 23 (0,0)) (by (with_reducible repeat (first | refine blk_drewN ?_ _ | refine blk_drew ?_ | refine blk_alloc ?_ _));exact BK159.out) hb);have n2_ := Aside0.mk (below_step (by repeat (first | (with_reducible first | exact HB.out | apply below_alloc | apply pw_below_drewN | apply below_drew1 | refine below_set ?_ GE158.out | refine below_set ?_ GE159.out) | exact HB.out)) hb);clear BK158;clear BK159;clear HB;have BK158 := n0_;have BK159 := n1_;have HB := n2_;clear n0_ n1_ n2_;(try clear hb);(try clear hb2);(try clear hk);(try clear hi);have hcz48_0 : w47.cell? ⟨gb158,0,none⟩ = some (.bool a0_0) := (blk_cell BK158.out 0).trans rfl;have hcz48_1 : w47.cell? ⟨gb158,1,none⟩ = some (.string a0_1) := (blk_cell BK158.out 1).trans rfl;have hcz48_2 : w47.cell? ⟨gb158,2,none⟩ = some (.int .i64 a0_2) := (blk_cell BK158.out 2).trans rfl;have hfz48_0 := blk_frozen BK158.out 0;have hfz48_1 := blk_frozen BK158.out 1;have hfz48_2 := blk_frozen BK158.out 2;have hcz49_0 : w47.cell? ⟨gb159,0,none⟩ = some (.bool false) := (blk_cell BK159.out 0).trans rfl;have hcz49_1 : w47.cell? ⟨gb159,1,none⟩ = some (.string (⟨#[]⟩ : ByteArray)) := (blk_cell BK159.out 1).trans rfl;have hcz49_2 : w47.cell? ⟨gb159,2,none⟩ = some (.int .i64 0) := (blk_cell BK159.out 2).trans rfl;have hfz49_0 := blk_frozen BK159.out 0;have hfz49_1 := blk_frozen BK159.out 1;have hfz49_2 := blk_frozen BK159.out 2))
      refine bodyPost_ret (results_ct rfl _ _ gb159 23 #[.bool a0_0,.string a0_1,.int .i64 a0_2] (0,0) _ rfl (by (with_reducible repeat (first | refine blk_drewN ?_ _ | refine blk_drew ?_ | refine blk_alloc ?_ _));refine blk_put (cs := #[.bool a0_0,.string a0_1,.int .i64 0]) ?_ 2 _ rfl;(with_reducible repeat (first | refine blk_drewN ?_ _ | refine blk_drew ?_ | refine blk_alloc ?_ _));refine blk_put (cs := #[.bool a0_0,.string (⟨#[]⟩ : ByteArray),.int .i64 0]) ?_ 1 _ rfl;(with_reducible repeat (first | refine blk_drewN ?_ _ | refine blk_drew ?_ | refine blk_alloc ?_ _));refine blk_put (cs := #[.bool false,.string (⟨#[]⟩ : ByteArray),.int .i64 0]) ?_ 0 _ rfl;(with_reducible repeat (first | refine blk_drewN ?_ _ | refine blk_drew ?_ | refine blk_alloc ?_ _));exact BK159.out) Tryz.underlying23 rfl (by kernel_rfl)) rfl ?_
      exact ⟨by first | rfl | (simp [errW_none,errW_some] <;> rfl) | (simp [*,errW_none,errW_some] <;> rfl),by repeat (first | (with_reducible first | exact HB.out | apply below_alloc | apply pw_below_drewN | apply below_drew1 | refine below_set ?_ GE158.out | refine below_set ?_ GE159.out) | exact HB.out)⟩

/-! ### decimal_digits: function 29 -/
def decimal_digits.f (a0 : ByteArray) : Option (ByteArray × ByteArray) := (strings_TrimLeft.f a0 (⟨#[48,49,50,51,52,53,54,55,56,57]⟩ : ByteArray)).bind fun t166 => (if 0 ≤ (wrap64 ((a0.size : Int) - (t166.size : Int))) then (if (wrap64 ((a0.size : Int) - (t166.size : Int))) ≤ (a0.size : Int) then (some (a0.extract 0 ((wrap64 ((a0.size : Int) - (t166.size : Int))) : Int).toNat,t166)) else (none)) else (none))
set_option maxHeartbeats 8000000 in
set_option maxRecDepth 100000 in
theorem decimal_digits.calls (a0 : ByteArray) (r1 : ByteArray) (r2 : ByteArray) (w : World) (h : decimal_digits.f a0 = some (r1,r2)) :
  Calls Tryz.prog 29 #[.string a0] w fun e w' => e = .returned (.tuple #[.string r1,.string r2]) ∧ Below w.heap.size w w' := by
 have HB := Aside0.mk (Below.refl w.heap.size w)
 have H : ((strings_TrimLeft.f a0 (⟨#[48,49,50,51,52,53,54,55,56,57]⟩ : ByteArray)).bind fun t166 => (if 0 ≤ (wrap64 ((a0.size : Int) - (t166.size : Int))) then (if (wrap64 ((a0.size : Int) - (t166.size : Int))) ≤ (a0.size : Int) then (some (a0.extract 0 ((wrap64 ((a0.size : Int) - (t166.size : Int))) : Int).toNat,t166)) else (none)) else (none))) = some (r1,r2) := h
 clear h
 replace H := Option.bind_eq_some_iff.mp H
 obtain ⟨t166,A20,H⟩ := H
 replace H : (if 0 ≤ (wrap64 ((a0.size : Int) - (t166.size : Int))) then (if (wrap64 ((a0.size : Int) - (t166.size : Int))) ≤ (a0.size : Int) then (some (a0.extract 0 ((wrap64 ((a0.size : Int) - (t166.size : Int))) : Int).toNat,t166)) else (none)) else (none)) = some (r1,r2) := H
 have A2 := Aside0.mk A20
 clear A20
 obtain ⟨ji3,hji3⟩ : ∃ j_ : Int,(wrap64 ((a0.size : Int) - (t166.size : Int))) = j_ := ⟨_,rfl⟩
 replace H : (if 0 ≤ (ji3) then (if (ji3) ≤ (a0.size : Int) then (some (a0.extract 0 ((ji3) : Int).toNat,t166)) else (none)) else (none)) = some (r1,r2) := by first | (rw [hji3] at H;exact H) | (simp only [hji3] at H ⊢;exact H)
 (try rw [hji3] at A2)
 have hji3w : (IntKind.i64.wrap ((a0.size : Int) - (t166.size : Int))) = ji3 := (i64_w _).trans hji3
 by_cases c4 : 0 ≤ (ji3)
 ·rw [if_pos c4] at H
  have c4b0 := eq_true c4
  have c4b1 : decide (0 ≤ (ji3)) = true := decide_eq_true c4
  clear c4
  by_cases c5 : (ji3) ≤ (a0.size : Int)
  ·rw [if_pos c5] at H
   have c5b0 := eq_true c5
   have c5b1 : decide ((ji3) ≤ (a0.size : Int)) = true := decide_eq_true c5
   clear c5
   simp only [Option.some.injEq,Prod.mk.injEq] at H
   obtain ⟨rfl,rfl⟩ := H
   go_enter Tryz.func29,Tryz.ntmps29
   go_wp2_with (first | ((with_reducible refine gate_callee (f := 19) rfl ?_);refine goesL_ (some 6) rfl rfl Tryz.func19 (by kernel_rfl) rfl #[.string a0,.string (⟨#[48,49,50,51,52,53,54,55,56,57]⟩ : ByteArray)] rfl (by (try simp only [List.map_toArray,List.map_cons,List.map_nil]);first | done | rfl | (simp only [List.length_drop,List.length_take];rfl)) ?_;(with_reducible refine (strings_TrimLeft.calls a0 (⟨#[48,49,50,51,52,53,54,55,56,57]⟩ : ByteArray) t166 _ A2.out).mono ?_);rintro e w6 ⟨rfl,hb⟩;refine ⟨_,rfl,?_⟩;have n0_ := Aside0.mk (below_step (by repeat (first | (with_reducible first | exact HB.out | apply below_alloc | apply pw_below_drewN | apply below_drew1) | exact HB.out)) hb);clear HB;have HB := n0_;clear n0_;(try clear hb);(try clear hb2);(try clear hk);(try clear hi)))
   go_ret2
   exact ⟨by first | rfl | (simp [errW_none,errW_some] <;> rfl) | (simp only [← hji3];first | rfl | (simp [errW_none,errW_some] <;> rfl)) | (simp [*,errW_none,errW_some] <;> rfl),by repeat (first | (with_reducible first | exact HB.out | apply below_alloc | apply pw_below_drewN | apply below_drew1) | exact HB.out)⟩
  ·rw [if_neg c5] at H
   exact absurd H (by simp)
 ·rw [if_neg c4] at H
  exact absurd H (by simp)

/-! ### strconv_Atoi: function 30 -/
theorem strconv_Atoi.calls (a0 : ByteArray) (r1 : Int) (r2 : Option Int) (w : World) (h : strconv_Atoi.f a0 = some (r1,r2)) :
  Calls Tryz.prog 30 #[.string a0] w fun e w' => e = .returned (.tuple #[.int .i64 r1,errW r2]) ∧ Below w.heap.size w w' := by
 unfold strconv_Atoi.f at h
 split at h
 ·rename_i hc
  obtain ⟨n,hn,he⟩ := Option.map_eq_some_iff.1 h
  obtain ⟨rfl,rfl⟩ := Prod.mk.inj he
  exact strconv_Atoi_ok a0 n w hc hn
 ·cases h

end Go.Proofs.YtneeeaafhjaooaaGreatDoor.P
